import Derived.Shelf.Strconv.Itoa3
import Derived.Test.YtlfmlodanoolhaaGreatDoorE44
set_option linter.all false
set_option maxRecDepth 200000
set_option maxHeartbeats 32000000
namespace Go.Proofs.YtlfmlodanoolhaaGreatDoor
open Go Go.RowKit Go.Proofs.Tryz
structure MInv(m:Mk):Prop where
 c0:0≤m.count
 c1:m.count≤65536
 b0:0≤m.bits
 b1:m.bits≤4096
 sg:m.d.sigs.length≤512
 pr:m.d.procs.length≤1024
 ck:(m.d.chks.length:Int)≤m.count
theorem MInv.cnt{m m':Mk}(h:MInv m)(hc:CntM m m'):MInv m':=by
 obtain⟨n,rfl,h1,h2⟩:=hc;have:=h.c0;have h3:=h.ck;exact⟨by show(0:Int)≤n;omega,h2,h.b0,h.b1,h.sg,h.pr,by show(m.d.chks.length:Int)≤n;omega⟩
theorem Good.signal{s:Sc}{m:Mk}{nm:ByteArray}{wd kind init:Int}{r:Sc×Mk}(hg:Good m.d.sigs s)(h:z2n nm wd kind init s m=.ok r)(hw:1≤wd∧wd≤64):Good r.2.d.sigs r.1:=by
 obtain⟨rfl,h1,h2⟩:=z3p h;refine⟨fun n a ha=>?_,fun g hgm=>?_,hg.env,hg.const⟩
 ·show 0≤a∧a<((m.d.sigs++[_]).length:Int);rw[List.length_append];have ha':z3h s.sigs nm (m.d.sigs.length:Int) n=some a:=ha;unfold z3h at ha';split at ha'
  ·injection ha' with e;simp;omega
  ·have:=hg.at_ n a ha';simp;omega
 ·rcases y2e.1 (show g∈m.d.sigs++[_] from hgm) with hm|hm
  ·exact hg.w g hm
  ·rw[List.mem_singleton.1 hm];exact hw
theorem MInv.signal{s:Sc}{m:Mk}{nm:ByteArray}{wd kind init:Int}{r:Sc×Mk}(hi:MInv m)(h:z2n nm wd kind init s m=.ok r)(hw:1≤wd∧wd≤64):MInv r.2:=by
 obtain⟨rfl,h1,h2⟩:=z3p h;have:=hi.b0;exact⟨hi.c0,hi.c1,by show 0≤m.bits+wd;omega,h2,by show(m.d.sigs++[_]).length≤512;rw[List.length_append];simp;omega,hi.pr,hi.ck⟩
theorem MInv.process{clk:Bool}{l:List DT}{m m':Mk}(hi:MInv m)(h:z1g clk l m=.ok m'):MInv m':=by
 obtain⟨rfl,h1⟩:=z2u h;exact⟨hi.c0,hi.c1,hi.b0,hi.b1,hi.sg,by show(m.d.procs++[_]).length≤1024;rw[List.length_append];simp;omega,hi.ck⟩
def TabP (w : World) : Prop := Lib.TabIs Tryz.prog w "internal/strconv.uint64pow10" .u64 Lib.pow10Tab
structure EC(W0:World)(B N0 mb sb mp:Nat)(vf:Value)(m:Mk)(s:Sc)(w:World):Prop where
 ex:∃vs vp vc ve,MkI w N0 mb vf vs vp vc m∧ScI w sb mp ve s
 cx:Cx W0 B w
 gd:Good m.d.sigs s
 inv:MInv m
 lo:W0.heap.size≤N0
 ls:W0.heap.size≤sb
 lm:W0.heap.size≤mp
 tab:TabP W0
section
variable {W0 w w' : World} {B N0 mb sb mp : Nat} {vf : Value} {m m' : Mk} {s s' : Sc}
theorem EC.stc(h:EC W0 B N0 mb sb mp vf m s w):∃vs vp vc ve,StC W0 B N0 mb sb mp vf vs vp vc ve m s w:=by
 obtain⟨vs,vp,vc,ve,h1,h2⟩:=h.ex;exact⟨vs,vp,vc,ve,h.cx,h1,h2,h.gd,h.inv.c0,h.inv.c1,y1k h.lo h1.base⟩
theorem EC.mlt(h:EC W0 B N0 mb sb mp vf m s w):mb<w.heap.size∧sb<w.heap.size∧mp<w.heap.size∧sb≠mb∧mp≠mb∧mp≠sb∧N0≤mb:=by
 obtain⟨vs,vp,vc,ve,h1,h2⟩:=h.ex;refine⟨h1.blk.lt,h2.blk.lt,h2.map.lt,fun e=>?_,fun e=>?_,fun e=>?_,h1.base⟩
 ·exact absurd (h2.blk.tag.one (e▸h1.blk.tag)) (by decide)
 ·exact h2.map.noTag (e▸h1.blk.tag)
 ·exact h2.map.noTag (e▸h2.blk.tag)
theorem EC.frI(h:EC W0 B N0 mb sb mp vf m s w)(hf:FrI N0 mb sb mp w w'){vs vp vc ve:Value}(hk:MkI w' N0 mb vf vs vp vc m')(hs:ScI w' sb mp ve s')(hg:Good m'.d.sigs s')(hi:MInv m'):EC W0 B N0 mb sb mp vf m' s' w':=by
 obtain⟨h1,h2,h3,h4,h5,h6,h7⟩:=h.mlt;exact⟨⟨vs,vp,vc,ve,hk,hs⟩,⟨h.cx.tabs,h.cx.hB,hf.ext h.cx.ext h.lo (y1k h.lo h7) h.ls h.lm⟩,hg,hi,h.lo,h.ls,h.lm,h.tab⟩
theorem EC.ext(h:EC W0 B N0 mb sb mp vf m s w)(hx:Ext w w'):EC W0 B N0 mb sb mp vf m s w':=by
 obtain⟨vs,vp,vc,ve,h1,h2⟩:=h.ex;exact h.frI (y1z hx) (h1.ext hx) (h2.ext hx) h.gd h.inv
theorem EC.of_stc(h:EC W0 B N0 mb sb mp vf m s w){vs vp vc ve:Value}(hx:FrI N0 mb sb mp w w')(k:StC W0 B N0 mb sb mp vf vs vp vc ve m' s w')(hc:CntM m m'):EC W0 B N0 mb sb mp vf m' s w':=
 h.frI hx k.mk_ k.sc k.gd (h.inv.cnt hc)
end
def ER(W0:World)(B N0 mb sb mp:Nat)(vf:Value)(n:Nat)(s:Sc)(w:World)(r:Sc×Mk)(v:Value)(w':World):Prop:=
 v=z1w∧EC W0 B N0 mb sb mp vf r.2 r.1 w'∧FrI N0 mb sb mp w w'∧r.1.env.length≤s.env.length+n∧r.1.path=s.path
def q2z(W0:World)(B N0 mb:Nat)(vf:Value)(inst:Itm→Sc→Mk→Rs Mk)(k:Nat)(t:Itm):Prop:=
 ∀(sb mp:Nat) (m:Mk) (s:Sc) (w:World) (cs:List Value),EC W0 B N0 mb sb mp vf m s w→(m.d.chks.length:Int)+1≤m.count→s.env.length+z0i t≤1000000→s.path.size+100*(k*70000+z0i t)≤1000000000→RI W0 B t cs→
  z9b Tryz.prog 76 #[.pointer (some ⟨mb,0,none⟩),.pointer (some ⟨sb,0,none⟩),.agg cs.toArray] w (z1m inst t s m) (ER W0 B N0 mb sb mp vf (z0i t) s w) (FrI N0 mb sb mp w)
def evF{α:Type}(k1 k2:Nat)(r:Rs α)(f:α→Value)(K:α→Value→World→Prop)(vals:List Value)(i:Nat)(v:Value)(w:World):Prop:=
 if i=k1 then∃a,r=.ok a∧v=f a else if i=k2 then∃a,r=.ok a∧K a v w else v=vals.getD i undef
theorem z9p{α:Type}{k1 k2:Nat}{r:Rs α}{f:α→Value}{K:α→Value→World→Prop}{vals:List Value}(hK:∀a v w w',K a v w→Ext w w'→K a v w'){i:Nat}{v:Value}{w w':World}(h:evF k1 k2 r f K vals i v w)(hx:Ext w w'):evF k1 k2 r f K vals i v w':=by
 unfold evF at h⊢;split
 ·rename_i hi;rw[if_pos hi] at h;exact h
 ·rename_i hi
  rw[if_neg hi] at h;split
  ·rename_i hi;rw[if_pos hi] at h;obtain⟨a,h1,h2⟩:=h;exact⟨a,h1,hK _ _ _ _ h2 hx⟩
  ·rename_i hi;rw[if_neg hi] at h;exact h
def evP{α:Type}(r:Rs α)(W:World)(ch:List PanicEntry)(w:World):Prop:=∃c,r=.error c∧ch=z2c c∧Ext W w
end Go.Proofs.YtlfmlodanoolhaaGreatDoor
namespace Go.Proofs.YtlfmlodanoolhaaGreatDoor
open Go Go.RowKit Go.Proofs.Tryz
attribute [local go_sem] z0f
theorem q9a(W0:World)(B N0 mb:Nat)(vf:Value)(inst:Itm→Sc→Mk→Rs Mk)(k:Nat)(t:Itm)(hop:t.op=2)(hvx:∀y,y∈t.x→VX y)(h2:t.x.length=1)(hnm:t.name.size≤64):q2z W0 B N0 mb vf inst k t:=by
 intro sb mp m s w cs h hck hln hph hR;have H:=Hd h;have hb0:=h.inv.b0;have hb1:=h.inv.b1;have hsg:=h.inv.sg;have hpr:=h.inv.pr;have hc0:=h.inv.c0;have hc1:=h.inv.c1;obtain⟨hmw,hsw,hpw,hsm,hpm,hps,hNm⟩:=h.mlt;obtain⟨v3,v4,v5,v6,v7,v8,rfl,h3,h4,h5,h6,h7,h8⟩:=RI_iff.1 hR;have o3:=h3.oneCell;have o4:=h4.oneCell;have o5:=h5.oneCell;have o6:=h6.oneCell;have o7:=h7.oneCell;have o8:=h8.oneCell;have HX3:=Hd h3;have HX4:=Hd h4;have HX5:=Hd h5;have HX6:=Hd h6;have HRI:=Hd hR;obtain⟨W1,hW1,hx1,hb1'⟩:=z4w w (.pointer (some ⟨mb,0,none⟩)) 97;obtain⟨W2,hW2,hx2,hb2'⟩:=z4w W1 (.pointer (some ⟨sb,0,none⟩)) 100;obtain⟨W3,hW3,hx3,hb3'⟩:=q0y W2 (.int .i64 t.op) (.string t.name) (.string t.of) v3 v4 v5 v6 v7 v8 37;have hV1:=hW1.symm;have hV2:=hW2.symm;have s1:w.heap.size<W1.heap.size:=hb1'.lt;have s2:W1.heap.size<W2.heap.size:=hb2'.lt;have s3:W2.heap.size<W3.heap.size:=hb3'.lt;have BM:=Hd (hb1'.ext (hx2.trans hx3));have BS:=Hd (hb2'.ext hx3);have BX:=Hd hb3';have X3:=Hd (hx1.trans (hx2.trans hx3));have H3:=Hd (h.ext X3.o);obtain⟨e3,he3⟩:=y1h (W:=W3) (w:=W3) (y1g _);have hV3:=hW3.symm.trans he3;obtain⟨c0,c1,c2,c3,c4,c5,c6,c7,c8⟩:=BX.o.later9;have m0:=cellAt (BM.o.cell 0);have n0:=cellAt (BS.o.cell 0);have HW3:=Hd he3;clear he3 hW1 hW2 hW3 hx1 hx2 hx3 hb1' hb2' hb3' h h3 h4 h5 h6 h7 h8 hR;have hs0:1+z0e z0l t.x≤1000000000:=by have:=z0r t;omega
 obtain⟨la,lc,rfl,hlc,hlr⟩:=HX3.o;have hl0:0<t.x.length:=by omega
 obtain⟨b0,o0,t0,hla,hb0',hlt0,hC0,ho0,hR0⟩:=hlr 0 hl0;subst hla;have HX0:=Hd (XOk.of (y1l hl0) hR0 (by omega) hvx);obtain⟨x50,rfl,h50⟩:=RX_iff.1 hR0;simp only[Nat.zero_mul,Nat.add_zero] at hC0;have hxa0:=z2m (k:=0) hl0;have u0:=h50.oneCell;obtain⟨d0,d1,d2,d3,d4,d5⟩:=(hC0.ext H3.o.cx.ext).later6;have hk0:(0:Int)<(t.x.length:Int):=by omega
 have HD:=Hd (show z1m inst t s m=(do let wd←z2q s t.x[0];z2n t.name wd 3 0 s m) by rw[q5u inst t s m hop,show xAt t.x 0=t.x[0] from hxa0]);obtain⟨vs,vp,vc,ve,hmk3,hsc3⟩:=H3.o.ex;have HMK:=Hd hmk3;have HSC:=Hd hsc3;have HG:=Hd H.o.gd.env;clear hmk3 hsc3;generalize t.x[0]=x0 at*;rw[hop] at hV3 c0;rw[hop];clear hlr hR0 h50 hlt0 hb0' hC0 ho0 hvx h2;have KW:=Hd (fun(w':World) (hw:Ext W3 w')=>z8r W0 B x0 _ sb mp ve s w' (H3.o.cx.later hw) HX0.o (HSC.o.ext hw) HG.o);go_enter func76,ntmps76;go_wp2_with fail
 refine z0m 10 (W:=W3) (Ext) (evF 9 99 (z2q s x0) (fun a=>.int .i64 a) (fun a v w'=>True) [.pointer (some ⟨mb,0,none⟩),.pointer (some ⟨sb,0,none⟩),.pointer (some ⟨W2.heap.size,1,none⟩),.string t.name,.pointer (some ⟨sb,0,none⟩),.pointer (some ⟨W2.heap.size,3,none⟩),.slice (some ⟨b0,o0,none⟩) t.x.length lc,.pointer (some ⟨b0,o0,none⟩),.agg #[.int .i64 x0.op,.string x0.name,.int .i64 x0.n,.int .i64 x0.w,.int .u64 x0.v,x50],undef]) (evP (z2q s x0) W3) (fun _=>true) (by kernel_rfl) (z0s) (by kernel_rfl) (by kernel_rfl) ?_ (y1i e3) (fun i v w w' h hx=>z9p (fun _ _ _ _ h _=>h) h hx) ?_ (fun A ch wz hd hp=>by
  obtain⟨c,hr,rfl,hx⟩:=hp;obtain⟨ta,da⟩:=A;simp only at hd;subst hd;have HN:=Hd (show RunsP (z1m inst t s m) (ER W0 B N0 mb sb mp vf (z0i t) s w) (FrI N0 mb sb mp w) (.panicked (z2c c)) wz from .no (by rw[HD.o,hr];rfl) (.of_ext (X3.o.trans hx)));exact⟨rfl,HN.o⟩) ?_
 ·exact⟨rfl,rfl,rfl,rfl,rfl,rfl,rfl,rfl,rfl,rfl,trivial⟩
 ·refine⟨?_,?_,?_,?_,?_,?_,?_,?_,?_,?_,trivial⟩;rotate_left 9
  ·intro A wa hxa hd h0;obtain⟨ea,rfl⟩:=y1h hxa;have q4:=z0d hd 4 32 (by kernel_rfl) rfl;simp[evF] at q4;have q8:=z0d hd 8 36 (by kernel_rfl) rfl;simp[evF] at q8;clear hd h0;go_simp;refine(KW.o ea.w ea.ext).mono ?_;rintro e wk (⟨a,u,hr,rfl,rfl,hxk⟩|⟨c,hr,rfl,hxk⟩);rotate_left
   ·exact⟨rfl,c,hr,rfl,ea.ext.trans hxk⟩
   have HR:=Hd hr;clear hr;go_simp;first|exact⟨_,rfl,hxk,a,HR.o,rfl⟩|exact⟨hxk,a,HR.o,rfl⟩|exact⟨_,rfl,a,HR.o,rfl⟩
  all_goals
   intro A wa hxa hd h0;obtain⟨ea,rfl⟩:=y1h hxa;try (have q2:=z0d hd 2 30 (by decide) rfl;simp[evF] at q2)
   try (have q5:=z0d hd 5 33 (by decide) rfl;simp[evF] at q5)
   try (have q6:=z0d hd 6 34 (by decide) rfl;simp[evF] at q6)
   try (have q7:=z0d hd 7 35 (by decide) rfl;simp[evF] at q7)
   have r3:=z0c h0 3 (by kernel_rfl);simp at r3;have r4:=z0c h0 4 (by kernel_rfl);simp at r4;have r5:=z0c h0 5 (by kernel_rfl);simp at r5;clear hd h0;go_simp;first|exact⟨_,rfl,y1g _,rfl⟩|exact⟨y1g _,rfl⟩|exact rfl|exact⟨_,rfl,rfl⟩|exact y1g _
 ·intro A wa hk;obtain⟨f,rfl,hxa,hdn,hrs⟩:=hk.fin (n:=154) rfl;obtain⟨ea,rfl⟩:=y1h hxa;have k28:f 28=.pointer (some ⟨mb,0,none⟩):=hdn 0 28 rfl rfl;have k29:f 29=.pointer (some ⟨sb,0,none⟩):=hdn 1 29 rfl rfl;have k31:f 31=.string t.name:=hdn 3 31 rfl rfl;obtain⟨wd,hr9,k37⟩:=hdn 9 37 rfl rfl;clear hdn hrs;simp only[List.drop_succ_cons,List.drop_zero];simp[List.range,List.range.loop,k28,k29,k31,k37];clear k28 k29 k31 k37;have HWI:=Hd (q3n hr9);have hwi:=HWI.o;have KS:=Hd (q1i N0 mb sb mp vf vs vp vc ve m s t.name wd 3 0 ea.w (HMK.o.ext ea.ext) (HSC.o.ext ea.ext) hsm hsg hb0 hb1 (by omega) (by omega) (by omega) (by omega));go_wp2_with fail
  go_at_call 73;refine KS.o.mono ?_;rintro e w6 (⟨r,u,hr,rfl,rfl,⟨vs',vp',vc',hmk,hfr⟩,⟨ve',hsc⟩⟩|⟨c,hr,rfl,hfr⟩);rotate_left
  ·exact⟨rfl,.no (by rw[HD.o];rw[hr9];exact hr) ((y1z (X3.o.trans ea.ext)).trans hfr)⟩
  have HF6:=Hd ((y1z (X3.o.trans ea.ext)).trans hfr);have HI6:=Hd (H.o.frI HF6.o hmk hsc (H.o.gd.signal hr HWI.o) (H.o.inv.signal hr HWI.o));have HD6:=Hd (show z1m inst t s m=.ok r by rw[HD.o];rw[hr9];exact hr);have HS6:=Hd (z3p hr).1;clear hmk hsc hfr hr;go_wp2_with fail
  refine bodyPost_ret (v:=z1w) ?_ rfl (.ok HD6.o ⟨rfl,HI6.o,HF6.o,by rw[HS6.o];exact Nat.le_add_right _ _,by rw[HS6.o]⟩);simp[results,results76,go_sem,z1w]
theorem z8z(w:World)(g:Nat)(u0 u1 u2:Value):Chg (fun b=>b=g) w (((w.setCell ⟨g,0,none⟩ u0).setCell ⟨g,1,none⟩ u1).setCell ⟨g,2,none⟩ u2):=
 y1y (X:=fun b=>b=g) (y1y (X:=fun b=>b=g) (z1e w g 0 u0) (p:=⟨g,1,none⟩) rfl _) (p:=⟨g,2,none⟩) rfl _
theorem MkI.scope{w w':World}{N0 mb sb:Nat}{vf vs vp vc:Value}{m:Mk}(h:MkI w N0 mb vf vs vp vc m)(ht:Tag w sb 126)(hc:Chg (fun k=>k=sb) w w'):MkI w' N0 mb vf vs vp vc m∧Kp w w':=by
 have hs:∀g T,T≠126→Tag w g T→w'.heap[g]? =w.heap[g]? :=fun g T hT hg=>hc.block g hg.lt (fun e=>hT (hg.one (show Tag w g _ from(show g=sb from e)▸ht)))
 have hk:Kp w w':=fun b hb=>by
  rcases hb with hb|hb|hb<;>exact hs b _ (by decide) hb
 exact⟨⟨(hs mb _ (by decide) h.blk.tag).trans h.blk,h.sig.chg (fun g _ hg=>hs g _ (by decide) hg) (fun _ _ h=>h),h.prc.chg (fun g _ hg=>hs g _ (by decide) hg) (RPc.keep hk),h.chk.chg (fun g _ hg=>hs g _ (by decide) hg) (RCk.keep hk),h.base⟩,hk⟩
theorem FrI.of_scope{N0 mb sb mp:Nat}{w w':World}(hc:Chg (fun k=>k=sb) w w'):FrI N0 mb sb mp w w':=⟨hc.os,hc.tape,hc.output,hc.size,fun k hk _ h2 _ _=>hc.block k hk h2⟩
theorem EC.con{W0 w w1 w':World}{B N0 mb sb mp:Nat}{vf ve':Value}{m:Mk}{s:Sc}(h:EC W0 B N0 mb sb mp vf m s w)(hx:Ext w w1)(hc:Chg (fun k=>k=sb) w1 w'){nm:ByteArray}{v:Int}(hb:Blk w' sb 126 [ve',.map (some mp),.string s.path])(he:SlT 85 RNm w1 2 (s.env++[(nm,v)]) ve')(hv:z1j v)(hl:s.env.length+1≤1000000):
 EC W0 B N0 mb sb mp vf m (s.con nm v) w'∧FrI N0 mb sb mp w w':=by
 obtain⟨vs,vp,vc,ve,h1,h2⟩:=h.ex;have k1:=h1.ext hx;have k2:=h2.ext hx;obtain⟨k3,hk⟩:=k1.scope k2.blk.tag hc;have hf:FrI N0 mb sb mp w w':=(y1z hx).trans (.of_scope hc);refine⟨h.frI hf k3 ⟨hb,he.keep (.inr (.inr rfl)) hk (fun _ _ _ h=>h),k2.map.of_eq (hc.block mp k2.map.lt (fun e=>k2.map.noTag (show Tag w1 mp _ from(show mp=sb from e)▸k2.blk.tag)))⟩ ⟨h.gd.at_,h.gd.w,by show(s.env++[(nm,v)]).length≤_;rw[List.length_append];exact hl,fun p hp=>?_⟩ h.inv,hf⟩;rcases y2e.1 (show p∈s.env++[(nm,v)] from hp) with hp|hp
 ·exact h.gd.const p hp
 ·rw[List.mem_singleton.1 hp];exact hv
theorem q6x(W0:World)(B N0 mb:Nat)(vf:Value)(inst:Itm→Sc→Mk→Rs Mk)(k:Nat)(t:Itm)(hop:t.op=1)(hvx:∀y,y∈t.x→VX y)(h2:t.x.length=1)(hnm:t.name.size≤64):q2z W0 B N0 mb vf inst k t:=by
 intro sb mp m s w cs h hck hln hph hR;have H:=Hd h;have hb0:=h.inv.b0;have hb1:=h.inv.b1;have hsg:=h.inv.sg;have hpr:=h.inv.pr;have hc0:=h.inv.c0;have hc1:=h.inv.c1;obtain⟨hmw,hsw,hpw,hsm,hpm,hps,hNm⟩:=h.mlt;obtain⟨v3,v4,v5,v6,v7,v8,rfl,h3,h4,h5,h6,h7,h8⟩:=RI_iff.1 hR;have o3:=h3.oneCell;have o4:=h4.oneCell;have o5:=h5.oneCell;have o6:=h6.oneCell;have o7:=h7.oneCell;have o8:=h8.oneCell;have HX3:=Hd h3;have HX4:=Hd h4;have HX5:=Hd h5;have HX6:=Hd h6;have HRI:=Hd hR;obtain⟨W1,hW1,hx1,hb1'⟩:=z4w w (.pointer (some ⟨mb,0,none⟩)) 97;obtain⟨W2,hW2,hx2,hb2'⟩:=z4w W1 (.pointer (some ⟨sb,0,none⟩)) 100;obtain⟨W3,hW3,hx3,hb3'⟩:=q0y W2 (.int .i64 t.op) (.string t.name) (.string t.of) v3 v4 v5 v6 v7 v8 37;have hV1:=hW1.symm;have hV2:=hW2.symm;have s1:w.heap.size<W1.heap.size:=hb1'.lt;have s2:W1.heap.size<W2.heap.size:=hb2'.lt;have s3:W2.heap.size<W3.heap.size:=hb3'.lt;have BM:=Hd (hb1'.ext (hx2.trans hx3));have BS:=Hd (hb2'.ext hx3);have BX:=Hd hb3';have X3:=Hd (hx1.trans (hx2.trans hx3));have H3:=Hd (h.ext X3.o);obtain⟨e3,he3⟩:=y1h (W:=W3) (w:=W3) (y1g _);have hV3:=hW3.symm.trans he3;obtain⟨c0,c1,c2,c3,c4,c5,c6,c7,c8⟩:=BX.o.later9;have m0:=cellAt (BM.o.cell 0);have n0:=cellAt (BS.o.cell 0);have HW3:=Hd he3;clear he3 hW1 hW2 hW3 hx1 hx2 hx3 hb1' hb2' hb3' h h3 h4 h5 h6 h7 h8 hR;have hs0:1+z0e z0l t.x≤1000000000:=by have:=z0r t;omega
 obtain⟨la,lc,rfl,hlc,hlr⟩:=HX3.o;have hl0:0<t.x.length:=by omega
 obtain⟨b0,o0,t0,hla,hb0',hlt0,hC0,ho0,hR0⟩:=hlr 0 hl0;subst hla;have HX0:=Hd (XOk.of (y1l hl0) hR0 (by omega) hvx);obtain⟨x50,rfl,h50⟩:=RX_iff.1 hR0;simp only[Nat.zero_mul,Nat.add_zero] at hC0;have hxa0:=z2m (k:=0) hl0;have u0:=h50.oneCell;obtain⟨d0,d1,d2,d3,d4,d5⟩:=(hC0.ext H3.o.cx.ext).later6;have hk0:(0:Int)<(t.x.length:Int):=by omega
 have HD:=Hd (show z1m inst t s m=(do let v←z1p s t.x[0];return(s.con t.name v,m)) by rw[q4f inst t s m hop,show xAt t.x 0=t.x[0] from hxa0]);have hsz1:1≤z0i t:=by have:=z0r t;omega
 obtain⟨vs,vp,vc,ve,hmk3,hsc3⟩:=H3.o.ex;have HMK:=Hd hmk3;have HSC:=Hd hsc3;have HG:=Hd H.o.gd.env;clear hmk3 hsc3;generalize t.x[0]=x0 at*;rw[hop] at hV3 c0;rw[hop];clear hlr hR0 h50 hlt0 hb0' hC0 ho0 hvx h2;have oe:=HSC.o.env.oneCell;obtain⟨g0,g1,g2⟩:=HSC.o.blk.later3;obtain⟨f0,f1,f2⟩:=HSC.o.blk.free3;have KE:=Hd (fun(w':World) (hw:Ext W3 w')=>z4p W0 B x0 _ sb mp ve s w' (H3.o.cx.later hw) HX0.o (HSC.o.ext hw) HG.o);have KC:=Hd (fun(v:Int) (w':World) (hw:Ext W3 w')=>z4r s ve (.map (some mp)) t.name v w' ((HSC.o.ext hw).env) rfl HG.o);go_enter func76,ntmps76;go_wp2_with fail
 refine z0m 13 (W:=W3) (Ext) (evF 11 12 (z1p s x0) (fun a=>.int .i64 a) (fun a v w'=>∃ve',v=.agg #[ve',.map (some mp),.string s.path]∧SlT 85 RNm w' 2 (s.env++[(t.name,a)]) ve') [.pointer (some ⟨sb,0,none⟩),.pointer (some ⟨sb,0,none⟩),.pointer (some ⟨sb,0,none⟩),.agg #[ve,.map (some mp),.string s.path],.pointer (some ⟨W2.heap.size,1,none⟩),.string t.name,.pointer (some ⟨sb,0,none⟩),.pointer (some ⟨W2.heap.size,3,none⟩),.slice (some ⟨b0,o0,none⟩) t.x.length lc,.pointer (some ⟨b0,o0,none⟩),.agg #[.int .i64 x0.op,.string x0.name,.int .i64 x0.n,.int .i64 x0.w,.int .u64 x0.v,x50],undef,undef]) (evP (z1p s x0) W3) (fun _=>true) (by kernel_rfl) (z0s) (by kernel_rfl) (by kernel_rfl) ?_ (y1i e3) (fun i v w w' h hx=>z9p (fun _ _ _ _ h hx=>by obtain⟨ve',h1,h2⟩:=h;exact⟨ve',h1,h2.keep (.inr (.inr rfl)) hx.kp (fun _ _ _ h=>h)⟩) h hx) ?_ (fun A ch wz hd hp=>by
  obtain⟨c,hr,rfl,hx⟩:=hp;obtain⟨ta,da⟩:=A;simp only at hd;subst hd;have HN:=Hd (show RunsP (z1m inst t s m) (ER W0 B N0 mb sb mp vf (z0i t) s w) (FrI N0 mb sb mp w) (.panicked (z2c c)) wz from .no (by rw[HD.o];rw[hr];rfl) (.of_ext (X3.o.trans hx)));exact⟨rfl,HN.o⟩) ?_
 ·exact⟨rfl,rfl,rfl,rfl,rfl,rfl,rfl,rfl,rfl,rfl,rfl,rfl,rfl,trivial⟩
 ·refine⟨?_,?_,?_,?_,?_,?_,?_,?_,?_,?_,?_,?_,?_,trivial⟩;rotate_left 11
  ·intro A wa hxa hd h0;obtain⟨ea,rfl⟩:=y1h hxa;have q6:=z0d hd 6 18 (by kernel_rfl) rfl;simp[evF] at q6;have q10:=z0d hd 10 22 (by kernel_rfl) rfl;simp[evF] at q10;clear hd h0;go_simp;refine(KE.o ea.w ea.ext).mono ?_;rintro e wk (⟨a,u,hr,rfl,rfl,hxk⟩|⟨c,hr,rfl,hxk⟩);rotate_left
   ·exact⟨rfl,c,hr,rfl,ea.ext.trans hxk⟩
   have HR:=Hd hr;clear hr;go_simp;first|exact⟨_,rfl,hxk,a,HR.o,rfl⟩|exact⟨hxk,a,HR.o,rfl⟩|exact⟨_,rfl,a,HR.o,rfl⟩
  ·intro A wa hxa hd h0;obtain⟨ea,rfl⟩:=y1h hxa;have q3:=z0d hd 3 15 (by kernel_rfl) rfl;simp[evF] at q3;have q5:=z0d hd 5 17 (by kernel_rfl) rfl;simp[evF] at q5;obtain⟨a11,hr11,q11⟩:=z0d hd 11 23 (by kernel_rfl) rfl;simp at q11;have HR11:=Hd hr11;clear hr11;clear hd h0;go_simp;refine(KC.o a11 ea.w ea.ext).mono ?_;rintro e wk ⟨ve',rfl,hse,hxk⟩;have oe':=hse.oneCell;go_simp;first|exact⟨_,rfl,hxk,a11,HR11.o,ve',rfl,hse⟩|exact⟨hxk,a11,HR11.o,ve',rfl,hse⟩|exact⟨_,rfl,a11,HR11.o,ve',rfl,hse⟩
  all_goals
   intro A wa hxa hd h0;obtain⟨ea,rfl⟩:=y1h hxa;try (have q1:=z0d hd 1 13 (by decide) rfl;simp[evF] at q1)
   try (have q2:=z0d hd 2 14 (by decide) rfl;simp[evF] at q2)
   try (have q4:=z0d hd 4 16 (by decide) rfl;simp[evF] at q4)
   try (have q7:=z0d hd 7 19 (by decide) rfl;simp[evF] at q7)
   try (have q8:=z0d hd 8 20 (by decide) rfl;simp[evF] at q8)
   try (have q9:=z0d hd 9 21 (by decide) rfl;simp[evF] at q9)
   have r4:=z0c h0 4 (by kernel_rfl);simp at r4;have r5:=z0c h0 5 (by kernel_rfl);simp at r5;clear hd h0;go_simp;first|exact⟨_,rfl,y1g _,rfl⟩|exact⟨y1g _,rfl⟩|exact rfl|exact⟨_,rfl,rfl⟩|exact y1g _
 ·intro A wa hk;obtain⟨f,rfl,hxa,hdn,hrs⟩:=hk.fin (n:=154) rfl;obtain⟨ea,rfl⟩:=y1h hxa;have k12:f 12=.pointer (some ⟨sb,0,none⟩):=hdn 0 12 rfl rfl;obtain⟨a,hr12,ve',k24,hk3⟩:=hdn 12 24 rfl rfl;clear hdn hrs;simp only[List.drop_succ_cons,List.drop_zero];simp[List.range,List.range.loop,k12,k24];clear k12 k24;have HR12:=Hd hr12;have HK3:=Hd hk3;have b6:=HSC.o.blk.ext ea.ext;have oe':=hk3.oneCell;obtain⟨j0,j1,j2⟩:=b6.free3;obtain⟨i0,i1,i2⟩:=b6.get3;obtain⟨W9,hW9⟩:∃W9,W9=(((ea.w.setCell ⟨sb,0,none⟩ ve').setCell ⟨sb,1,none⟩ (.map (some mp))).setCell ⟨sb,2,none⟩ (.string s.path)):=⟨_,rfl⟩;have hV9:=hW9.symm;have b9:Blk W9 sb 126 [ve',.map (some mp),.string s.path]:=by rw[hW9];exact b6.store3 _ _ _
  have hc9:Chg (fun b=>b=sb) ea.w W9:=by rw[hW9];exact z8z _ _ _ _ _
  have HI9:=Hd (H.o.con (X3.o.trans ea.ext) hc9 b9 HK3.o (q0o HR12.o) (by omega));clear hW9 hc9 b9 b6;clear hr12 hk3;go_wp2_with fail
  refine bodyPost_ret (v:=z1w) ?_ rfl (.ok (by rw[HD.o,HR12.o];rfl) ⟨rfl,HI9.o.1,HI9.o.2,by show(s.env++[_]).length≤_;rw[List.length_append];simp only[List.length_cons,List.length_nil];omega,rfl⟩);simp[results,results76,go_sem,z1w]
def q0w(W0:World)(B N0 mb:Nat)(vf:Value)(inst:Itm→Sc→Mk→Rs Mk)(k:Nat)(l:List Itm):Prop:=
 ∀(sb mp:Nat) (m:Mk) (s:Sc) (w:World) (vl:Value),EC W0 B N0 mb sb mp vf m s w→s.env.length+z0e z0i l≤1000000→s.path.size+100*(k*70000+z0e z0i l)≤1000000000→Sl (RI W0 B) W0 B 9 l vl→
  z9b Tryz.prog 39 #[.pointer (some ⟨mb,0,none⟩),.pointer (some ⟨sb,0,none⟩),vl] w (z1r inst l s m) (ER W0 B N0 mb sb mp vf (z0e z0i l) s w) (FrI N0 mb sb mp w)
theorem q0k(W0:World)(B N0 mb:Nat)(vf:Value)(inst:Itm→Sc→Mk→Rs Mk)(kk:Nat)(l:List Itm)(hf:∀t,t∈l→q2z W0 B N0 mb vf inst kk t):q0w W0 B N0 mb vf inst kk l:=by
 intro sb mp m s w vl h hln hph hS;have H:=Hd h;have HF:=Hd hf;have HLN:=Hd (y1x hln hph);have hlen:l.length≤1000000:=by
  have:=z0b z0i l (fun x=>by have:=z0r x;omega);omega
 obtain⟨a,cap,rfl,hcap,hrow⟩:=hS;have HRW:=Hd hrow;obtain⟨R,hR⟩:∃R,R=z1r inst l s m:=⟨_,rfl⟩;rw[←hR];have HZ0:=Hd (show R=z1r inst (l.drop 0) s m from hR);clear hrow hf hR h hln hph;go_enter func39,ntmps39;go_wp2_with fail
 go_loopw [10] (fun i wr=>∃(k:Nat) (s':Sc) (m':Mk),k≤l.length∧i=.int .i64 k∧EC W0 B N0 mb sb mp vf m' s' wr∧FrI N0 mb sb mp w wr∧s'.env.length+z0e z0i (l.drop k)≤s.env.length+z0e z0i l∧s'.path=s.path∧R=z1r inst (l.drop k) s' m') (fun i _=>l.length - (intOf i).toNat)
 case atStart=>exact⟨0,s,m,y1p _,rfl,H.o,FrI.refl _ _ _ _ _,by rw[List.drop_zero];exact y1j _,rfl,HZ0.o⟩
 case round=>
  obtain⟨k,s',m',hk,rfl,hec,hfr,hel,hpe,hR⟩:=hrel;clear HZ0;have HE:=Hd hec;have HFR:=Hd hfr;have HPE:=Hd hpe;by_cases hlt:k<l.length
  ·rw[List.drop_eq_getElem_cons hlt,z1r] at hR;rw[List.drop_eq_getElem_cons hlt] at hel;have hms:z0e z0i (l[k]::l.drop (k+1))=z0i l[k]+z0e z0i (l.drop (k+1)):=rfl;have hmm:=z0g z0i l l[k] (y1l hlt);obtain⟨b,o,cs,hsa,hbw,hcl,hC,ho1,hRI⟩:=HRW.o _ hlt;subst hsa;have HRI:=Hd hRI;obtain⟨v3,v4,v5,v6,v7,v8,rfl,h3,h4,h5,h6,h7,h8⟩:=RI_iff.1 hRI;have o3:=h3.oneCell;have o4:=h4.oneCell;have o5:=h5.oneCell;have o6:=h6.oneCell;have o7:=h7.oneCell;have o8:=h8.oneCell;obtain⟨d0,d1,d2,d3,d4,d5,d6,d7,d8⟩:=(hC.ext hec.cx.ext).get9;obtain⟨W3,hW3,hx3,hb3⟩:=q0y wr (.int .i64 l[k].op) (.string l[k].name) (.string l[k].of) v3 v4 v5 v6 v7 v8 37;have hV3:=hW3.symm;obtain⟨p0,p1,p2,p3,p4,p5,p6,p7,p8⟩:=hb3.get9;have H3:=Hd (HE.o.ext hx3);obtain⟨vs,vp,vc,ve,hst⟩:=H3.o.stc;have HST:=Hd hst;have KC:=Hd (z1k N0 mb vf vs vp vc m' 1 W3 hst.mk_ hst.c0 hst.c1 (by decide) (by decide));have hbs:=HLN.o;have KI:=Hd (HF.o l[k] (y1l hlt));have X3:=Hd hx3;have BX:=Hd hb3;have hne:¬wr.heap.size=mb:=by have:=hec.mlt.1;omega
   have HSZ:=Hd (show s'.env.length+z0i l[k]+z0e z0i (l.drop (k+1))≤s.env.length+z0e z0i l∧z0i l[k]≤z0e z0i l from⟨by omega,hmm⟩);generalize l[k]=t at*;have HRR:=Hd hR;clear hW3 hx3 hb3 hC hRI hR h3 h4 h5 h6 h7 h8 ho1 hfr hel hpe hst hec hms hmm;go_wp2_with fail
   go_at_call 75;refine KC.o.mono ?_;rintro e w4 (⟨m1,u,hr,rfl,rfl,hmk,hfr⟩|⟨c,hr,rfl,hfr⟩);rotate_left
   ·exact⟨rfl,.no (by rw[HRR.o,hr];rfl) ((HFR.o.trans (.of_ext X3.o)).trans (.of_chg hfr))⟩
   have hcm:=z6s hr (by decide);have H4:=Hd (EC.of_stc H3.o (.of_chg hfr) (HST.o.frS hfr hmk hcm) hcm);have HF4:=Hd ((HFR.o.trans (.of_ext X3.o)).trans (.of_chg hfr));have hck:(m1.d.chks.length:Int)+1≤m1.count:=by
    have h1:=H3.o.inv.ck;have h2:=(z7o hr).1;rw[hcm.d];omega
   obtain⟨r0,r1,r2,r3,r4,r5,r6,r7,r8⟩:=(hfr.blk BX.o hne).get9;have hz:=HSZ.o;have hz2:=HLN.o;have KJ:=Hd (KI.o sb mp m1 s' w4 _ H4.o hck (by omega) (by rw[HPE.o];omega) HRI.o);have HR1:=Hd hr;clear hr hmk hfr hcm d0 d1 d2 d3 d4 d5 d6 d7 d8 p0 p1 p2 p3 p4 p5 p6 p7 p8 hV3;go_wp2_with fail
   go_at_call 76;refine KJ.o.mono ?_;rintro e w6 (⟨y,u,hr,rfl,hu,hec,hfr,hel,hpe⟩|⟨c,hr,rfl,hfr⟩);rotate_left
   ·exact⟨rfl,.no (by rw[HRR.o,HR1.o];simp only[bind,Except.bind];rw[hr]) (HF4.o.trans hfr)⟩
   subst hu;have HE6:=Hd hec;have HF6:=Hd (HF4.o.trans hfr);have HR6:=Hd (show R=z1r inst (l.drop (k+1)) y.1 y.2 by rw[HRR.o,HR1.o];simp only[bind,Except.bind];rw[hr]);clear hec hfr hr r0 r1 r2 r3 r4 r5 r6 r7 r8;go_wp2_with fail
   go_roundw;case rel=>exact⟨k+1,y.1,y.2,by omega,by go_num,HE6.o,HF6.o,by omega,hpe.trans HPE.o,HR6.o⟩
   case measure=>simp[intOf];omega
  ·have hd:l.drop k=[]:=by rw[List.drop_eq_nil_iff];omega
   rw[hd] at hR hel;have HRR:=Hd (show R=.ok (s',m') by rw[hR,z1r]);have hel':s'.env.length≤s.env.length+z0e z0i l:=hel;clear hR hd hel hfr hec hpe;go_wp2_with fail
   refine bodyPost_ret (v:=z1w) ?_ rfl (.ok HRR.o ⟨rfl,HE.o,HFR.o,hel',HPE.o⟩);simp[results,results39,go_sem,z1w]
theorem j1r(W0:World)(B N0 mb:Nat)(vf:Value)(inst:Itm→Sc→Mk→Rs Mk)(k:Nat)(t:Itm)(hop:t.op=3)(hvx:∀y,y∈t.x→VX y)(h2:t.x.length=2)(hnm:t.name.size≤64):q2z W0 B N0 mb vf inst k t:=by
 intro sb mp m s w cs h hck hln hph hR;have H:=Hd h;have hb0:=h.inv.b0;have hb1:=h.inv.b1;have hsg:=h.inv.sg;have hpr:=h.inv.pr;have hc0:=h.inv.c0;have hc1:=h.inv.c1;obtain⟨hmw,hsw,hpw,hsm,hpm,hps,hNm⟩:=h.mlt;obtain⟨v3,v4,v5,v6,v7,v8,rfl,h3,h4,h5,h6,h7,h8⟩:=RI_iff.1 hR;have o3:=h3.oneCell;have o4:=h4.oneCell;have o5:=h5.oneCell;have o6:=h6.oneCell;have o7:=h7.oneCell;have o8:=h8.oneCell;have HX3:=Hd h3;have HX4:=Hd h4;have HX5:=Hd h5;have HX6:=Hd h6;have HRI:=Hd hR;obtain⟨W1,hW1,hx1,hb1'⟩:=z4w w (.pointer (some ⟨mb,0,none⟩)) 97;obtain⟨W2,hW2,hx2,hb2'⟩:=z4w W1 (.pointer (some ⟨sb,0,none⟩)) 100;obtain⟨W3,hW3,hx3,hb3'⟩:=q0y W2 (.int .i64 t.op) (.string t.name) (.string t.of) v3 v4 v5 v6 v7 v8 37;have hV1:=hW1.symm;have hV2:=hW2.symm;have s1:w.heap.size<W1.heap.size:=hb1'.lt;have s2:W1.heap.size<W2.heap.size:=hb2'.lt;have s3:W2.heap.size<W3.heap.size:=hb3'.lt;have BM:=Hd (hb1'.ext (hx2.trans hx3));have BS:=Hd (hb2'.ext hx3);have BX:=Hd hb3';have X3:=Hd (hx1.trans (hx2.trans hx3));have H3:=Hd (h.ext X3.o);obtain⟨e3,he3⟩:=y1h (W:=W3) (w:=W3) (y1g _);have hV3:=hW3.symm.trans he3;obtain⟨c0,c1,c2,c3,c4,c5,c6,c7,c8⟩:=BX.o.later9;have m0:=cellAt (BM.o.cell 0);have n0:=cellAt (BS.o.cell 0);have HW3:=Hd he3;clear he3 hW1 hW2 hW3 hx1 hx2 hx3 hb1' hb2' hb3' h h3 h4 h5 h6 h7 h8 hR;have hs0:1+z0e z0l t.x≤1000000000:=by have:=z0r t;omega
 obtain⟨la,lc,rfl,hlc,hlr⟩:=HX3.o;have hl0:0<t.x.length:=by omega
 have hl1:1<t.x.length:=by omega
 obtain⟨b0,o0,t0,hla,hb0',hlt0,hC0,ho0,hR0⟩:=hlr 0 hl0;obtain⟨b1,o1,t1,hla1,hb1',hlt1,hC1,ho1,hR1⟩:=hlr 1 hl1;subst hla;injection hla1 with e1;injection e1 with e1 e2;subst e1;subst e2;have HX0:=Hd (XOk.of (y1l hl0) hR0 (by omega) hvx);have HX1:=Hd (XOk.of (y1l hl1) hR1 (by omega) hvx);obtain⟨x50,rfl,h50⟩:=RX_iff.1 hR0;obtain⟨x51,rfl,h51⟩:=RX_iff.1 hR1;simp only[Nat.zero_mul,Nat.add_zero,Nat.one_mul] at hC0 hC1;have hxa0:=z2m (k:=0) hl0;have hxa1:=z2m (k:=1) hl1;have u0:=h50.oneCell;have u1:=h51.oneCell;obtain⟨d0,d1,d2,d3,d4,d5⟩:=(hC0.ext H3.o.cx.ext).later6;obtain⟨q0,q1,q2,q3,q4,q5⟩:=(hC1.ext H3.o.cx.ext).later6;have hk0:(0:Int)<(t.x.length:Int):=by omega
 have hk1:(1:Int)<(t.x.length:Int):=by omega
 have HD:=Hd (show z1m inst t s m=(do let wd←z2q s t.x[0];let b←k2c s t.x[1];z2n t.name wd 4 b.2 s m) by rw[q9d inst t s m hop,show xAt t.x 0=t.x[0] from hxa0,show xAt t.x 1=t.x[1] from hxa1]);obtain⟨vs,vp,vc,ve,hmk3,hsc3⟩:=H3.o.ex;have HMK:=Hd hmk3;have HSC:=Hd hsc3;have HG:=Hd H.o.gd.env;clear hmk3 hsc3;generalize t.x[0]=x0 at*;generalize t.x[1]=x1 at*;rw[hop] at hV3 c0;rw[hop];clear hlr hR0 hR1 h50 h51 hlt0 hlt1 hb0' hb1' hC0 hC1 ho0 ho1 hvx h2 hl1;have KW:=Hd (fun(w':World) (hw:Ext W3 w')=>z8r W0 B x0 _ sb mp ve s w' (H3.o.cx.later hw) HX0.o (HSC.o.ext hw) HG.o);have KN:=Hd (fun(w':World) (hw:Ext W3 w')=>q3z W0 B x1 _ sb mp ve s w' (H3.o.cx.later hw) HX1.o (HSC.o.ext hw) HG.o);go_enter func76,ntmps76;go_wp2_with fail
 refine z0m 7 (W:=W3) (Ext) (evF 5 6 (z2q s x0) (fun a=>.int .i64 a) (fun a v _=>v=.int .i64 a) [.pointer (some ⟨sb,0,none⟩),.pointer (some ⟨W2.heap.size,3,none⟩),.slice (some ⟨b0,o0,none⟩) t.x.length lc,.pointer (some ⟨b0,o0,none⟩),.agg #[.int .i64 x0.op,.string x0.name,.int .i64 x0.n,.int .i64 x0.w,.int .u64 x0.v,x50],undef,undef]) (evP (z2q s x0) W3) (fun _=>true) (by kernel_rfl) (z0s) (by kernel_rfl) (by kernel_rfl) ?_ (y1i e3) (fun i v w w' h hx=>z9p (fun _ _ _ _ h _=>h) h hx) ?_ (fun A ch wz hd hp=>by
  obtain⟨c,hr,rfl,hx⟩:=hp;obtain⟨ta,da⟩:=A;simp only at hd;subst hd;have HN:=Hd (show RunsP (z1m inst t s m) (ER W0 B N0 mb sb mp vf (z0i t) s w) (FrI N0 mb sb mp w) (.panicked (z2c c)) wz from .no (by rw[HD.o];rw[hr];rfl) (.of_ext (X3.o.trans hx)));exact⟨rfl,HN.o⟩) ?_
 ·exact⟨rfl,rfl,rfl,rfl,rfl,rfl,rfl,trivial⟩
 ·refine⟨?_,?_,?_,?_,?_,?_,?_,trivial⟩;rotate_left 5
  ·intro A wa hxa hd h0;obtain⟨ea,rfl⟩:=y1h hxa;have q0:=z0d hd 0 41 (by kernel_rfl) rfl;simp[evF] at q0;have q4:=z0d hd 4 45 (by kernel_rfl) rfl;simp[evF] at q4;clear hd h0;go_simp;refine(KW.o ea.w ea.ext).mono ?_;rintro e wk (⟨a,u,hr,rfl,rfl,hxk⟩|⟨c,hr,rfl,hxk⟩);rotate_left
   ·exact⟨rfl,c,hr,rfl,ea.ext.trans hxk⟩
   have HR:=Hd hr;clear hr;go_simp;first|exact⟨_,rfl,hxk,a,HR.o,rfl⟩|exact⟨hxk,a,HR.o,rfl⟩|exact⟨_,rfl,a,HR.o,rfl⟩
  ·intro A wa hxa hd h0;obtain⟨ea,rfl⟩:=y1h hxa;obtain⟨a5,hr5,q5⟩:=z0d hd 5 46 (by kernel_rfl) rfl;simp at q5;have HR5:=Hd hr5;clear hr5;clear hd h0;go_simp;first|exact⟨_,rfl,y1g _,a5,HR5.o,rfl⟩|exact⟨y1g _,a5,HR5.o,rfl⟩|exact⟨_,rfl,a5,HR5.o,rfl⟩
  all_goals
   intro A wa hxa hd h0;obtain⟨ea,rfl⟩:=y1h hxa;try (have q1:=z0d hd 1 42 (by decide) rfl;simp[evF] at q1)
   try (have q2:=z0d hd 2 43 (by decide) rfl;simp[evF] at q2)
   try (have q3:=z0d hd 3 44 (by decide) rfl;simp[evF] at q3)
   have r4:=z0c h0 4 (by kernel_rfl);simp at r4;have r5:=z0c h0 5 (by kernel_rfl);simp at r5;clear hd h0;go_simp;first|exact⟨_,rfl,y1g _,rfl⟩|exact⟨y1g _,rfl⟩|exact rfl|exact⟨_,rfl,rfl⟩|exact y1g _
 ·intro A wa hk;obtain⟨f,rfl,hxa,hdn,hrs⟩:=hk.fin (n:=154) rfl;obtain⟨ea,rfl⟩:=y1h hxa;have k3:=hrs 3 (by kernel_rfl);have k4:=hrs 4 (by kernel_rfl);have k5:=hrs 5 (by kernel_rfl);obtain⟨wd,hr5,k6⟩:=hdn 6 6 rfl rfl;clear hdn hrs;simp at k3 k4 k5;simp only[List.drop_succ_cons,List.drop_zero];simp[List.range,List.range.loop,k3,k4,k5,k6];clear k3 k4 k5 k6;have HWI:=Hd (q3n hr5);have hwi:=HWI.o;have HR5:=Hd hr5;clear hr5;go_wp2_with fail
  refine z0m 12 (W:=W3) (Ext) (evF 10 11 (k2c s x1) (fun a=>.agg #[.int .i64 a.1,.int .u64 a.2]) (fun a v _=>v=.int .u64 a.2) [.pointer (some ⟨mb,0,none⟩),.pointer (some ⟨sb,0,none⟩),.pointer (some ⟨W2.heap.size,1,none⟩),.string t.name,.int .i64 wd,.pointer (some ⟨sb,0,none⟩),.pointer (some ⟨W2.heap.size,3,none⟩),.slice (some ⟨b0,o0,none⟩) t.x.length lc,.pointer (some ⟨b0,o0+6,none⟩),.agg #[.int .i64 x1.op,.string x1.name,.int .i64 x1.n,.int .i64 x1.w,.int .u64 x1.v,x51],undef,undef]) (evP (k2c s x1) W3) (fun _=>true) (by kernel_rfl) (z0s) (by kernel_rfl) (by kernel_rfl) ?_ (ea.ext) (fun i v w w' h hx=>z9p (fun _ _ _ _ h _=>h) h hx) ?_ (fun A ch wz hd hp=>by
   obtain⟨c,hr,rfl,hx⟩:=hp;obtain⟨ta,da⟩:=A;simp only at hd;subst hd;have HN:=Hd (show RunsP (z1m inst t s m) (ER W0 B N0 mb sb mp vf (z0i t) s w) (FrI N0 mb sb mp w) (.panicked (z2c c)) wz from .no (by rw[HD.o];simp only[bind,Except.bind];rw[HR5.o];simp only;rw[hr]) (.of_ext (X3.o.trans hx)));exact⟨rfl,HN.o⟩) ?_
  ·exact⟨rfl,rfl,rfl,rfl,rfl,rfl,rfl,rfl,rfl,rfl,rfl,rfl,trivial⟩
  ·refine⟨?_,?_,?_,?_,?_,?_,?_,?_,?_,?_,?_,?_,trivial⟩;rotate_left 10
   ·intro A wa hxa hd h0;obtain⟨ea,rfl⟩:=y1h hxa;have q5:=z0d hd 5 52 (by kernel_rfl) rfl;simp[evF] at q5;have q9:=z0d hd 9 56 (by kernel_rfl) rfl;simp[evF] at q9;clear hd h0;go_simp;refine(KN.o ea.w ea.ext).mono ?_;rintro e wk (⟨a,u,hr,rfl,rfl,hxk⟩|⟨c,hr,rfl,hxk⟩);rotate_left
    ·exact⟨rfl,c,hr,rfl,ea.ext.trans hxk⟩
    have HR:=Hd hr;clear hr;go_simp;first|exact⟨_,rfl,hxk,a,HR.o,rfl⟩|exact⟨hxk,a,HR.o,rfl⟩|exact⟨_,rfl,a,HR.o,rfl⟩
   ·intro A wa hxa hd h0;obtain⟨ea,rfl⟩:=y1h hxa;obtain⟨a10,hr10,q10⟩:=z0d hd 10 57 (by kernel_rfl) rfl;simp at q10;have HR10:=Hd hr10;clear hr10;clear hd h0;go_simp;first|exact⟨_,rfl,y1g _,a10,HR10.o,rfl⟩|exact⟨y1g _,a10,HR10.o,rfl⟩|exact⟨_,rfl,a10,HR10.o,rfl⟩
   all_goals
    intro A wa hxa hd h0;obtain⟨ea,rfl⟩:=y1h hxa;try (have q2:=z0d hd 2 49 (by decide) rfl;simp[evF] at q2)
    try (have q6:=z0d hd 6 53 (by decide) rfl;simp[evF] at q6)
    try (have q7:=z0d hd 7 54 (by decide) rfl;simp[evF] at q7)
    try (have q8:=z0d hd 8 55 (by decide) rfl;simp[evF] at q8)
    have r3:=z0c h0 3 (by kernel_rfl);simp at r3;have r4:=z0c h0 4 (by kernel_rfl);simp at r4;have r5:=z0c h0 5 (by kernel_rfl);simp at r5;have r6:=z0c h0 6 (by kernel_rfl);simp at r6;clear hd h0;go_simp;first|exact⟨_,rfl,y1g _,rfl⟩|exact⟨y1g _,rfl⟩|exact rfl|exact⟨_,rfl,rfl⟩|exact y1g _
  ·intro A wa hk;obtain⟨f,rfl,hxa,hdn,hrs⟩:=hk.fin (n:=154) rfl;obtain⟨ea,rfl⟩:=y1h hxa;have k47:f 47=.pointer (some ⟨mb,0,none⟩):=hdn 0 47 rfl rfl;have k48:f 48=.pointer (some ⟨sb,0,none⟩):=hdn 1 48 rfl rfl;have k50:f 50=.string t.name:=hdn 3 50 rfl rfl;have k51:f 51=.int .i64 wd:=hdn 4 51 rfl rfl;obtain⟨bb,hr11,k58⟩:=hdn 11 58 rfl rfl;clear hdn hrs;simp only[List.drop_succ_cons,List.drop_zero];simp[List.range,List.range.loop,k47,k48,k50,k51,k58];clear k47 k48 k50 k51 k58;have HR11:=Hd hr11;have KS:=Hd (q1i N0 mb sb mp vf vs vp vc ve m s t.name wd 4 bb.2 ea.w (HMK.o.ext ea.ext) (HSC.o.ext ea.ext) hsm hsg hb0 hb1 (by omega) (by omega) (by omega) (by omega));go_wp2_with fail
   go_at_call 73;refine KS.o.mono ?_;rintro e w6 (⟨r,u,hr,rfl,rfl,⟨vs',vp',vc',hmk,hfr⟩,⟨ve',hsc⟩⟩|⟨c,hr,rfl,hfr⟩);rotate_left
   ·exact⟨rfl,.no (by rw[HD.o];simp only[bind,Except.bind];rw[HR5.o];simp only;rw[HR11.o];exact hr) ((y1z (X3.o.trans ea.ext)).trans hfr)⟩
   have HF6:=Hd ((y1z (X3.o.trans ea.ext)).trans hfr);have HI6:=Hd (H.o.frI HF6.o hmk hsc (H.o.gd.signal hr HWI.o) (H.o.inv.signal hr HWI.o));have HD6:=Hd (show z1m inst t s m=.ok r by rw[HD.o];simp only[bind,Except.bind];rw[HR5.o];simp only;rw[HR11.o];exact hr);have HS6:=Hd (z3p hr).1;clear hmk hsc hfr hr;go_wp2_with fail
   refine bodyPost_ret (v:=z1w) ?_ rfl (.ok HD6.o ⟨rfl,HI6.o,HF6.o,by rw[HS6.o];exact Nat.le_add_right _ _,by rw[HS6.o]⟩);simp[results,results76,go_sem,z1w]
theorem j5s(W0:World)(B N0 mb:Nat)(vf:Value)(inst:Itm→Sc→Mk→Rs Mk)(k:Nat)(t:Itm)(hop:t.op=8)(hvx:∀y,y∈t.x→VX y)(h2:t.x.length=1)(hl:q0w W0 B N0 mb vf inst k t.l)(he:q0w W0 B N0 mb vf inst k t.els):q2z W0 B N0 mb vf inst k t:=by
 intro sb mp m s w cs h hck hln hph hR;have H:=Hd h;have hb0:=h.inv.b0;have hb1:=h.inv.b1;have hsg:=h.inv.sg;have hpr:=h.inv.pr;have hc0:=h.inv.c0;have hc1:=h.inv.c1;obtain⟨hmw,hsw,hpw,hsm,hpm,hps,hNm⟩:=h.mlt;obtain⟨v3,v4,v5,v6,v7,v8,rfl,h3,h4,h5,h6,h7,h8⟩:=RI_iff.1 hR;have o3:=h3.oneCell;have o4:=h4.oneCell;have o5:=h5.oneCell;have o6:=h6.oneCell;have o7:=h7.oneCell;have o8:=h8.oneCell;have HX3:=Hd h3;have HX4:=Hd h4;have HX5:=Hd h5;have HX6:=Hd h6;have HRI:=Hd hR;obtain⟨W1,hW1,hx1,hb1'⟩:=z4w w (.pointer (some ⟨mb,0,none⟩)) 97;obtain⟨W2,hW2,hx2,hb2'⟩:=z4w W1 (.pointer (some ⟨sb,0,none⟩)) 100;obtain⟨W3,hW3,hx3,hb3'⟩:=q0y W2 (.int .i64 t.op) (.string t.name) (.string t.of) v3 v4 v5 v6 v7 v8 37;have hV1:=hW1.symm;have hV2:=hW2.symm;have s1:w.heap.size<W1.heap.size:=hb1'.lt;have s2:W1.heap.size<W2.heap.size:=hb2'.lt;have s3:W2.heap.size<W3.heap.size:=hb3'.lt;have BM:=Hd (hb1'.ext (hx2.trans hx3));have BS:=Hd (hb2'.ext hx3);have BX:=Hd hb3';have X3:=Hd (hx1.trans (hx2.trans hx3));have H3:=Hd (h.ext X3.o);obtain⟨e3,he3⟩:=y1h (W:=W3) (w:=W3) (y1g _);have hV3:=hW3.symm.trans he3;obtain⟨c0,c1,c2,c3,c4,c5,c6,c7,c8⟩:=BX.o.later9;have m0:=cellAt (BM.o.cell 0);have n0:=cellAt (BS.o.cell 0);have HW3:=Hd he3;clear he3 hW1 hW2 hW3 hx1 hx2 hx3 hb1' hb2' hb3' h h3 h4 h5 h6 h7 h8 hR;have hs0:1+z0e z0l t.x≤1000000000:=by have:=z0r t;omega
 obtain⟨la,lc,rfl,hlc,hlr⟩:=HX3.o;have hl0:0<t.x.length:=by omega
 obtain⟨b0,o0,t0,hla,hb0',hlt0,hC0,ho0,hR0⟩:=hlr 0 hl0;subst hla;have HX0:=Hd (XOk.of (y1l hl0) hR0 (by omega) hvx);obtain⟨x50,rfl,h50⟩:=RX_iff.1 hR0;simp only[Nat.zero_mul,Nat.add_zero] at hC0;have hxa0:=z2m (k:=0) hl0;have u0:=h50.oneCell;obtain⟨d0,d1,d2,d3,d4,d5⟩:=(hC0.ext H3.o.cx.ext).later6;have hk0:(0:Int)<(t.x.length:Int):=by omega
 have HD:=Hd (show z1m inst t s m=(do let v←z1p s t.x[0];if v≠0 then z1r inst t.l s m else z1r inst t.els s m) by rw[j3o inst t s m hop,show xAt t.x 0=t.x[0] from hxa0]);obtain⟨vs,vp,vc,ve,hmk3,hsc3⟩:=H3.o.ex;have HMK:=Hd hmk3;have HSC:=Hd hsc3;have HG:=Hd H.o.gd.env;clear hmk3 hsc3;generalize t.x[0]=x0 at*;have HLL:=Hd hl;have HEE:=Hd he;rw[hop] at hV3 c0;rw[hop];clear hlr hR0 h50 hlt0 hb0' hC0 ho0 hl he hvx h2;have KE:=Hd (fun(w':World) (hw:Ext W3 w')=>z4p W0 B x0 _ sb mp ve s w' (H3.o.cx.later hw) HX0.o (HSC.o.ext hw) HG.o);go_enter func76,ntmps76;go_wp2_with fail
 refine z0m 7 (W:=W3) (Ext) (evF 5 6 (z1p s x0) (fun a=>.int .i64 a) (fun a v w'=>v=.bool (!decide (a=0))) [.pointer (some ⟨sb,0,none⟩),.pointer (some ⟨W2.heap.size,3,none⟩),.slice (some ⟨b0,o0,none⟩) t.x.length lc,.pointer (some ⟨b0,o0,none⟩),.agg #[.int .i64 x0.op,.string x0.name,.int .i64 x0.n,.int .i64 x0.w,.int .u64 x0.v,x50],undef,undef]) (evP (z1p s x0) W3) (fun _=>true) (by kernel_rfl) (z0s) (by kernel_rfl) (by kernel_rfl) ?_ (y1i e3) (fun i v w w' h hx=>z9p (fun _ _ _ _ h hx=>h) h hx) ?_ (fun A ch wz hd hp=>by
  obtain⟨c,hr,rfl,hx⟩:=hp;obtain⟨ta,da⟩:=A;simp only at hd;subst hd;have HN:=Hd (show RunsP (z1m inst t s m) (ER W0 B N0 mb sb mp vf (z0i t) s w) (FrI N0 mb sb mp w) (.panicked (z2c c)) wz from .no (by rw[HD.o];rw[hr];rfl) (.of_ext (X3.o.trans hx)));exact⟨rfl,HN.o⟩) ?_
 ·exact⟨rfl,rfl,rfl,rfl,rfl,rfl,rfl,trivial⟩
 ·refine⟨?_,?_,?_,?_,?_,?_,?_,trivial⟩;rotate_left 5
  ·intro A wa hxa hd h0;obtain⟨ea,rfl⟩:=y1h hxa;have q0:=z0d hd 0 129 (by kernel_rfl) rfl;simp[evF] at q0;have q4:=z0d hd 4 133 (by kernel_rfl) rfl;simp[evF] at q4;clear hd h0;go_simp;refine(KE.o ea.w ea.ext).mono ?_;rintro e wk (⟨a,u,hr,rfl,rfl,hxk⟩|⟨c,hr,rfl,hxk⟩);rotate_left
   ·exact⟨rfl,c,hr,rfl,ea.ext.trans hxk⟩
   have HR:=Hd hr;clear hr;go_simp;first|exact⟨_,rfl,hxk,a,HR.o,rfl⟩|exact⟨hxk,a,HR.o,rfl⟩|exact⟨_,rfl,a,HR.o,rfl⟩
  ·intro A wa hxa hd h0;obtain⟨ea,rfl⟩:=y1h hxa;obtain⟨a5,hr5,q5⟩:=z0d hd 5 134 (by kernel_rfl) rfl;simp at q5;have HR5:=Hd hr5;clear hr5;clear hd h0;go_simp;first|exact⟨_,rfl,y1g _,a5,HR5.o,rfl⟩|exact⟨y1g _,a5,HR5.o,rfl⟩|exact⟨_,rfl,a5,HR5.o,rfl⟩
  all_goals
   intro A wa hxa hd h0;obtain⟨ea,rfl⟩:=y1h hxa;try (have q1:=z0d hd 1 130 (by decide) rfl;simp[evF] at q1)
   try (have q2:=z0d hd 2 131 (by decide) rfl;simp[evF] at q2)
   try (have q3:=z0d hd 3 132 (by decide) rfl;simp[evF] at q3)
   have r4:=z0c h0 4 (by kernel_rfl);simp at r4;have r5:=z0c h0 5 (by kernel_rfl);simp at r5;clear hd h0;go_simp;first|exact⟨_,rfl,y1g _,rfl⟩|exact⟨y1g _,rfl⟩|exact rfl|exact⟨_,rfl,rfl⟩|exact y1g _
 ·intro A wa hk;obtain⟨f,rfl,hxa,hdn,hrs⟩:=hk.fin (n:=154) rfl;obtain⟨ea,rfl⟩:=y1h hxa;have k3:=hrs 3 (by kernel_rfl);have k4:=hrs 4 (by kernel_rfl);have k5:=hrs 5 (by kernel_rfl);obtain⟨a,hr6,k135⟩:=hdn 6 135 rfl rfl;clear hdn hrs;simp at k3 k4 k5;simp only[List.drop_succ_cons,List.drop_zero];simp[List.range,List.range.loop,k3,k4,k5,k135];clear k3 k4 k5 k135;have HR6:=Hd hr6;clear hr6;by_cases ha:a=0
  ·subst ha;have KI:=Hd (HEE.o sb mp m s ea.w v6 (H3.o.ext ea.ext) (by have:=z0r t;omega) (by have:=z0r t;omega) HX6.o);go_wp2_with fail
   go_at_call 39;refine KI.o.mono ?_;rintro e w6 (⟨y,u,hr,rfl,hu,hec,hfr,hel,hpe⟩|⟨c,hr,rfl,hfr⟩);rotate_left
   ·exact⟨rfl,.no (by rw[HD.o,HR6.o];simp only[bind,Except.bind];rw[if_neg (by simp)];exact hr) ((y1z (X3.o.trans ea.ext)).trans hfr)⟩
   subst hu;have HE6:=Hd hec;have HF6:=Hd ((y1z (X3.o.trans ea.ext)).trans hfr);have HD6:=Hd (show z1m inst t s m=.ok y by rw[HD.o,HR6.o];simp only[bind,Except.bind];rw[if_neg (by simp)];exact hr);have HL6:=Hd (show y.1.env.length≤s.env.length+z0i t by have:=z0r t;omega);clear hec hfr hr hel;go_wp2_with fail
   refine bodyPost_ret (v:=z1w) ?_ rfl (.ok HD6.o ⟨rfl,HE6.o,HF6.o,HL6.o,hpe⟩);simp[results,results76,go_sem,z1w]
  ·simp only[show decide (a=0)=false from decide_eq_false ha,Bool.not_false];have KI:=Hd (HLL.o sb mp m s ea.w v5 (H3.o.ext ea.ext) (by have:=z0r t;omega) (by have:=z0r t;omega) HX5.o);go_wp2_with fail
   go_at_call 39;refine KI.o.mono ?_;rintro e w6 (⟨y,u,hr,rfl,hu,hec,hfr,hel,hpe⟩|⟨c,hr,rfl,hfr⟩);rotate_left
   ·exact⟨rfl,.no (by rw[HD.o,HR6.o];simp only[bind,Except.bind];rw[if_pos ha];exact hr) ((y1z (X3.o.trans ea.ext)).trans hfr)⟩
   subst hu;have HE6:=Hd hec;have HF6:=Hd ((y1z (X3.o.trans ea.ext)).trans hfr);have HD6:=Hd (show z1m inst t s m=.ok y by rw[HD.o,HR6.o];simp only[bind,Except.bind];rw[if_pos ha];exact hr);have HL6:=Hd (show y.1.env.length≤s.env.length+z0i t by have:=z0r t;omega);clear hec hfr hr hel;go_wp2_with fail
   refine bodyPost_ret (v:=z1w) ?_ rfl (.ok HD6.o ⟨rfl,HE6.o,HF6.o,HL6.o,hpe⟩);simp[results,results76,go_sem,z1w]
theorem FrI.wide{N0 mb sb mp n:Nat}{w w':World}(hf:FrI N0 mb n n w w')(hn:w.heap.size≤n):FrI N0 mb sb mp w w':=
 ⟨hf.os,hf.tape,hf.output,hf.size,fun k hk h1 _ _ h4=>hf.block k hk h1 (by omega) (by omega) h4⟩
theorem ScI.frI{N0 mb sb mp n:Nat}{ve:Value}{s:Sc}{w w':World}(h:ScI w sb mp ve s)(hf:FrI N0 mb n n w w')(hn:w.heap.size≤n)(hm:Tag w mb 99):ScI w' sb mp ve s:=by
 have h1:=h.blk.lt;have h2:=h.map.lt;exact⟨hf.blk h.blk ⟨by decide,by decide,by decide⟩ (fun e=>absurd (h.blk.tag.one (e▸hm)) (by decide)) (by omega) (by omega),h.env.keep (.inr (.inr rfl)) (hf.kp hm (fun e=>absurd e (by omega)) (fun e=>absurd e (by omega))) (fun _ _ _ h=>h),hf.map h.map (fun e=>h.map.noTag (e▸hm)) (by omega) (by omega)⟩
theorem EC.process{W0 w w1 w':World}{B N0 mb sb mp:Nat}{vf vs vp vc vs' vp' vc':Value}{m m1 m2:Mk}{s:Sc}{clk:Bool}{l:List DT}(h:EC W0 B N0 mb sb mp vf m s w)(hf:FrS mb w w1)(hk:MkI w1 N0 mb vf vs vp vc m1)(hc:CntM m m1)(hp:z1g clk l m1=.ok m2)(hk':MkI w' N0 mb vf vs' vp' vc' m2)(hf':FrI N0 mb w1.heap.size w1.heap.size w1 w'):
 EC W0 B N0 mb sb mp vf m2 s w'∧FrI N0 mb sb mp w w':=by
 obtain⟨vs0,vp0,vc0,ve,h1,h2⟩:=h.ex;have hg:=(FrI.of_chg (N0:=N0) (sb:=sb) (mp:=mp) hf).trans (hf'.wide (sb:=sb) (mp:=mp) (y1j _));have hd:m2.d.sigs=m.d.sigs:=by rw[(z2u hp).1,←hc.d]
 exact⟨h.frI hg hk' ((h2.frS hf h1.blk.tag).frI hf' (y1j _) hk.blk.tag) (by rw[hd];exact h.gd) ((h.inv.cnt hc).process hp),hg⟩
theorem q9e(W0:World)(B N0 mb:Nat)(vf:Value)(inst:Itm→Sc→Mk→Rs Mk)(k:Nat)(t:Itm)(hop:t.op=5)(hsv:∀y,y∈t.s→VS y)(hsm':∀y,y∈t.s→MayS y):q2z W0 B N0 mb vf inst k t:=by
 intro sb mp m s w cs h hck hln hph hR;have H:=Hd h;have hb0:=h.inv.b0;have hb1:=h.inv.b1;have hsg:=h.inv.sg;have hpr:=h.inv.pr;have hc0:=h.inv.c0;have hc1:=h.inv.c1;obtain⟨hmw,hsw,hpw,hsm,hpm,hps,hNm⟩:=h.mlt;obtain⟨v3,v4,v5,v6,v7,v8,rfl,h3,h4,h5,h6,h7,h8⟩:=RI_iff.1 hR;have o3:=h3.oneCell;have o4:=h4.oneCell;have o5:=h5.oneCell;have o6:=h6.oneCell;have o7:=h7.oneCell;have o8:=h8.oneCell;have HX3:=Hd h3;have HX4:=Hd h4;have HX5:=Hd h5;have HX6:=Hd h6;have HRI:=Hd hR;obtain⟨W1,hW1,hx1,hb1'⟩:=z4w w (.pointer (some ⟨mb,0,none⟩)) 97;obtain⟨W2,hW2,hx2,hb2'⟩:=z4w W1 (.pointer (some ⟨sb,0,none⟩)) 100;obtain⟨W3,hW3,hx3,hb3'⟩:=q0y W2 (.int .i64 t.op) (.string t.name) (.string t.of) v3 v4 v5 v6 v7 v8 37;have hV1:=hW1.symm;have hV2:=hW2.symm;have s1:w.heap.size<W1.heap.size:=hb1'.lt;have s2:W1.heap.size<W2.heap.size:=hb2'.lt;have s3:W2.heap.size<W3.heap.size:=hb3'.lt;have BM:=Hd (hb1'.ext (hx2.trans hx3));have BS:=Hd (hb2'.ext hx3);have BX:=Hd hb3';have X3:=Hd (hx1.trans (hx2.trans hx3));have H3:=Hd (h.ext X3.o);obtain⟨e3,he3⟩:=y1h (W:=W3) (w:=W3) (y1g _);have hV3:=hW3.symm.trans he3;obtain⟨c0,c1,c2,c3,c4,c5,c6,c7,c8⟩:=BX.o.later9;have m0:=cellAt (BM.o.cell 0);have n0:=cellAt (BS.o.cell 0);have HW3:=Hd he3;clear he3 hW1 hW2 hW3 hx1 hx2 hx3 hb1' hb2' hb3' h h3 h4 h5 h6 h7 h8 hR;have HD:=Hd (show z1m inst t s m=(do let y←z2b false s t.s m;let m2←z1g false y.1 y.2;return(s,m2)) by rw[q1s inst t s m (.inl hop),hop];rfl);have hsz1:s.env.length+z0e z0p t.s≤1000000:=by have:=z0r t;omega
 obtain⟨vs,vp,vc,ve,hst3⟩:=H3.o.stc;have HST:=Hd hst3;have HSV:=Hd hsv;have HSM:=Hd hsm';have HSK:=Hd (SlK.of HX4.o H3.o.cx.ext H3.o.cx.hB hst3.lo);clear hst3 hsv hsm';rw[hop] at hV3 c0;rw[hop];have hmf:¬w.heap.size=mb:=by omega
 go_enter func76,ntmps76;go_wp2_with fail
 refine z1y 8 (eqS [7] [.pointer (some ⟨mb,0,none⟩),.bool false,.pointer (some ⟨mb,0,none⟩),.pointer (some ⟨sb,0,none⟩),.pointer (some ⟨W2.heap.size,4,none⟩),v4,.bool false,undef]) (phJ 7 89 (fun wz=>Ext e3.w wz) (k5k (z2b false s t.s m) N0 mb vf vs vp vc m W3)) (fun ch wz=>∃c,z2b false s t.s m=.error c∧ch=z2c c∧FrS mb W3 wz) (by kernel_rfl) (fun _ _ _ _ h=>h) (by kernel_rfl) (by kernel_rfl) ?_ ((y1g _).drew) ?_ (fun A ch wz hd hp=>by
  obtain⟨c,hr,rfl,hx⟩:=hp;obtain⟨tA,dA⟩:=A;simp only at hd;subst hd;have HN:=Hd (show RunsP (z1m inst t s m) (ER W0 B N0 mb sb mp vf (z0i t) s w) (FrI N0 mb sb mp w) (.panicked (z2c c)) wz from .no (by rw[HD.o,hr];rfl) ((y1z X3.o).trans (.of_chg hx)));exact⟨rfl,HN.o⟩) ?_
 ·simp[GuardsMet]
 ·refine⟨?_,?_,?_,?_,?_,?_,?_,?_,trivial⟩;rotate_left 7
  ·refine StepI.turn rfl (by kernel_rfl) ?_;intro A wa hj hd h0;have q2:=z0d hd 2 84 (by kernel_rfl) rfl;simp[eqS] at q2;have q3:=z0d hd 3 85 (by kernel_rfl) rfl;simp[eqS] at q3;have q5:=z0d hd 5 87 (by kernel_rfl) rfl;simp[eqS] at q5;have q6:=z0d hd 6 88 (by kernel_rfl) rfl;simp[eqS] at q6;clear hd h0;have KS:=Hd (z8c W0 B N0 mb sb mp vf vs vp vc ve m s false t.s v4 wa (HST.o.ext (e3.ext.trans hj)) (SlK.frS HSK.o (e3.ext.trans hj).chg) (fun y hy=>(j2t W0 B N0 mb vf vs vp vc false y (HSV.o y hy)).1 (HSM.o y hy)) hsz1);have HJX:=Hd (e3.ext.trans hj);clear hj;go_simp;refine KS.o.mono ?_;rintro e wk (⟨r,u,hr,rfl,hsl,hmk,hfr,hcm⟩|⟨c,hr,rfl,hfr⟩);rotate_left
   ·exact⟨rfl,c,hr,rfl,HJX.o.chg.trans hfr⟩
   have HP:=Hd (show k5k (z2b false s t.s m) N0 mb vf vs vp vc m W3 u wk from⟨r,hr,SlT9.turn hsl (y1u (fun _=>False) wk) (fun b _ hy=>⟨id,y1k HJX.o.size hy⟩),hmk,HJX.o.chg.trans hfr,hcm⟩);clear hr hsl hmk hfr hcm;go_simp;first|exact⟨_,rfl,trivial,HP.o⟩
  all_goals
   refine StepI.plain (S:=[7]) (T:=[89]) (I:=FrS mb e3.w) z6j (q1k (fun _ h=>h.chg) (fun _ _ h=>by obtain⟨r,h1,h2,h3,h4,h5⟩:=h;rw[←HW3.o];exact h4)) (by decide) (by decide) ?_;intro A wa hI hd h0;try (have q4:=z0d hd 4 86 (by decide) rfl;simp[eqS] at q4)
   have r3:=z0c h0 3 (by kernel_rfl);simp at r3;have r7:=z0c h0 7 (by kernel_rfl);simp at r7;have r4:=z0c h0 4 (by kernel_rfl);simp at r4;have r5:=z0c h0 5 (by kernel_rfl);simp at r5;clear hd h0;have i1:=(hI.blk (BM.o.ext e3.ext) (show¬w.heap.size=mb by omega)).cell 0;have i2:=(hI.blk (BS.o.ext e3.ext) (show¬W1.heap.size=mb by omega)).cell 0;have i3:=(hI.blk (BX.o.ext e3.ext) (show¬W2.heap.size=mb by omega)).cell 4;try simp only[List.getElem?_cons_succ,List.getElem?_cons_zero] at i1 i2 i3
   clear hI;go_simp;first|exact⟨_,rfl,rfl,rfl⟩|exact⟨_,rfl,rfl⟩|exact⟨rfl,rfl⟩|exact rfl
 ·intro A wa hk;obtain⟨f,rfl,hdn,hrs,hj⟩:=hk.fin (n:=154) rfl;replace hj:(k5k (z2b false s t.s m) N0 mb vf vs vp vc m W3) (f 89) wa:=hj;have k82:f 82=.pointer (some ⟨mb,0,none⟩):=hdn 0 82 rfl rfl;have k83:f 83=.bool false:=hdn 1 83 rfl rfl;clear hdn hrs;obtain⟨r1,hr2,hsl,hmk,hfr,hcm⟩:=hj;obtain⟨ya,yc,hu⟩:=hsl.form;have k89:f 89=.slice ya r1.1.length yc:=hu;rw[k89] at hsl;clear hu;simp only[List.drop_succ_cons,List.drop_zero];simp[List.range,List.range.loop,k82,k83,k89];clear k82 k83 k89;have HFR:=Hd hfr;have HMK:=Hd hmk;have HCM:=Hd hcm;have HR2:=Hd hr2;have KP:=Hd (z5e N0 mb wa.heap.size wa.heap.size vf vs vp vc r1.2 false r1.1 (.slice ya r1.1.length yc) wa hmk (hsl.slT (fun y _=>RT9.rt6 y)) (by rw[hcm.d];exact hpr));clear hfr hmk hcm hr2 hsl;go_wp2_with fail
  go_at_call 107;refine KP.o.mono ?_;rintro e w6 (⟨r,u,hr,rfl,rfl,vs',vp',vc',hmk,hfr⟩|⟨c,hr,rfl,hfr⟩);rotate_left
  ·exact⟨rfl,.no (by rw[HD.o,HR2.o];simp only[bind,Except.bind];rw[hr]) (((y1z X3.o).trans (.of_chg HFR.o)).trans (hfr.wide (y1j _)))⟩
  have HI6:=Hd (H.o.process (X3.o.chg.trans HFR.o) HMK.o HCM.o hr hmk hfr);have HD6:=Hd (show z1m inst t s m=.ok (s,r) by rw[HD.o,HR2.o];simp only[bind,Except.bind];rw[hr];rfl);clear hmk hfr hr;go_wp2_with fail
  refine bodyPost_ret (v:=z1w) ?_ rfl (.ok HD6.o ⟨rfl,HI6.o.1,HI6.o.2,Nat.le_add_right _ _,rfl⟩);simp[results,results76,go_sem,z1w]
theorem j1s(W0:World)(B N0 mb:Nat)(vf:Value)(inst:Itm→Sc→Mk→Rs Mk)(k:Nat)(t:Itm)(hop:t.op=6)(hsv:∀y,y∈t.s→VS y)(hsm':∀y,y∈t.s→MayS y):q2z W0 B N0 mb vf inst k t:=by
 intro sb mp m s w cs h hck hln hph hR;have H:=Hd h;have hb0:=h.inv.b0;have hb1:=h.inv.b1;have hsg:=h.inv.sg;have hpr:=h.inv.pr;have hc0:=h.inv.c0;have hc1:=h.inv.c1;obtain⟨hmw,hsw,hpw,hsm,hpm,hps,hNm⟩:=h.mlt;obtain⟨v3,v4,v5,v6,v7,v8,rfl,h3,h4,h5,h6,h7,h8⟩:=RI_iff.1 hR;have o3:=h3.oneCell;have o4:=h4.oneCell;have o5:=h5.oneCell;have o6:=h6.oneCell;have o7:=h7.oneCell;have o8:=h8.oneCell;have HX3:=Hd h3;have HX4:=Hd h4;have HX5:=Hd h5;have HX6:=Hd h6;have HRI:=Hd hR;obtain⟨W1,hW1,hx1,hb1'⟩:=z4w w (.pointer (some ⟨mb,0,none⟩)) 97;obtain⟨W2,hW2,hx2,hb2'⟩:=z4w W1 (.pointer (some ⟨sb,0,none⟩)) 100;obtain⟨W3,hW3,hx3,hb3'⟩:=q0y W2 (.int .i64 t.op) (.string t.name) (.string t.of) v3 v4 v5 v6 v7 v8 37;have hV1:=hW1.symm;have hV2:=hW2.symm;have s1:w.heap.size<W1.heap.size:=hb1'.lt;have s2:W1.heap.size<W2.heap.size:=hb2'.lt;have s3:W2.heap.size<W3.heap.size:=hb3'.lt;have BM:=Hd (hb1'.ext (hx2.trans hx3));have BS:=Hd (hb2'.ext hx3);have BX:=Hd hb3';have X3:=Hd (hx1.trans (hx2.trans hx3));have H3:=Hd (h.ext X3.o);obtain⟨e3,he3⟩:=y1h (W:=W3) (w:=W3) (y1g _);have hV3:=hW3.symm.trans he3;obtain⟨c0,c1,c2,c3,c4,c5,c6,c7,c8⟩:=BX.o.later9;have m0:=cellAt (BM.o.cell 0);have n0:=cellAt (BS.o.cell 0);have HW3:=Hd he3;clear he3 hW1 hW2 hW3 hx1 hx2 hx3 hb1' hb2' hb3' h h3 h4 h5 h6 h7 h8 hR;have HD:=Hd (show z1m inst t s m=(do let y←z2b true s t.s m;let m2←z1g true y.1 y.2;return(s,m2)) by rw[q1s inst t s m (.inr hop),hop];rfl);have hsz1:s.env.length+z0e z0p t.s≤1000000:=by have:=z0r t;omega
 obtain⟨vs,vp,vc,ve,hst3⟩:=H3.o.stc;have HST:=Hd hst3;have HSV:=Hd hsv;have HSM:=Hd hsm';have HSK:=Hd (SlK.of HX4.o H3.o.cx.ext H3.o.cx.hB hst3.lo);clear hst3 hsv hsm';rw[hop] at hV3 c0;rw[hop];have hmf:¬w.heap.size=mb:=by omega
 go_enter func76,ntmps76;go_wp2_with fail
 refine z1y 8 (eqS [7] [.pointer (some ⟨mb,0,none⟩),.bool true,.pointer (some ⟨mb,0,none⟩),.pointer (some ⟨sb,0,none⟩),.pointer (some ⟨W2.heap.size,4,none⟩),v4,.bool true,undef]) (phJ 7 89 (fun wz=>Ext e3.w wz) (k5k (z2b true s t.s m) N0 mb vf vs vp vc m W3)) (fun ch wz=>∃c,z2b true s t.s m=.error c∧ch=z2c c∧FrS mb W3 wz) (by kernel_rfl) (fun _ _ _ _ h=>h) (by kernel_rfl) (by kernel_rfl) ?_ ((y1g _).drew) ?_ (fun A ch wz hd hp=>by
  obtain⟨c,hr,rfl,hx⟩:=hp;obtain⟨tA,dA⟩:=A;simp only at hd;subst hd;have HN:=Hd (show RunsP (z1m inst t s m) (ER W0 B N0 mb sb mp vf (z0i t) s w) (FrI N0 mb sb mp w) (.panicked (z2c c)) wz from .no (by rw[HD.o,hr];rfl) ((y1z X3.o).trans (.of_chg hx)));exact⟨rfl,HN.o⟩) ?_
 ·simp[GuardsMet]
 ·refine⟨?_,?_,?_,?_,?_,?_,?_,?_,trivial⟩;rotate_left 7
  ·refine StepI.turn rfl (by kernel_rfl) ?_;intro A wa hj hd h0;have q2:=z0d hd 2 84 (by kernel_rfl) rfl;simp[eqS] at q2;have q3:=z0d hd 3 85 (by kernel_rfl) rfl;simp[eqS] at q3;have q5:=z0d hd 5 87 (by kernel_rfl) rfl;simp[eqS] at q5;have q6:=z0d hd 6 88 (by kernel_rfl) rfl;simp[eqS] at q6;clear hd h0;have KS:=Hd (z8c W0 B N0 mb sb mp vf vs vp vc ve m s true t.s v4 wa (HST.o.ext (e3.ext.trans hj)) (SlK.frS HSK.o (e3.ext.trans hj).chg) (fun y hy=>(j2t W0 B N0 mb vf vs vp vc true y (HSV.o y hy)).1 (HSM.o y hy)) hsz1);have HJX:=Hd (e3.ext.trans hj);clear hj;go_simp;refine KS.o.mono ?_;rintro e wk (⟨r,u,hr,rfl,hsl,hmk,hfr,hcm⟩|⟨c,hr,rfl,hfr⟩);rotate_left
   ·exact⟨rfl,c,hr,rfl,HJX.o.chg.trans hfr⟩
   have HP:=Hd (show k5k (z2b true s t.s m) N0 mb vf vs vp vc m W3 u wk from⟨r,hr,SlT9.turn hsl (y1u (fun _=>False) wk) (fun b _ hy=>⟨id,y1k HJX.o.size hy⟩),hmk,HJX.o.chg.trans hfr,hcm⟩);clear hr hsl hmk hfr hcm;go_simp;first|exact⟨_,rfl,trivial,HP.o⟩
  all_goals
   refine StepI.plain (S:=[7]) (T:=[89]) (I:=FrS mb e3.w) z6j (q1k (fun _ h=>h.chg) (fun _ _ h=>by obtain⟨r,h1,h2,h3,h4,h5⟩:=h;rw[←HW3.o];exact h4)) (by decide) (by decide) ?_;intro A wa hI hd h0;try (have q4:=z0d hd 4 86 (by decide) rfl;simp[eqS] at q4)
   have r3:=z0c h0 3 (by kernel_rfl);simp at r3;have r7:=z0c h0 7 (by kernel_rfl);simp at r7;have r4:=z0c h0 4 (by kernel_rfl);simp at r4;have r5:=z0c h0 5 (by kernel_rfl);simp at r5;clear hd h0;have i1:=(hI.blk (BM.o.ext e3.ext) (show¬w.heap.size=mb by omega)).cell 0;have i2:=(hI.blk (BS.o.ext e3.ext) (show¬W1.heap.size=mb by omega)).cell 0;have i3:=(hI.blk (BX.o.ext e3.ext) (show¬W2.heap.size=mb by omega)).cell 4;try simp only[List.getElem?_cons_succ,List.getElem?_cons_zero] at i1 i2 i3
   clear hI;go_simp;first|exact⟨_,rfl,rfl,rfl⟩|exact⟨_,rfl,rfl⟩|exact⟨rfl,rfl⟩|exact rfl
 ·intro A wa hk;obtain⟨f,rfl,hdn,hrs,hj⟩:=hk.fin (n:=154) rfl;replace hj:(k5k (z2b true s t.s m) N0 mb vf vs vp vc m W3) (f 89) wa:=hj;have k82:f 82=.pointer (some ⟨mb,0,none⟩):=hdn 0 82 rfl rfl;have k83:f 83=.bool true:=hdn 1 83 rfl rfl;clear hdn hrs;obtain⟨r1,hr2,hsl,hmk,hfr,hcm⟩:=hj;obtain⟨ya,yc,hu⟩:=hsl.form;have k89:f 89=.slice ya r1.1.length yc:=hu;rw[k89] at hsl;clear hu;simp only[List.drop_succ_cons,List.drop_zero];simp[List.range,List.range.loop,k82,k83,k89];clear k82 k83 k89;have HFR:=Hd hfr;have HMK:=Hd hmk;have HCM:=Hd hcm;have HR2:=Hd hr2;have KP:=Hd (z5e N0 mb wa.heap.size wa.heap.size vf vs vp vc r1.2 true r1.1 (.slice ya r1.1.length yc) wa hmk (hsl.slT (fun y _=>RT9.rt6 y)) (by rw[hcm.d];exact hpr));clear hfr hmk hcm hr2 hsl;go_wp2_with fail
  go_at_call 107;refine KP.o.mono ?_;rintro e w6 (⟨r,u,hr,rfl,rfl,vs',vp',vc',hmk,hfr⟩|⟨c,hr,rfl,hfr⟩);rotate_left
  ·exact⟨rfl,.no (by rw[HD.o,HR2.o];simp only[bind,Except.bind];rw[hr]) (((y1z X3.o).trans (.of_chg HFR.o)).trans (hfr.wide (y1j _)))⟩
  have HI6:=Hd (H.o.process (X3.o.chg.trans HFR.o) HMK.o HCM.o hr hmk hfr);have HD6:=Hd (show z1m inst t s m=.ok (s,r) by rw[HD.o,HR2.o];simp only[bind,Except.bind];rw[hr];rfl);clear hmk hfr hr;go_wp2_with fail
  refine bodyPost_ret (v:=z1w) ?_ rfl (.ok HD6.o ⟨rfl,HI6.o.1,HI6.o.2,Nat.le_add_right _ _,rfl⟩);simp[results,results76,go_sem,z1w]
def y0o(D:Rs (DT×Mk))(N0 mb:Nat)(vf vs vp vc:Value)(m:Mk)(W:World)(u:Value)(w:World):Prop:=
 ∃r,D=.ok r∧SlT9 (fun b=>W.heap.size≤b) w [r.1] u∧MkI w N0 mb vf vs vp vc r.2∧FrS mb W w∧CntM m r.2
theorem SlT9.one{Y:Nat→Prop}{w:World}{x:DT}{g:Nat}{cs:List Value}(hb:Blk w g 73 cs)(hY:Y g)(hR:RT9 Y w x cs):SlT9 Y w [x] (.slice (some ⟨g,0,none⟩) 1 1):=
 ⟨some ⟨g,0,none⟩,1,rfl,y1j _,fun k hk=>by
  obtain rfl:k=0:=by simp at hk;omega
  exact⟨g,0,cs,rfl,hY,hb.tag,hR.len,by simpa using hb.cells,hR.one,hR⟩⟩
theorem q4y(W0:World)(B N0 mb:Nat)(vf:Value)(inst:Itm→Sc→Mk→Rs Mk)(k:Nat)(t:Itm)(hop:t.op=4)(hvx:∀y,y∈t.x→VX y)(h2:t.x.length=2)(hm:∀y,y∈t.x→MayX y)(htg:∀y,y∈t.x.head?→y.op=3∨y.op=4→0<y.l.length):q2z W0 B N0 mb vf inst k t:=by
 intro sb mp m s w cs h hck hln hph hR;have H:=Hd h;have hb0:=h.inv.b0;have hb1:=h.inv.b1;have hsg:=h.inv.sg;have hpr:=h.inv.pr;have hc0:=h.inv.c0;have hc1:=h.inv.c1;obtain⟨hmw,hsw,hpw,hsm,hpm,hps,hNm⟩:=h.mlt;obtain⟨v3,v4,v5,v6,v7,v8,rfl,h3,h4,h5,h6,h7,h8⟩:=RI_iff.1 hR;have o3:=h3.oneCell;have o4:=h4.oneCell;have o5:=h5.oneCell;have o6:=h6.oneCell;have o7:=h7.oneCell;have o8:=h8.oneCell;have HX3:=Hd h3;have HX4:=Hd h4;have HX5:=Hd h5;have HX6:=Hd h6;have HRI:=Hd hR;obtain⟨W1,hW1,hx1,hb1'⟩:=z4w w (.pointer (some ⟨mb,0,none⟩)) 97;obtain⟨W2,hW2,hx2,hb2'⟩:=z4w W1 (.pointer (some ⟨sb,0,none⟩)) 100;obtain⟨W3,hW3,hx3,hb3'⟩:=q0y W2 (.int .i64 t.op) (.string t.name) (.string t.of) v3 v4 v5 v6 v7 v8 37;have hV1:=hW1.symm;have hV2:=hW2.symm;have s1:w.heap.size<W1.heap.size:=hb1'.lt;have s2:W1.heap.size<W2.heap.size:=hb2'.lt;have s3:W2.heap.size<W3.heap.size:=hb3'.lt;have BM:=Hd (hb1'.ext (hx2.trans hx3));have BS:=Hd (hb2'.ext hx3);have BX:=Hd hb3';have X3:=Hd (hx1.trans (hx2.trans hx3));have H3:=Hd (h.ext X3.o);obtain⟨e3,he3⟩:=y1h (W:=W3) (w:=W3) (y1g _);have hV3:=hW3.symm.trans he3;obtain⟨c0,c1,c2,c3,c4,c5,c6,c7,c8⟩:=BX.o.later9;have m0:=cellAt (BM.o.cell 0);have n0:=cellAt (BS.o.cell 0);have HW3:=Hd he3;clear he3 hW1 hW2 hW3 hx1 hx2 hx3 hb1' hb2' hb3' h h3 h4 h5 h6 h7 h8 hR;have hs0:1+z0e z0l t.x≤1000000000:=by have:=z0r t;omega
 obtain⟨la,lc,rfl,hlc,hlr⟩:=HX3.o;have hl0:0<t.x.length:=by omega
 have hl1:1<t.x.length:=by omega
 obtain⟨b0,o0,t0,hla,hb0',hlt0,hC0,ho0,hR0⟩:=hlr 0 hl0;obtain⟨b1,o1,t1,hla1,hb1',hlt1,hC1,ho1,hR1⟩:=hlr 1 hl1;subst hla;injection hla1 with e1;injection e1 with e1 e2;subst e1;subst e2;have HX0:=Hd (XOk.of (y1l hl0) hR0 (by omega) hvx);have HX1:=Hd (XOk.of (y1l hl1) hR1 (by omega) hvx);obtain⟨x50,rfl,h50⟩:=RX_iff.1 hR0;obtain⟨x51,rfl,h51⟩:=RX_iff.1 hR1;simp only[Nat.zero_mul,Nat.add_zero,Nat.one_mul] at hC0 hC1;have hxa0:=z2m (k:=0) hl0;have hxa1:=z2m (k:=1) hl1;have u0:=h50.oneCell;have u1:=h51.oneCell;have HC0:=Hd hC0;have HC1:=Hd hC1;have hk0:(0:Int)<(t.x.length:Int):=by omega
 have hk1:(1:Int)<(t.x.length:Int):=by omega
 have HM1:=Hd (hm _ (y1l hl1));have HT0:=Hd (htg t.x[0] (by rw[List.head?_eq_getElem?,List.getElem?_eq_getElem hl0];exact rfl));have HD:=Hd (show z1m inst t s m=(do let y←z2p s false t.x[0] t.x[1] m;let m2←z1g false [y.1] y.2;return(s,m2)) by rw[q2n inst t s m hop,show xAt t.x 0=t.x[0] from hxa0,show xAt t.x 1=t.x[1] from hxa1]);obtain⟨vs,vp,vc,ve,hst3⟩:=H3.o.stc;have HST:=Hd hst3;generalize t.x[0]=x0 at*;generalize t.x[1]=x1 at*;rw[hop] at hV3 c0;rw[hop];clear hlr hR0 hR1 h50 h51 hlt0 hlt1 hb0' hb1' hC0 hC1 ho0 ho1 hst3 hm htg hvx h2 hl1;have hmf:¬w.heap.size=mb:=by omega
 go_enter func76,ntmps76;go_wp2_with fail
 refine z1y 13 (eqS [11,12] [.pointer (some ⟨mb,0,none⟩),.pointer (some ⟨mb,0,none⟩),.pointer (some ⟨sb,0,none⟩),.pointer (some ⟨W2.heap.size,3,none⟩),.slice (some ⟨b0,o0,none⟩) t.x.length lc,.pointer (some ⟨b0,o0,none⟩),.agg #[.int .i64 x0.op,.string x0.name,.int .i64 x0.n,.int .i64 x0.w,.int .u64 x0.v,x50],.pointer (some ⟨W2.heap.size,3,none⟩),.slice (some ⟨b0,o0,none⟩) t.x.length lc,.pointer (some ⟨b0,o0+6,none⟩),.agg #[.int .i64 x1.op,.string x1.name,.int .i64 x1.n,.int .i64 x1.w,.int .u64 x1.v,x51],undef,undef]) (chJ [(11,fun τ w=>Ext e3.w w),(12,fun τ w=>TJ (z2p s false x0 x1 m) N0 mb vf vs vp vc m W3 (τ 73) w)] (fun τ w=>y0o (z2p s false x0 x1 m) N0 mb vf vs vp vc m W3 (τ 74) w)) (fun ch wz=>∃c,z2p s false x0 x1 m=.error c∧ch=z2c c∧FrS mb W3 wz) (by kernel_rfl) (fun _ _ _ _ h=>h) (by kernel_rfl) (by kernel_rfl) ?_ (z6u _ ((y1g _).drew)) ?_ (fun A ch wz hd hp=>by
  obtain⟨c,hr,rfl,hx⟩:=hp;obtain⟨tA,dA⟩:=A;simp only at hd;subst hd;have HN:=Hd (show RunsP (z1m inst t s m) (ER W0 B N0 mb sb mp vf (z0i t) s w) (FrI N0 mb sb mp w) (.panicked (z2c c)) wz from .no (by rw[HD.o,hr];rfl) ((y1z X3.o).trans (.of_chg hx)));exact⟨rfl,HN.o⟩) ?_
 ·simp[GuardsMet]
 ·refine⟨?_,?_,?_,?_,?_,?_,?_,?_,?_,?_,?_,?_,?_,trivial⟩;rotate_left 11
  ·refine StepI.chain 0 rfl (by kernel_rfl) (by kernel_rfl) ?_;intro A wa hsz hj hd h0;replace hsz:=Hd hsz;have q1:=z0d hd 1 63 (by kernel_rfl) rfl;simp[eqS] at q1;have q2:=z0d hd 2 64 (by kernel_rfl) rfl;simp[eqS] at q2;have q6:=z0d hd 6 68 (by kernel_rfl) rfl;simp[eqS] at q6;have q10:=z0d hd 10 72 (by kernel_rfl) rfl;simp[eqS] at q10;clear hd h0;replace hj:Ext e3.w wa:=hj;have KA:=Hd (q6h W0 B N0 mb sb mp vf vs vp vc ve m s false x0 x1 _ _ wa (HST.o.ext (e3.ext.trans hj)) HX0.o HX1.o HT0.o HM1.o);have HJX:=Hd (e3.ext.trans hj);clear hj;go_simp;refine KA.o.mono ?_;rintro e wk (⟨r,u,hr,rfl,c,rfl,hrt,hmk,hfr,hcm⟩|⟨c,hr,rfl,hfr⟩);rotate_left
   ·exact⟨rfl,c,hr,rfl,HJX.o.chg.trans hfr⟩
   have HP:=Hd (show TJ (z2p s false x0 x1 m) N0 mb vf vs vp vc m W3 (.agg c.toArray) wk from⟨r,c,hr,rfl,hrt.imp (fun b _ hb=>y1k HJX.o.size hb),hmk,HJX.o.chg.trans hfr,hcm⟩);clear hr hrt hmk hfr hcm;go_simp;refine⟨_,rfl,trivial,?_⟩;show TJ (z2p s false x0 x1 m) N0 mb vf vs vp vc m W3 (tau (A.put (some 73) (.agg c.toArray)) 73) wk;rw[z2r (by rw[hsz.o];exact of_decide_eq_true (by kernel_rfl))];exact HP.o
  ·refine StepI.chain 1 rfl (by kernel_rfl) (by kernel_rfl) ?_;intro A wa hsz hj hd h0;replace hsz:=Hd hsz;clear hd h0;obtain⟨r,c,hr,hv,hrt,hmk,hfr,hcm⟩:=hj;obtain⟨z4,z5,rfl,h4,h5⟩:=RT9_iff.1 hrt;have oz4:=h4.oneCell;have oz5:=h5.oneCell;have r73:A.tmps.getD 73 undef=_:=hv;obtain⟨W8,hW8,hx8,hb8⟩:=z6v wa (.int .i64 r.1.op) (.int .i64 r.1.sig) (.int .i64 r.1.hi) (.int .i64 r.1.lo) z4 z5 73;have hV8:=hW8.symm;have HP:=Hd (show y0o (z2p s false x0 x1 m) N0 mb vf vs vp vc m W3 (.slice (some ⟨wa.heap.size,0,none⟩) 1 1) W8 from⟨r,hr,SlT9.one hb8 (y1k hfr.size (y1j _)) (RT9.ext hx8 hrt),hmk.ext hx8,hfr.trans hx8.chg,hcm⟩);simp only[Array.getD_eq_getD_getElem?] at r73;clear hv hrt hmk hfr hcm hW8 hx8 hb8 h4 h5 hr;go_simp;refine⟨_,rfl,trivial,?_⟩;show y0o (z2p s false x0 x1 m) N0 mb vf vs vp vc m W3 (tau (A.put (some 74) (.slice (some ⟨wa.heap.size,0,none⟩) 1 1)) 74) W8;rw[z2r (by rw[hsz.o];exact of_decide_eq_true (by kernel_rfl))];exact HP.o
  all_goals
   refine StepI.plain (S:=[11,12]) (T:=[73,74]) (I:=FrS mb e3.w) (z5k (T:=[73,74]) (fun τ τ' w hT hj=>?_) _ ⟨fun τ τ' w hT hj=>?_,fun τ τ' w hT hj=>?_,trivial⟩) (fun L τ w h=>q2b (I:=FrS mb e3.w) h (fun _ _ h=>by obtain⟨r,h1,h2,h3,h4,h5⟩:=h;rw[←HW3.o];exact h4) ⟨fun _ _ h=>h.chg,fun _ _ h=>by obtain⟨r,c,h1,h2,h3,h4,h5,h6⟩:=h;rw[←HW3.o];exact h5,trivial⟩) (by decide) (by decide) ?_
   ·try simp only[hT 73 (by decide),hT 74 (by decide)]
    exact hj
   ·try simp only[hT 73 (by decide),hT 74 (by decide)]
    exact hj
   ·try simp only[hT 73 (by decide),hT 74 (by decide)]
    exact hj
   intro A wa hI hd h0;try (have q3:=z0d hd 3 65 (by decide) rfl;simp[eqS] at q3)
   try (have q4:=z0d hd 4 66 (by decide) rfl;simp[eqS] at q4)
   try (have q5:=z0d hd 5 67 (by decide) rfl;simp[eqS] at q5)
   try (have q7:=z0d hd 7 69 (by decide) rfl;simp[eqS] at q7)
   try (have q8:=z0d hd 8 70 (by decide) rfl;simp[eqS] at q8)
   try (have q9:=z0d hd 9 71 (by decide) rfl;simp[eqS] at q9)
   have r3:=z0c h0 3 (by kernel_rfl);simp at r3;have r4:=z0c h0 4 (by kernel_rfl);simp at r4;have r5:=z0c h0 5 (by kernel_rfl);simp at r5;clear hd h0;have hxI:Ext W0 wa:=hI.ext (H3.o.cx.ext.trans e3.ext) (fun k hk=>(show k=mb from hk)▸HST.o.lo);obtain⟨d0,d1,d2,d3,d4,d5⟩:=(HC0.o.ext hxI).get6;obtain⟨q0',q1',q2',q3',q4',q5'⟩:=(HC1.o.ext hxI).get6;have i1:=(hI.blk (BM.o.ext e3.ext) (show¬w.heap.size=mb by omega)).cell 0;have i2:=(hI.blk (BS.o.ext e3.ext) (show¬W1.heap.size=mb by omega)).cell 0;have i3:=(hI.blk (BX.o.ext e3.ext) (show¬W2.heap.size=mb by omega)).cell 3;try simp only[List.getElem?_cons_succ,List.getElem?_cons_zero] at i1 i2 i3
   clear hI hxI;go_simp;first|exact⟨_,rfl,rfl,rfl⟩|exact⟨_,rfl,rfl⟩|exact⟨rfl,rfl⟩|exact rfl
 ·intro A wa hk;obtain⟨f,rfl,hdn,hrs,hj⟩:=hk.fin (n:=154) rfl;replace hj:(fun τ w=>y0o (z2p s false x0 x1 m) N0 mb vf vs vp vc m W3 (τ 74) w) f wa:=z9r _ rfl hj;have k62:f 62=.pointer (some ⟨mb,0,none⟩):=hdn 0 62 rfl rfl;clear hdn hrs;obtain⟨r1,hr2,hsl,hmk,hfr,hcm⟩:=hj;obtain⟨ya,yc,hu⟩:=hsl.form;have k74:f 74=.slice ya 1 yc:=hu;rw[k74] at hsl;clear hu;simp only[List.drop_succ_cons,List.drop_zero];simp[List.range,List.range.loop,k62,k74];clear k62 k74;have HFR:=Hd hfr;have HMK:=Hd hmk;have HCM:=Hd hcm;have HR2:=Hd hr2;have KP:=Hd (z5e N0 mb wa.heap.size wa.heap.size vf vs vp vc r1.2 false [r1.1] (.slice ya 1 yc) wa hmk (hsl.slT (fun y _=>RT9.rt6 y)) (by rw[hcm.d];exact hpr));clear hfr hmk hcm hr2 hsl;go_wp2_with fail
  go_at_call 107;refine KP.o.mono ?_;rintro e w6 (⟨r,u,hr,rfl,rfl,vs',vp',vc',hmk,hfr⟩|⟨c,hr,rfl,hfr⟩);rotate_left
  ·exact⟨rfl,.no (by rw[HD.o,HR2.o];simp only[bind,Except.bind];rw[hr]) (((y1z X3.o).trans (.of_chg HFR.o)).trans (hfr.wide (y1j _)))⟩
  have HI6:=Hd (H.o.process (X3.o.chg.trans HFR.o) HMK.o HCM.o hr hmk hfr);have HD6:=Hd (show z1m inst t s m=.ok (s,r) by rw[HD.o,HR2.o];simp only[bind,Except.bind];rw[hr];rfl);clear hmk hfr hr;go_wp2_with fail
  refine bodyPost_ret (v:=z1w) ?_ rfl (.ok HD6.o ⟨rfl,HI6.o.1,HI6.o.2,Nat.le_add_right _ _,rfl⟩);simp[results,results76,go_sem,z1w]
end Go.Proofs.YtlfmlodanoolhaaGreatDoor
