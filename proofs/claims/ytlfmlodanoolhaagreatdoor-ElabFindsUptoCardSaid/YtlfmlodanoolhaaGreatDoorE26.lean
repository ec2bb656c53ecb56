import Derived.Test.YtlfmlodanoolhaaGreatDoorE25
set_option linter.all false
set_option maxRecDepth 200000
set_option maxHeartbeats 32000000
namespace Go.Proofs.YtlfmlodanoolhaaGreatDoor
open Go Go.RowKit Go.Proofs.Tryz
attribute [local go_sem] z0f
theorem q9j(r:SRow)(hr0:shapeRows[4]? =some r)(nm of:ByteArray)(s3 s4 s5 s6 s7 s8:Option Addr)(c3' c4' c5' c6' c7' c8':Nat)(xl sl ll el pl bl:Nat)(hpb:pl+bl≤1000000000)
 (b1 b2 ba bs bL be bp bb:Bool) (W:World) (hT:Tabs W) (hbx:((xl:Int)==r.x)=false) (hbx2:¬(xl:Int)=r.x)
 (G1:ECalls Tryz.prog 174 #[.string nm,.bool r.name] W (.bool b1)) (G2:ECalls Tryz.prog 174 #[.string of,.bool r.of] W (.bool b2))
 (GX:ECalls Tryz.prog 173 #[.slice s3 xl c3',.func (.func 135) #[] #[]] W (.bool ba))
 (GS:ECalls Tryz.prog 176 #[.slice s4 sl c4',.func (.func 177) #[] #[]] W (.bool bs))
 (GL:ECalls Tryz.prog 139 #[.slice s5 ll c5',.func (.func 140) #[] #[]] W (.bool bL))
 (GE:ECalls Tryz.prog 139 #[.slice s6 el c6',.func (.func 140) #[] #[]] W (.bool be))
 (GP:ECalls Tryz.prog 136 #[.slice s7 pl c7',.func (.func 137) #[] #[]] W (.bool bp))
 (GB:ECalls Tryz.prog 136 #[.slice s8 bl c8',.func (.func 137) #[] #[]] W (.bool bb)):
 Calls Tryz.prog 140 #[.agg #[.int .i64 4,.string nm,.string of,.slice s3 xl c3',.slice s4 sl c4',.slice s5 ll c5',.slice s6 el c6',.slice s7 pl c7',.slice s8 bl c8']] W
  fun e w'=>e=.returned (.bool (z9o b1 b2 xl r (decide (0<sl)) (decide (0<ll)) (decide (0<el)) (decide ((0:Int)<(pl:Int)+bl)) ba bs bL be bp bb))∧Ext W w':=by
 obtain⟨rn,ro,rx,rs,rl,re,rb⟩:=r;obtain⟨cS,hcS⟩:∃c,decide (0<sl)=c:=⟨_,rfl⟩;obtain⟨cL,hcL⟩:∃c,decide (0<ll)=c:=⟨_,rfl⟩;obtain⟨cE,hcE⟩:∃c,decide (0<el)=c:=⟨_,rfl⟩;obtain⟨cB,hcB⟩:∃c,decide ((0:Int)<(pl:Int)+bl)=c:=⟨_,rfl⟩;have hcS':decide ((0:Int)<(sl:Int))=cS:=by rw[←hcS];simp
 have hcL':decide ((0:Int)<(ll:Int))=cL:=by rw[←hcL];simp
 have hcE':decide ((0:Int)<(el:Int))=cE:=by rw[←hcE];simp
 obtain⟨res,hres⟩:∃res,res=z9o b1 b2 xl ⟨rn,ro,rx,rs,rl,re,rb⟩ cS cL cE cB ba bs bL be bp bb:=⟨_,rfl⟩;rw[hcS,hcL,hcE,hcB,←hres];have R:=Hd hres;clear hres;obtain⟨t0,t1,t2,t3,t4,t5,t6⟩:=Cells.later7 (hT.shapes 4 _ hr0);have hk:=Hd hr0;clear hr0 hT;obtain⟨W1,e1,hV1,hx1,hs1,c0,c1,c2,c3,c4,c5,c6,c7,c8⟩:=k1m W (.int .i64 4) (.string nm) (.string of) (.slice s3 xl c3') (.slice s4 sl c4') (.slice s5 ll c5') (.slice s6 el c6') (.slice s7 pl c7') (.slice s8 bl c8') 37;have t0:∀e:Later W1,e.w.cell? ⟨0,28,none⟩=some (.bool rn):=z0k t0 hx1;have t1:∀e:Later W1,e.w.cell? ⟨0,29,none⟩=some (.bool ro):=z0k t1 hx1;have t2:∀e:Later W1,e.w.cell? ⟨0,30,none⟩=some (.int .i64 rx):=z0k t2 hx1;have t3:∀e:Later W1,e.w.cell? ⟨0,31,none⟩=some (.bool rs):=z0k t3 hx1;have t4:∀e:Later W1,e.w.cell? ⟨0,32,none⟩=some (.bool rl):=z0k t4 hx1;have t5:∀e:Later W1,e.w.cell? ⟨0,33,none⟩=some (.bool re):=z0k t5 hx1;have t6:∀e:Later W1,e.w.cell? ⟨0,34,none⟩=some (.bool rb):=z0k t6 hx1;obtain⟨W2,e2,hV2,hx2,hs2,d0,d1,d2,d3,d4,d5,d6⟩:=k5a e1.w (.bool rn) (.bool ro) (.int .i64 rx) (.bool rs) (.bool rl) (.bool re) (.bool rb) 221;have hx12:=e1.ext.trans hx2;have c0':=z0k c0 hx12;have c1':=z0k c1 hx12;have c2':=z0k c2 hx12;have i3:=z0k c3 hx12;have i4:=z0k c4 hx12;have i5:=z0k c5 hx12;have i6:=z0k c6 hx12;have i7:=z0k c7 hx12;have i8:=z0k c8 hx12;have hx02:=hx1.trans hx12;have G1:=Hd (G1.later hx02);have G2:=Hd (G2.later hx02);have GX:=Hd (GX.later hx02);have GS:=Hd (GS.later hx02);have GL:=Hd (GL.later hx02);have GE:=Hd (GE.later hx02);have GP:=Hd (GP.later hx02);have GB:=Hd (GB.later hx02)
 rename_i g1 g2 gX gS gL gE gP gB
 clear g1 g2 gX gS gL gE gP gB hx1 hx2 hx12 hs1 hs2 c1 c2 c3 c4 c5 c6 c7 c8;go_enter func140,ntmps140
 go_wp2_with (first
  |(go_at_call 174;with_reducible refine(G1.o.at_ _).mono ?_;rintro _ _ ⟨rfl,e,rfl⟩)
  |(go_at_call 174;with_reducible refine(G2.o.at_ _).mono ?_;rintro _ _ ⟨rfl,e,rfl⟩)
  |(go_at_call 173;with_reducible refine(GX.o.at_ _).mono ?_;rintro _ _ ⟨rfl,e,rfl⟩)
  |(go_at_call 176;with_reducible refine(GS.o.at_ _).mono ?_;rintro _ _ ⟨rfl,e,rfl⟩)
  |(go_at_call 139;with_reducible refine(GL.o.at_ _).mono ?_;rintro _ _ ⟨rfl,e,rfl⟩)
  |(go_at_call 139;with_reducible refine(GE.o.at_ _).mono ?_;rintro _ _ ⟨rfl,e,rfl⟩)
  |(go_at_call 136;with_reducible refine(GP.o.at_ _).mono ?_;rintro _ _ ⟨rfl,e,rfl⟩)
  |(go_at_call 136;with_reducible refine(GB.o.at_ _).mono ?_;rintro _ _ ⟨rfl,e,rfl⟩))
 all_goals
  go_ret;refine⟨?_,hx02.trans (y1i _)⟩;rw[R.o];refine congrArg (fun b=>Ending.returned (Value.bool b)) ?_;clear hcS hcL hcE hcB hcS' hcL' hcE';clear R G1 G2 GX GS GL GE GP GB c0 c0' c1' c2' d0 d1 d2 d3 d4 d5 d6 i3 i4 i5 i6 i7 i8 hV1 hV2 hk t0 t1 t2 t3 t4 t5 t6 hx02;unfold z9o
  simp_all
  try omega
theorem j9q{x:Itm}{r:SRow}(hown:k2y x↔z8d r x)(h4:x.op≠4)(ba bs bL be bp bb:Bool)(h1:ba=yes (∀y,y∈x.x→MayX y))(h2:bs=yes (∀y,y∈x.s→MayS y))(h3:bL=yes (∀y,y∈x.l→MayI y))(h4':be=yes (∀y,y∈x.els→MayI y))
 (h5:bp=yes (∀y,y∈x.params→q3g y)) (h6:bb=yes (∀y,y∈x.binds→q3g y)):
 z9o (yes (z7k (r.name=true) x.name)) (yes (z7k (r.of=true) x.of)) x.x.length r (decide (0<x.s.length)) (decide (0<x.l.length)) (decide (0<x.els.length)) (decide ((0:Int)<(x.params.length:Int)+x.binds.length)) ba bs bL be bp bb=yes (MayI x):=by
 subst h1 h2 h3 h4' h5 h6;rw[z1h MayI_iff,z1h (show k2y x∧_↔z8d r x∧_ from⟨fun h=>⟨hown.1 h.1,h.2⟩,fun h=>⟨hown.2 h.1,h.2⟩⟩)];rw[Bool.eq_iff_iff];unfold z9o z8d q4x z6z;simp only[Bool.and_eq_true,yes_iff,Bool.or_eq_true,beq_iff_eq,Bool.not_eq_true',decide_eq_false_iff_not];generalize z7k (r.name=true) x.name=F1;generalize z7k (r.of=true) x.of=F2;generalize (∀y,y∈x.x→MayX y)=P1;generalize (∀y,y∈x.s→MayS y)=P2;generalize (∀y,y∈x.l→MayI y)=P3;generalize (∀y,y∈x.els→MayI y)=P4;generalize (∀y,y∈x.params→q3g y)=P5;generalize (∀y,y∈x.binds→q3g y)=P6;constructor
 ·rintro⟨a1,a2,a3,a4,a5,a6,a7,a8,a9,a10,a11,a12,a13⟩;exact⟨⟨a1,a2,a3,fun h=>(h4 h).elim,z3e a4 (fun h=>by omega),z3e a5 (fun h=>by omega),z3e a6 (fun h=>by omega),z3e a7 (fun h=>by omega)⟩,a8,a9,a10,a11,a12,a13⟩
 ·rintro⟨⟨a1,a2,a3,-,a4,a5,a6,a7⟩,a8,a9,a10,a11,a12,a13⟩;exact⟨a1,a2,a3,z3e a4 (fun h=>by omega),z3e a5 (fun h=>by omega),z3e a6 (fun h=>by omega),z3e a7 (fun h=>by omega),a8,a9,a10,a11,a12,a13⟩
theorem j5u{x:Itm}{r:SRow}(hown:k2y x↔z8d r x)(h4:x.op=4)(bt ba bs bL be bp bb:Bool)(ht:bt=yes (z3y x.x))(h1:ba=yes (∀y,y∈x.x→MayX y))(h2:bs=yes (∀y,y∈x.s→MayS y))(h3:bL=yes (∀y,y∈x.l→MayI y))(h4':be=yes (∀y,y∈x.els→MayI y))
 (h5:bp=yes (∀y,y∈x.params→q3g y)) (h6:bb=yes (∀y,y∈x.binds→q3g y)):
 z9o (yes (z7k (r.name=true) x.name)) (yes (z7k (r.of=true) x.of)) x.x.length r (decide (0<x.s.length)) (decide (0<x.l.length)) (decide (0<x.els.length)) (decide ((0:Int)<(x.params.length:Int)+x.binds.length)) (bt && ba) bs bL be bp bb=yes (MayI x):=by
 subst h1 h2 h3 h4' h5 h6 ht;rw[z1h MayI_iff,z1h (show k2y x∧_↔z8d r x∧_ from⟨fun h=>⟨hown.1 h.1,h.2⟩,fun h=>⟨hown.2 h.1,h.2⟩⟩)];rw[Bool.eq_iff_iff];unfold z9o z8d q4x z6z;simp only[Bool.and_eq_true,yes_iff,Bool.or_eq_true,beq_iff_eq,Bool.not_eq_true',decide_eq_false_iff_not];generalize z7k (r.name=true) x.name=F1;generalize z7k (r.of=true) x.of=F2;generalize (∀y,y∈x.x→MayX y)=P1;generalize (∀y,y∈x.s→MayS y)=P2;generalize (∀y,y∈x.l→MayI y)=P3;generalize (∀y,y∈x.els→MayI y)=P4;generalize (∀y,y∈x.params→q3g y)=P5;generalize (∀y,y∈x.binds→q3g y)=P6;constructor
 ·rintro⟨a1,a2,a3,a4,a5,a6,a7,⟨at',a8⟩,a9,a10,a11,a12,a13⟩;exact⟨⟨a1,a2,a3,fun _=>at',z3e a4 (fun h=>by omega),z3e a5 (fun h=>by omega),z3e a6 (fun h=>by omega),z3e a7 (fun h=>by omega)⟩,a8,a9,a10,a11,a12,a13⟩
 ·rintro⟨⟨a1,a2,a3,at',a4,a5,a6,a7⟩,a8,a9,a10,a11,a12,a13⟩;exact⟨a1,a2,a3,z3e a4 (fun h=>by omega),z3e a5 (fun h=>by omega),z3e a6 (fun h=>by omega),z3e a7 (fun h=>by omega),⟨at' h4,a8⟩,a9,a10,a11,a12,a13⟩
theorem j9r{b1 b2:Bool}{xl:Nat}{r:SRow}{cS cL cE cB ba bs bL be bp bb:Bool}(h:¬(xl:Int)=r.x):z9o b1 b2 xl r cS cL cE cB ba bs bL be bp bb=false:=by
 unfold z9o;rw[beq_eq_false_iff_ne.2 h];simp
theorem k0i(B:Nat)(x:Itm):VI x→z0i x≤65536→k1x B x:=by
 induction x using Itm.ind with
 |h x ih1 ih2=>
 intro hv hsz w cs hT hR hB;obtain⟨v3,v4,v5,v6,v7,v8,rfl,h3,h4,h5,h6,h7,h8⟩:=RI_iff.1 hR;obtain⟨vn,vo,vx,vs,vl,ve,vp,vb⟩:=VI_iff.1 hv;have hs0:=z0r x;by_cases hop:x.op<1∨10<x.op
 ·rw[yes_no.2 (fun h:MayI x=>k2x hop (MayI_iff.1 h).1)];exact k0h _ hop _ _ _ _ _ _ _ _ rfl rfl h3.oneCell h4.oneCell h5.oneCell h6.oneCell h7.oneCell h8.oneCell w
 ·obtain⟨k,hk⟩:∃k:Nat,x.op=k:=⟨x.op.toNat,by omega⟩;obtain⟨r,hr⟩:∃r,shapeRows[k]? =some r:=⟨shapeRows[k]'(show k<11 by omega),y1o _⟩;have hown:=k2w (x:=x) k r hr (by omega) (by omega) hk;have G1:ECalls Tryz.prog 174 #[.string x.name,.bool r.name] w (.bool (yes (z7k (r.name=true) x.name))):=fun w' hw=>j3x _ _ w' (hT.ext hw) vn
  have G2:ECalls Tryz.prog 174 #[.string x.of,.bool r.of] w (.bool (yes (z7k (r.of=true) x.of))):=fun w' hw=>j3x _ _ w' (hT.ext hw) vo
  have GX:ECalls Tryz.prog 173 #[v3,.func (.func 135) #[] #[]] w (.bool (yes (∀y,y∈x.x→MayX y))):=
   fun w' hw=>z4n B x.x (by omega) vx w' v3 (hT.ext hw) (h3.extRX hw hB) (y1k hB hw.size)
  have GS:ECalls Tryz.prog 176 #[v4,.func (.func 177) #[] #[]] w (.bool (yes (∀y,y∈x.s→MayS y))):=
   fun w' hw=>k0b B x.s (by omega) vs w' v4 (hT.ext hw) (h4.extRS hw hB) (y1k hB hw.size)
  have GL:ECalls Tryz.prog 139 #[v5,.func (.func 140) #[] #[]] w (.bool (yes (∀y,y∈x.l→MayI y))):=
   fun w' hw=>q4l B x.l (fun y hy=>ih1 y hy (vl y hy) (by have:=z0g z0i x.l y hy;omega)) (by have:=z0b z0i x.l z1i;omega) w' v5 (hT.ext hw) (h5.extRI hw hB) (y1k hB hw.size)
  have GE:ECalls Tryz.prog 139 #[v6,.func (.func 140) #[] #[]] w (.bool (yes (∀y,y∈x.els→MayI y))):=
   fun w' hw=>q4l B x.els (fun y hy=>ih2 y hy (ve y hy) (by have:=z0g z0i x.els y hy;omega)) (by have:=z0b z0i x.els z1i;omega) w' v6 (hT.ext hw) (h6.extRI hw hB) (y1k hB hw.size)
  have GP:ECalls Tryz.prog 136 #[v7,.func (.func 137) #[] #[]] w (.bool (yes (∀y,y∈x.params→q3g y))):=
   fun w' hw=>q4m B x.params (by omega) vp w' v7 (hT.ext hw) (h7.extRB hw hB) (y1k hB hw.size)
  have GB:ECalls Tryz.prog 136 #[v8,.func (.func 137) #[] #[]] w (.bool (yes (∀y,y∈x.binds→q3g y))):=
   fun w' hw=>q4m B x.binds (by omega) vb w' v8 (hT.ext hw) (h8.extRB hw hB) (y1k hB hw.size)
  have hpl:=z0b z1c x.params z1z;have hbl:=z0b z1c x.binds z1z;have hxl:=z0b z0l x.x z1n;obtain⟨s3,c3,rfl,-,hrow⟩:=h3;obtain⟨s4,c4,rfl,-,-⟩:=h4;obtain⟨s5,c5,rfl,-,-⟩:=h5;obtain⟨s6,c6,rfl,-,-⟩:=h6;obtain⟨s7,c7,rfl,-,-⟩:=h7;obtain⟨s8,c8,rfl,-,-⟩:=h8;by_cases hk4:k=4
  ·subst hk4;by_cases hx:(x.x.length:Int)=r.x
   ·have hlt:0<x.x.length:=by
     simp only[shapeRows,List.getElem?_cons_succ,List.getElem?_cons_zero,Option.some.injEq] at hr;subst hr;simp only at hx;omega
    obtain⟨b,o,y0,y1,y2,y3,y4,y5,rfl,hbB,hRy,hC,o0,o1,o2,o3,o4,o5⟩:=hrow.open6 hlt;obtain⟨a5,hEq,hS5⟩:=RX_iff.1 hRy;cases hEq;simp only[Nat.zero_mul,Nat.add_zero] at hC;rw[←j5u hown hk (yes (z3y x.x)) _ _ _ _ _ _ rfl rfl rfl rfl rfl rfl rfl,hk]
    exact j1v r hr x.name x.of _ s4 s5 s6 s7 s8 c3 c4 c5 c6 c7 c8 x.x.length x.s.length x.l.length x.els.length x.params.length x.binds.length (by omega) _ _ _ _ _ _ _ _ _ w hT (beq_iff_eq.2 hx) (by omega) b o rfl _ _ _ _ _ _ o0 o1 o2 o3 o4 o5
     (fun e=>hC.ext e.ext) (fun w' hw=>by rw[z1h (z8k hlt)];exact q1d _ _ _ _ _ _ o1 o2 o3 o4 o5 w') G1 G2 GX GS GL GE GP GB
   ·rw[show yes (MayI x)=false from yes_no.2 (fun h=>hx (hown.1 (MayI_iff.1 h).1).2.2.1),hk];rw[←j9r (b1:=yes (z7k (r.name=true) x.name)) (b2:=yes (z7k (r.of=true) x.of)) (cS:=decide (0<x.s.length)) (cL:=decide (0<x.l.length)) (cE:=decide (0<x.els.length)) (cB:=decide ((0:Int)<(x.params.length:Int)+x.binds.length)) (ba:=yes (∀y,y∈x.x→MayX y)) (bs:=yes (∀y,y∈x.s→MayS y)) (bL:=yes (∀y,y∈x.l→MayI y)) (be:=yes (∀y,y∈x.els→MayI y)) (bp:=yes (∀y,y∈x.params→q3g y)) (bb:=yes (∀y,y∈x.binds→q3g y)) hx];exact q9j r hr x.name x.of s3 s4 s5 s6 s7 s8 c3 c4 c5 c6 c7 c8 x.x.length x.s.length x.l.length x.els.length x.params.length x.binds.length (by omega) _ _ _ _ _ _ _ _ w hT (beq_eq_false_iff_ne.2 hx) hx G1 G2 GX GS GL GE GP GB
  ·rw[←j9q hown (by omega) _ _ _ _ _ _ rfl rfl rfl rfl rfl rfl,hk];exact j6b k r hr (by omega) (by omega) hk4 x.name x.of s3 s4 s5 s6 s7 s8 c3 c4 c5 c6 c7 c8 x.x.length x.s.length x.l.length x.els.length x.params.length x.binds.length (by omega) _ _ _ _ _ _ _ _ w hT G1 G2 GX GS GL GE GP GB
theorem k0g(B:Nat)(x:Mdl)(w:World)(cs:List Value)(hT:Tabs w)(hR:RM w B x cs)(hB:B≤w.heap.size)(hsz:z0x x≤65536)(hv:VM x):
 Calls Tryz.prog 91 #[.agg cs.toArray] w fun e w'=>e=.returned (.bool (yes (j2j x)))∧Ext w w':=by
 obtain⟨v1,v2,v3,rfl,h1,h2,h3⟩:=hR;obtain⟨vn,vp,vq,vi⟩:=hv;have hs0:z0x x=1+z0e z1c x.params+z0e z3k x.ports+z0e z0i x.items:=by unfold z0x;omega
 have o1:=h1.oneCell;have o2:=h2.oneCell;have o3:=h3.oneCell;obtain⟨W1,e1,hV1,hx1,hs1,c0,c1,c2,c3⟩:=q2c w (.string x.name) v1 v2 v3 30;have hB1:B≤W1.heap.size:=y1k hB hx1.size
 have G1:=Hd (show ECalls Tryz.prog 134 #[.string x.name] W1 (.bool (yes (z2y x.name))) from
  fun w' hw=>by rw[z7v];exact z3x x.name w' ((hT.ext (hx1.trans hw)).lib) vn)
 have GP:=Hd (show ECalls Tryz.prog 136 #[v1,.func (.func 137) #[] #[]] W1 (.bool (yes (∀y,y∈x.params→q3g y))) from
  fun w' hw=>q4m B x.params (by omega) vp w' v1 (hT.ext (hx1.trans hw)) (h1.extRB (hx1.trans hw) hB) (y1k hB1 hw.size))
 have GQ:=Hd (show ECalls Tryz.prog 138 #[v2,.func (.func 133) #[] #[]] W1 (.bool (yes (∀y,y∈x.ports→k6a y))) from
  fun w' hw=>k0d B x.ports (by omega) vq w' v2 (hT.ext (hx1.trans hw)) (h2.extRP (hx1.trans hw) hB) (y1k hB1 hw.size))
 have GI:=Hd (show ECalls Tryz.prog 139 #[v3,.func (.func 140) #[] #[]] W1 (.bool (yes (∀y,y∈x.items→MayI y))) from
  fun w' hw=>q4l B x.items (fun y hy=>k0i B y (vi y hy) (by have:=z0g z0i x.items y hy;omega)) (by have:=z0b z0i x.items z1i;omega) w' v3 (hT.ext (hx1.trans hw)) (h3.extRI (hx1.trans hw) hB) (y1k hB1 hw.size))
 obtain⟨res,hres⟩:∃res,res=yes (j2j x):=⟨_,rfl⟩;rw[←hres];unfold j2j at hres;rw[q1a,q1a,q1a] at hres;have R:=Hd hres;clear hT hsz hs0 hres h1 h2 h3 vp vq vi;generalize yes (z2y x.name)=b1 at*;generalize yes (∀y,y∈x.params→q3g y)=b2 at*;generalize yes (∀y,y∈x.ports→k6a y)=b3 at*;generalize yes (∀y,y∈x.items→MayI y)=b4 at*;go_enter func91,ntmps91
 go_wp2_with (first
  |(go_at_call 134;refine(G1.o.at_ _).mono ?_;rintro _ _ ⟨rfl,e,rfl⟩)
  |(go_at_call 136;refine(GP.o.at_ _).mono ?_;rintro _ _ ⟨rfl,e,rfl⟩)
  |(go_at_call 138;refine(GQ.o.at_ _).mono ?_;rintro _ _ ⟨rfl,e,rfl⟩)
  |(go_at_call 139;refine(GI.o.at_ _).mono ?_;rintro _ _ ⟨rfl,e,rfl⟩))
 all_goals
  go_ret;refine⟨?_,hx1.trans (y1i _)⟩;rw[R.o];refine congrArg (fun b=>Ending.returned (Value.bool b)) ?_;clear R G1 GP GQ GI c0 c1 c2 c3 hV1 hx1
  simp_all
theorem j2p(f:Nat)(hcall:Enters Tryz.prog f)(c:Value)(n d:Nat)(b:Bool)(w:World)(hn:n≤1000000000)(hd:d≤1000000000)
 (hf:n≤65536→d≤64→∀w',Ext w w'→Calls Tryz.prog f #[c] w' fun e w''=>e=.returned (.bool b)∧Ext w' w''):
 Calls Tryz.prog 86 #[z2f n d,.func (.func f) #[] #[c]] w fun e w'=>e=.returned (.int .i64 (z4e n d b))∧Ext w w':=by
 unfold z2f;have hcf:=hcall.o;obtain⟨res,hres⟩:∃res,res=z4e n d b:=⟨_,rfl⟩;rw[←hres];unfold z4e at hres;obtain⟨W1,e1,hV1,hx1,hs1,c0,c1⟩:=y1c w (.int .i64 n) (.int .i64 d) 141;by_cases h1:65536<n
 ·rw[if_pos (.inl h1)] at hres;subst hres;have h1':(65536:Int)<n:=by omega
  clear h1;go_enter func86,ntmps86;go_wp2_with fail
  go_ret;exact⟨rfl,hx1.trans (y1i _)⟩
 ·have h1':¬(65536:Int)<n:=by omega
  by_cases h2:64<d
  ·rw[if_pos (.inr h2)] at hres;subst hres;have h2':(64:Int)<d:=by omega
   clear h1 h2;go_enter func86,ntmps86;go_wp2_with fail
   go_ret;exact⟨rfl,hx1.trans (y1i _)⟩
  ·have h2':¬(64:Int)<d:=by omega
   rw[if_neg (by omega)] at hres;have G:=Hd (show ECalls Tryz.prog f #[c] W1 (.bool b) from fun w' hw=>hf (by omega) (by omega) w' (hx1.trans hw));clear h1 h2 hf;cases b
   all_goals
    simp only[if_true,Bool.false_eq_true,if_false] at hres;subst hres;go_enter func86,ntmps86;go_wp2_with fail
    refine(G.o.at_ _).mono ?_;rintro _ _ ⟨rfl,e,rfl⟩;go_wp2_with fail
    go_ret;exact⟨rfl,hx1.trans (y1i _)⟩
theorem q7e:Enters Tryz.prog 179:=⟨fun _ _=>by kernel_rfl⟩
theorem q7f:Enters Tryz.prog 89:=⟨fun _ _=>by kernel_rfl⟩
theorem q6j(B:Nat)(x:X)(w:World)(cs:List Value)(hT:Tabs w)(hR:RX w B x cs)(hB:B≤w.heap.size)(hsz:z0l x≤1000000000)(hvx:VX x):
 Calls Tryz.prog 145 #[.agg cs.toArray] w fun e w'=>e=.returned (.int .i64 (z4e (z0l x) (z2o x) (yes (MayX x))))∧Ext w w':=by
 have HR:=Hd hR;obtain⟨a5,rfl,hS⟩:=RX_iff.1 hR;have o5:=hS.oneCell;have hdl:=z8y x;obtain⟨W1,e1,hV1,hx1,hs1,c0,c1,c2,c3,c4,c5⟩:=z6b w (.int .i64 x.op) (.string x.name) (.int .i64 x.n) (.int .i64 x.w) (.int .u64 x.v) a5 40;have hB1:B≤W1.heap.size:=y1k hB hx1.size
 have G1:=Hd (show ECalls Tryz.prog 167 #[.agg #[.int .i64 x.op,.string x.name,.int .i64 x.n,.int .i64 x.w,.int .u64 x.v,a5]] W1 (z2f (z0l x) (z2o x)) from
  fun w' hw=>q3y B x w' _ (HR.o.ext (hx1.trans hw) hB) (y1k hB1 hw.size) hsz)
 have GC:=Hd (fun(hn:z0l x≤65536)=>show ECalls Tryz.prog 135 #[.agg #[.int .i64 x.op,.string x.name,.int .i64 x.n,.int .i64 x.w,.int .u64 x.v,a5]] W1 (.bool (yes (MayX x))) from
  fun w' hw=>q0l B x w' _ (hT.ext (hx1.trans hw)) (HR.o.ext (hx1.trans hw) hB) (y1k hB1 hw.size) hn hvx)
 have G2:=Hd (show ECalls Tryz.prog 86 #[z2f (z0l x) (z2o x),.func (.func 179) #[] #[.pointer (some ⟨w.heap.size,0,none⟩)]] W1 (.int .i64 (z4e (z0l x) (z2o x) (yes (MayX x)))) from
  fun w' hw=>j2p _ q7e _ _ _ _ w' hsz (by omega) fun hn _ w2 hw2=>by
   have GG:=Hd (GC.o hn);obtain⟨e2,he2⟩:=y1h (hw.trans hw2);generalize yes (MayX x)=bb at*;suffices h:Calls Tryz.prog 179 #[.pointer (some ⟨w.heap.size,0,none⟩)] e2.w fun e w'=>e=.returned (.bool bb)∧Ext e2.w w' by rw[he2];exact h
   have hE:=Hd (y1g e2.w);obtain⟨W3,hW3⟩:∃W3,W3=e2.w:=⟨_,rfl⟩;have hx3:Ext W1 W3:=by rw[hW3];exact e2.ext
   have GG:=Hd (GG.o.later hx3);have c0:=z0k c0 hx3;have c1:=z0k c1 hx3;have c2:=z0k c2 hx3;have c3:=z0k c3 hx3;have c4:=z0k c4 hx3;have c5:=z0k c5 hx3;rw[←hW3];obtain⟨e4,he4⟩:=y1h (y1g W3);suffices h:Calls Tryz.prog 179 #[.pointer (some ⟨w.heap.size,0,none⟩)] e4.w fun e w'=>e=.returned (.bool bb)∧Ext W3 w' by rw[←he4] at h;exact h
   clear hW3 he4 he2 hE hV1 G1;generalize w.heap.size=g at*;go_enter func179,ntmps179;go_wp2_with (go_at_call 135;refine(GG.o.at_ _).mono ?_;rintro _ _ ⟨rfl,e,rfl⟩)
   go_ret;exact⟨rfl,y1i _⟩)
 obtain⟨r,hr⟩:∃r,r=z4e (z0l x) (z2o x) (yes (MayX x)):=⟨_,rfl⟩;rw[←hr] at G2⊢;clear hR hS hvx hr GC HR hT;generalize z0l x=s1 at*;generalize z2o x=s2 at*;obtain⟨mm,hmm⟩:∃mm,mm=z2f s1 s2:=⟨_,rfl⟩;rw[←hmm] at G1 G2;clear hmm;go_enter func145,ntmps145
 go_wp2_with (first
  |(go_at_call 167;refine(G1.o.at_ _).mono ?_;rintro _ _ ⟨rfl,e,rfl⟩)
  |(go_at_call 86;refine(G2.o.at_ _).mono ?_;rintro _ _ ⟨rfl,e,rfl⟩))
 go_ret;exact⟨rfl,hx1.trans (y1i _)⟩
noncomputable def z6t(l:List Mdl):Int:=if 64<l.length then 2 else z4e (z0e z0x l) (z0j q1z l) (yes (∀m,m∈l→j2j m))
theorem k1z(B:Nat)(l:List Mdl)(w:World)(v:Value)(hT:Tabs w)(hS:Sl (RM w B) w B 4 l v)(hB:B≤w.heap.size)(hsz:z0e z0x l≤1000000000)(hvx:∀m,m∈l→VM m):
 Calls Tryz.prog 59 #[.agg #[v]] w fun e w'=>e=.returned (.int .i64 (z6t l))∧Ext w w':=by
 have HS:=Hd hS;have hov:=hS.oneCell;have hdl:=k1f l;have hln:=z0b z0x l z9z;obtain⟨W1,e1,hV1,hx1,hs1,c0⟩:=k5b w v 24;have hB1:B≤W1.heap.size:=y1k hB hx1.size
 have G1:=Hd (show ECalls Tryz.prog 87 #[v,.func (.func 88) #[] #[]] W1 (z2f (z0e z0x l) (z0j q1z l)) from
  fun w' hw=>j4v _ j6f z0x q1z B l (fun y hy w3 cs h1 h2=>k6w B y w3 cs h1 h2 (by have:=z0g z0x l y hy;omega)) w' v (HS.o.extRM (hx1.trans hw) hB) (y1k hB1 hw.size) hsz z9z)
 have GC:=Hd (fun(hn:z0e z0x l≤65536)=>show ECalls Tryz.prog 90 #[v,.func (.func 91) #[] #[]] W1 (.bool (yes (∀m,m∈l→j2j m))) from
  fun w' hw=>j6o _ q9u j2j B l w' (fun y hy w3 cs hx h1 h2=>k0g B y w3 cs (hT.ext ((hx1.trans hw).trans hx)) h1 h2 (by have:=z0g z0x l y hy;omega) (hvx y hy)) v (HS.o.extRM (hx1.trans hw) hB) (y1k hB1 hw.size) (by omega))
 have G2:=Hd (show ECalls Tryz.prog 86 #[z2f (z0e z0x l) (z0j q1z l),.func (.func 89) #[] #[.pointer (some ⟨w.heap.size,0,none⟩)]] W1 (.int .i64 (z4e (z0e z0x l) (z0j q1z l) (yes (∀m,m∈l→j2j m)))) from
  fun w' hw=>j2p _ q7f _ _ _ _ w' hsz (by omega) fun hn _ w2 hw2=>by
   have GG:=Hd (GC.o hn);obtain⟨W3,hW3⟩:∃W3,W3=w2:=⟨_,rfl⟩;have hx3:Ext W1 W3:=by rw[hW3];exact hw.trans hw2
   have GG:=Hd (GG.o.later hx3);have c0:=z0k c0 hx3;rw[←hW3];obtain⟨e4,he4⟩:=y1h (y1g W3);generalize yes (∀m,m∈l→j2j m)=bb at*;suffices h:Calls Tryz.prog 89 #[.pointer (some ⟨w.heap.size,0,none⟩)] e4.w fun e w'=>e=.returned (.bool bb)∧Ext W3 w' by rw[←he4] at h;exact h
   clear hW3 he4 hV1 G1;generalize w.heap.size=g at*;go_enter func89,ntmps89;go_wp2_with (go_at_call 90;refine(GG.o.at_ _).mono ?_;rintro _ _ ⟨rfl,e,rfl⟩)
   go_ret;exact⟨rfl,y1i _⟩)
 obtain⟨sa,cap,rfl,-,-⟩:=hS;unfold z6t;by_cases h64:64<l.length
 ·rw[if_pos h64];have h64':(64:Int)<l.length:=by omega
  clear hvx GC HS hT G1 G2 h64;go_enter func59,ntmps59;go_wp2_with fail
  go_ret;exact⟨rfl,hx1.trans (y1i _)⟩
 ·rw[if_neg h64];have h64':¬(64:Int)<l.length:=by omega
  obtain⟨r,hr⟩:∃r,r=z4e (z0e z0x l) (z0j q1z l) (yes (∀m,m∈l→j2j m)):=⟨_,rfl⟩;rw[←hr] at G2⊢;clear hvx hr GC HS hT h64;generalize z0e z0x l=s1 at*;generalize z0j q1z l=s2 at*;obtain⟨mm,hmm⟩:∃mm,mm=z2f s1 s2:=⟨_,rfl⟩;rw[←hmm] at G1 G2;clear hmm;go_enter func59,ntmps59
  go_wp2_with (first
   |(go_at_call 87;refine(G1.o.at_ _).mono ?_;rintro _ _ ⟨rfl,e,rfl⟩)
   |(go_at_call 86;refine(G2.o.at_ _).mono ?_;rintro _ _ ⟨rfl,e,rfl⟩))
  go_ret;exact⟨rfl,hx1.trans (y1i _)⟩
end Go.Proofs.YtlfmlodanoolhaaGreatDoor
