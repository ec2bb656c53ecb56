import Derived.Test.YtlfmlodanoolhaaGreatDoorE23
set_option linter.all false
set_option maxRecDepth 200000
set_option maxHeartbeats 32000000
namespace Go.Proofs.YtlfmlodanoolhaaGreatDoor
open Go Go.RowKit Go.Proofs.Tryz
attribute [local go_sem] z0f
def z8d(r:SRow)(x:Itm):Prop:=z7k (r.name=true) x.name∧z7k (r.of=true) x.of∧(x.x.length:Int)=r.x∧(x.op=4→z3y x.x)∧
 (r.s=true∨x.s.length=0)∧(r.l=true∨x.l.length=0)∧(r.els=true∨x.els.length=0)∧(r.bind=true∨x.params.length=0∧x.binds.length=0)
theorem k2w{x:Itm}(k:Nat)(r:SRow)(hr:shapeRows[k]? =some r)(hk1:1≤k)(hk2:k≤10)(hop:x.op=k):k2y x↔z8d r x:=by
 unfold k2y z8d k1g;rw[hop];have hc:k=1∨k=2∨k=3∨k=4∨k=5∨k=6∨k=7∨k=8∨k=9∨k=10:=by omega
 rcases hc with rfl|rfl|rfl|rfl|rfl|rfl|rfl|rfl|rfl|rfl
 all_goals
  simp only[shapeRows,List.getElem?_cons_succ,List.getElem?_cons_zero,Option.some.injEq] at hr;subst hr;simp;try omega
theorem k2x{x:Itm}(hop:x.op<1∨10<x.op):¬k2y x:=by
 rintro⟨h,h2,_⟩;omega
theorem k0h(op:Int)(hop:op<1∨10<op)(v1 v2 v3 v4 v5 v6 v7 v8:Value)(o1:v1.oneCell'=true)(o2:v2.oneCell'=true)(o3:v3.oneCell'=true)(o4:v4.oneCell'=true)(o5:v5.oneCell'=true)(o6:v6.oneCell'=true)(o7:v7.oneCell'=true)(o8:v8.oneCell'=true)(w:World):
 Calls Tryz.prog 140 #[.agg #[.int .i64 op,v1,v2,v3,v4,v5,v6,v7,v8]] w fun e w'=>e=.returned (.bool false)∧Ext w w':=by
 obtain⟨W1,e1,hV1,hx1,hs1,c0,c1,c2,c3,c4,c5,c6,c7,c8⟩:=k1m w (.int .i64 op) v1 v2 v3 v4 v5 v6 v7 v8 37;by_cases h1:op<1
 ·clear hop;go_enter func140,ntmps140;go_wp2_with fail
  go_ret;exact⟨rfl,hx1.trans (y1i _)⟩
 ·have h2:11≤op:=by omega
  have h1:1≤op:=by omega
  clear hop;go_enter func140,ntmps140;go_wp2_with fail
  go_ret;exact⟨rfl,hx1.trans (y1i _)⟩
def k1x(B:Nat)(x:Itm):Prop:=∀(w:World) (cs:List Value),Tabs w→RI w B x cs→B≤w.heap.size→
 Calls Tryz.prog 140 #[.agg cs.toArray] w fun e w'=>e=.returned (.bool (yes (MayI x)))∧Ext w w'
theorem q4l(B:Nat)(l:List Itm)(h:∀y,y∈l→k1x B y)(hl:l.length≤1000000000)(w:World)(v:Value)(hT:Tabs w)(hS:Sl (RI w B) w B 9 l v)(hB:B≤w.heap.size):
 Calls Tryz.prog 139 #[v,.func (.func 140) #[] #[]] w fun e w'=>e=.returned (.bool (yes (∀y,y∈l→MayI y)))∧Ext w w':=
 j6p _ q9v MayI B l w (fun y hy w' cs hx hr hb=>h y hy w' cs (hT.ext hx) hr hb) v hS hB hl
theorem q4m(B:Nat)(l:List Bnd)(hsz:z0e z1c l≤65536)(hv:∀y,y∈l→VB y)(w:World)(v:Value)(hT:Tabs w)(hS:Sl (RB w B) w B 7 l v)(hB:B≤w.heap.size):
 Calls Tryz.prog 136 #[v,.func (.func 137) #[] #[]] w fun e w'=>e=.returned (.bool (yes (∀y,y∈l→q3g y)))∧Ext w w':=
 j6q _ q9w q3g B l w (fun y hy w' cs hx hr hb=>k0j B y w' cs (hT.ext hx) hr hb (by have:=z0g z1c l y hy;omega) (hv y hy)) v hS hB (by have:=z0b z1c l z1z;omega)
theorem k0d(B:Nat)(l:List Prt)(hsz:z0e z3k l≤65536)(hv:∀y,y∈l→VP y)(w:World)(v:Value)(hT:Tabs w)(hS:Sl (RP w B) w B 8 l v)(hB:B≤w.heap.size):
 Calls Tryz.prog 138 #[v,.func (.func 133) #[] #[]] w fun e w'=>e=.returned (.bool (yes (∀y,y∈l→k6a y)))∧Ext w w':=
 j6n _ q9t k6a B l w (fun y hy w' cs hx hr hb=>k0e B y w' cs (hT.ext hx) hr hb (by have:=z0g z3k l y hy;omega) (hv y hy)) v hS hB (by have:=z0b z3k l z9y;omega)
def z9o(b1 b2:Bool)(xl:Nat)(r:SRow)(cS cL cE cB:Bool)(ba bs bL be bp bb:Bool):Bool:=
 b1 && (b2 && (((xl:Int)==r.x) && ((r.s||!cS) && ((r.l||!cL) && ((r.els||!cE) && ((r.bind||!cB) && (ba && (bs && (bL && (be && (bp && bb)))))))))))
theorem j6b(k:Nat)(r:SRow)(hr0:shapeRows[k]? =some r)(hk1:1≤k)(hk2:k≤10)(h4:k≠4)(nm of:ByteArray)(s3 s4 s5 s6 s7 s8:Option Addr)(c3' c4' c5' c6' c7' c8':Nat)(xl sl ll el pl bl:Nat)(hpb:pl+bl≤1000000000)
 (b1 b2 ba bs bL be bp bb:Bool) (W:World) (hT:Tabs W)
 (G1:ECalls Tryz.prog 174 #[.string nm,.bool r.name] W (.bool b1)) (G2:ECalls Tryz.prog 174 #[.string of,.bool r.of] W (.bool b2))
 (GX:ECalls Tryz.prog 173 #[.slice s3 xl c3',.func (.func 135) #[] #[]] W (.bool ba))
 (GS:ECalls Tryz.prog 176 #[.slice s4 sl c4',.func (.func 177) #[] #[]] W (.bool bs))
 (GL:ECalls Tryz.prog 139 #[.slice s5 ll c5',.func (.func 140) #[] #[]] W (.bool bL))
 (GE:ECalls Tryz.prog 139 #[.slice s6 el c6',.func (.func 140) #[] #[]] W (.bool be))
 (GP:ECalls Tryz.prog 136 #[.slice s7 pl c7',.func (.func 137) #[] #[]] W (.bool bp))
 (GB:ECalls Tryz.prog 136 #[.slice s8 bl c8',.func (.func 137) #[] #[]] W (.bool bb)):
 Calls Tryz.prog 140 #[.agg #[.int .i64 k,.string nm,.string of,.slice s3 xl c3',.slice s4 sl c4',.slice s5 ll c5',.slice s6 el c6',.slice s7 pl c7',.slice s8 bl c8']] W
  fun e w'=>e=.returned (.bool (z9o b1 b2 xl r (decide (0<sl)) (decide (0<ll)) (decide (0<el)) (decide ((0:Int)<(pl:Int)+bl)) ba bs bL be bp bb))∧Ext W w':=by
 obtain⟨rn,ro,rx,rs,rl,re,rb⟩:=r;obtain⟨cS,hcS⟩:∃c,decide (0<sl)=c:=⟨_,rfl⟩;obtain⟨cL,hcL⟩:∃c,decide (0<ll)=c:=⟨_,rfl⟩;obtain⟨cE,hcE⟩:∃c,decide (0<el)=c:=⟨_,rfl⟩;obtain⟨cB,hcB⟩:∃c,decide ((0:Int)<(pl:Int)+bl)=c:=⟨_,rfl⟩;have hcS':decide ((0:Int)<(sl:Int))=cS:=by rw[←hcS];simp
 have hcL':decide ((0:Int)<(ll:Int))=cL:=by rw[←hcL];simp
 have hcE':decide ((0:Int)<(el:Int))=cE:=by rw[←hcE];simp
 obtain⟨res,hres⟩:∃res,res=z9o b1 b2 xl ⟨rn,ro,rx,rs,rl,re,rb⟩ cS cL cE cB ba bs bL be bp bb:=⟨_,rfl⟩;rw[hcS,hcL,hcE,hcB,←hres];have R:=Hd hres;clear hres;obtain⟨t0,t1,t2,t3,t4,t5,t6⟩:=Cells.later7 (hT.shapes k _ hr0);have hk:=Hd hr0;clear hr0 hT;have hb4:((k:Int)==4)=false:=beq_eq_false_iff_ne.2 (by omega);obtain⟨W1,e1,hV1,hx1,hs1,c0,c1,c2,c3,c4,c5,c6,c7,c8⟩:=k1m W (.int .i64 k) (.string nm) (.string of) (.slice s3 xl c3') (.slice s4 sl c4') (.slice s5 ll c5') (.slice s6 el c6') (.slice s7 pl c7') (.slice s8 bl c8') 37;have t0:=z0k t0 hx1;have t1:=z0k t1 hx1;have t2:=z0k t2 hx1;have t3:=z0k t3 hx1;have t4:=z0k t4 hx1;have t5:=z0k t5 hx1;have t6:=z0k t6 hx1;obtain⟨W2,e2,hV2,hx2,hs2,d0,d1,d2,d3,d4,d5,d6⟩:=k5a e1.w (.bool rn) (.bool ro) (.int .i64 rx) (.bool rs) (.bool rl) (.bool re) (.bool rb) 221;have hx12:=e1.ext.trans hx2;have c0':=z0k c0 hx12;have c1':=z0k c1 hx12;have c2':=z0k c2 hx12;have i3:=z0k c3 hx12;have i4:=z0k c4 hx12;have i5:=z0k c5 hx12;have i6:=z0k c6 hx12;have i7:=z0k c7 hx12;have i8:=z0k c8 hx12;have hx02:=hx1.trans hx12;have G1:=Hd (G1.later hx02);have G2:=Hd (G2.later hx02);have GX:=Hd (GX.later hx02);have GS:=Hd (GS.later hx02);have GL:=Hd (GL.later hx02);have GE:=Hd (GE.later hx02);have GP:=Hd (GP.later hx02);have GB:=Hd (GB.later hx02)
 rename_i g1 g2 gX gS gL gE gP gB
 clear g1 g2 gX gS gL gE gP gB hx1 hx2 hx12 hs1 hs2 c1 c2 c3 c4 c5 c6 c7 c8;go_enter func140,ntmps140
 go_wp2_with (first
  |(go_at_call 174;with_reducible refine(G1.o.at_ _).mono ?_;rintro _ _ ⟨rfl,e,rfl⟩)
  |(go_at_call 174;with_reducible refine(G2.o.at_ _).mono ?_;rintro _ _ ⟨rfl,e,rfl⟩)
  |(go_at_call 173;with_reducible refine(GX.o.at_ _).mono ?_;rintro _ _ ⟨rfl,e,rfl⟩)
  |(go_at_call 176;with_reducible refine(GS.o.at_ _).mono ?_;rintro _ _ ⟨rfl,e,rfl⟩)
  |(go_at_call 139;with_reducible refine(GL.o.at_ _).mono ?_;rintro _ _ ⟨rfl,e,rfl⟩)
  |(go_at_call 139;with_reducible refine(GE.o.at_ _).mono ?_;rintro _ _ ⟨rfl,e,rfl⟩)
  |(go_at_call 136;with_reducible refine(GP.o.at_ _).mono ?_;rintro _ _ ⟨rfl,e,rfl⟩)
  |(go_at_call 136;with_reducible refine(GB.o.at_ _).mono ?_;rintro _ _ ⟨rfl,e,rfl⟩))
 all_goals
  go_ret;refine⟨?_,hx02.trans (y1i _)⟩;rw[R.o];refine congrArg (fun b=>Ending.returned (Value.bool b)) ?_;clear hcS hcL hcE hcB hcS' hcL' hcE';clear R G1 G2 GX GS GL GE GP GB c0 c0' c1' c2' d0 d1 d2 d3 d4 d5 d6 i3 i4 i5 i6 i7 i8 hV1 hV2 hk t0 t1 t2 t3 t4 t5 t6 hx02 hb4;unfold z9o
  simp_all
  try omega
end Go.Proofs.YtlfmlodanoolhaaGreatDoor
