import Derived.Test.YtlfmlodanoolhaaGreatDoorE24
set_option linter.all false
set_option maxRecDepth 200000
set_option maxHeartbeats 32000000
namespace Go.Proofs.YtlfmlodanoolhaaGreatDoor
open Go Go.RowKit Go.Proofs.Tryz
attribute [local go_sem] z0f
theorem j1v(r:SRow)(hr0:shapeRows[4]? =some r)(nm of:ByteArray)(s3 s4 s5 s6 s7 s8:Option Addr)(c3' c4' c5' c6' c7' c8':Nat)(xl sl ll el pl bl:Nat)(hpb:pl+bl≤1000000000)
 (b1 b2 bt ba bs bL be bp bb:Bool) (W:World) (hT:Tabs W) (hbx:((xl:Int)==r.x)=true) (hlt:(0:Int)<xl) (b o:Nat) (hs3:s3=some ⟨b,o,none⟩) (y0 y1 y2 y3 y4 y5:Value) (p0:y0.oneCell'=true) (p1:y1.oneCell'=true) (p2:y2.oneCell'=true) (p3:y3.oneCell'=true) (p4:y4.oneCell'=true) (p5:y5.oneCell'=true)
 (D:∀e:Later W,Cells e.w b o [y0,y1,y2,y3,y4,y5]) (GT:ECalls Tryz.prog 175 #[.agg #[y0,y1,y2,y3,y4,y5]] W (.bool bt))
 (G1:ECalls Tryz.prog 174 #[.string nm,.bool r.name] W (.bool b1)) (G2:ECalls Tryz.prog 174 #[.string of,.bool r.of] W (.bool b2))
 (GX:ECalls Tryz.prog 173 #[.slice s3 xl c3',.func (.func 135) #[] #[]] W (.bool ba))
 (GS:ECalls Tryz.prog 176 #[.slice s4 sl c4',.func (.func 177) #[] #[]] W (.bool bs))
 (GL:ECalls Tryz.prog 139 #[.slice s5 ll c5',.func (.func 140) #[] #[]] W (.bool bL))
 (GE:ECalls Tryz.prog 139 #[.slice s6 el c6',.func (.func 140) #[] #[]] W (.bool be))
 (GP:ECalls Tryz.prog 136 #[.slice s7 pl c7',.func (.func 137) #[] #[]] W (.bool bp))
 (GB:ECalls Tryz.prog 136 #[.slice s8 bl c8',.func (.func 137) #[] #[]] W (.bool bb)):
 Calls Tryz.prog 140 #[.agg #[.int .i64 4,.string nm,.string of,.slice s3 xl c3',.slice s4 sl c4',.slice s5 ll c5',.slice s6 el c6',.slice s7 pl c7',.slice s8 bl c8']] W
  fun e w'=>e=.returned (.bool (z9o b1 b2 xl r (decide (0<sl)) (decide (0<ll)) (decide (0<el)) (decide ((0:Int)<(pl:Int)+bl)) (bt && ba) bs bL be bp bb))∧Ext W w':=by
 obtain⟨rn,ro,rx,rs,rl,re,rb⟩:=r;subst hs3;obtain⟨cS,hcS⟩:∃c,decide (0<sl)=c:=⟨_,rfl⟩;obtain⟨cL,hcL⟩:∃c,decide (0<ll)=c:=⟨_,rfl⟩;obtain⟨cE,hcE⟩:∃c,decide (0<el)=c:=⟨_,rfl⟩;obtain⟨cB,hcB⟩:∃c,decide ((0:Int)<(pl:Int)+bl)=c:=⟨_,rfl⟩;have hcS':decide ((0:Int)<(sl:Int))=cS:=by rw[←hcS];simp
 have hcL':decide ((0:Int)<(ll:Int))=cL:=by rw[←hcL];simp
 have hcE':decide ((0:Int)<(el:Int))=cE:=by rw[←hcE];simp
 obtain⟨res,hres⟩:∃res,res=z9o b1 b2 xl ⟨rn,ro,rx,rs,rl,re,rb⟩ cS cL cE cB (bt && ba) bs bL be bp bb:=⟨_,rfl⟩;rw[hcS,hcL,hcE,hcB,←hres];have R:=Hd hres;clear hres;obtain⟨t0,t1,t2,t3,t4,t5,t6⟩:=Cells.later7 (hT.shapes 4 _ hr0);have hk:=Hd hr0;clear hr0 hT;obtain⟨W1,e1,hV1,hx1,hs1,c0,c1,c2,c3,c4,c5,c6,c7,c8⟩:=k1m W (.int .i64 4) (.string nm) (.string of) (.slice (some ⟨b,o,none⟩) xl c3') (.slice s4 sl c4') (.slice s5 ll c5') (.slice s6 el c6') (.slice s7 pl c7') (.slice s8 bl c8') 37;have t0:∀e:Later W1,e.w.cell? ⟨0,28,none⟩=some (.bool rn):=z0k t0 hx1;have t1:∀e:Later W1,e.w.cell? ⟨0,29,none⟩=some (.bool ro):=z0k t1 hx1;have t2:∀e:Later W1,e.w.cell? ⟨0,30,none⟩=some (.int .i64 rx):=z0k t2 hx1;have t3:∀e:Later W1,e.w.cell? ⟨0,31,none⟩=some (.bool rs):=z0k t3 hx1;have t4:∀e:Later W1,e.w.cell? ⟨0,32,none⟩=some (.bool rl):=z0k t4 hx1;have t5:∀e:Later W1,e.w.cell? ⟨0,33,none⟩=some (.bool re):=z0k t5 hx1;have t6:∀e:Later W1,e.w.cell? ⟨0,34,none⟩=some (.bool rb):=z0k t6 hx1;obtain⟨W2,e2,hV2,hx2,hs2,d0,d1,d2,d3,d4,d5,d6⟩:=k5a e1.w (.bool rn) (.bool ro) (.int .i64 rx) (.bool rs) (.bool rl) (.bool re) (.bool rb) 221;have hx12:=e1.ext.trans hx2;have c0':=z0k c0 hx12;have c1':=z0k c1 hx12;have c2':=z0k c2 hx12;have i3:=z0k c3 hx12;have i4:=z0k c4 hx12;have i5:=z0k c5 hx12;have i6:=z0k c6 hx12;have i7:=z0k c7 hx12;have i8:=z0k c8 hx12;have hx02:=hx1.trans hx12;have G1:=Hd (G1.later hx02);have G2:=Hd (G2.later hx02);have GX:=Hd (GX.later hx02);have GS:=Hd (GS.later hx02);have GL:=Hd (GL.later hx02);have GE:=Hd (GE.later hx02);have GP:=Hd (GP.later hx02);have GB:=Hd (GB.later hx02);have GT':=Hd (GT.later hx02);have q0:∀e:Later W2,e.w.cell? ⟨b,o,none⟩=some y0:=fun e=>(D (e.under hx02)).get6.1
 have q1:∀e:Later W2,e.w.cell? ⟨b,o+1,none⟩=some y1:=fun e=>(D (e.under hx02)).get6.2.1
 have q2:∀e:Later W2,e.w.cell? ⟨b,o+2,none⟩=some y2:=fun e=>(D (e.under hx02)).get6.2.2.1
 have q3:∀e:Later W2,e.w.cell? ⟨b,o+3,none⟩=some y3:=fun e=>(D (e.under hx02)).get6.2.2.2.1
 have q4:∀e:Later W2,e.w.cell? ⟨b,o+4,none⟩=some y4:=fun e=>(D (e.under hx02)).get6.2.2.2.2.1
 have q5:∀e:Later W2,e.w.cell? ⟨b,o+5,none⟩=some y5:=fun e=>(D (e.under hx02)).get6.2.2.2.2.2
 clear GT D
 rename_i g1 g2 gX gS gL gE gP gB
 clear g1 g2 gX gS gL gE gP gB hx1 hx2 hx12 hs1 hs2 c1 c2 c3 c4 c5 c6 c7 c8;go_enter func140,ntmps140
 go_wp2_with (first
  |(go_at_call 174;with_reducible refine(G1.o.at_ _).mono ?_;rintro _ _ ⟨rfl,e,rfl⟩)
  |(go_at_call 174;with_reducible refine(G2.o.at_ _).mono ?_;rintro _ _ ⟨rfl,e,rfl⟩)
  |(go_at_call 175;with_reducible refine(GT'.o.at_ _).mono ?_;rintro _ _ ⟨rfl,e,rfl⟩)
  |(go_at_call 173;with_reducible refine(GX.o.at_ _).mono ?_;rintro _ _ ⟨rfl,e,rfl⟩)
  |(go_at_call 176;with_reducible refine(GS.o.at_ _).mono ?_;rintro _ _ ⟨rfl,e,rfl⟩)
  |(go_at_call 139;with_reducible refine(GL.o.at_ _).mono ?_;rintro _ _ ⟨rfl,e,rfl⟩)
  |(go_at_call 139;with_reducible refine(GE.o.at_ _).mono ?_;rintro _ _ ⟨rfl,e,rfl⟩)
  |(go_at_call 136;with_reducible refine(GP.o.at_ _).mono ?_;rintro _ _ ⟨rfl,e,rfl⟩)
  |(go_at_call 136;with_reducible refine(GB.o.at_ _).mono ?_;rintro _ _ ⟨rfl,e,rfl⟩))
 all_goals
  go_ret;refine⟨?_,hx02.trans (y1i _)⟩;rw[R.o];refine congrArg (fun b=>Ending.returned (Value.bool b)) ?_;clear hcS hcL hcE hcB hcS' hcL' hcE';clear q0 q1 q2 q3 q4 q5 GT' p0 p1 p2 p3 p4 p5;clear R G1 G2 GX GS GL GE GP GB c0 c0' c1' c2' d0 d1 d2 d3 d4 d5 d6 i3 i4 i5 i6 i7 i8 hV1 hV2 hk t0 t1 t2 t3 t4 t5 t6 hx02;unfold z9o
  simp_all
  try omega
end Go.Proofs.YtlfmlodanoolhaaGreatDoor
