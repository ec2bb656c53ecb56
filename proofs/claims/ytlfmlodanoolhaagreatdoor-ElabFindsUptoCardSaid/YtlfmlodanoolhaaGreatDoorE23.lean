import Derived.Test.YtlfmlodanoolhaaGreatDoorE22
import Derived.Test.YtlfmlodanoolhaaGreatDoorE17
set_option linter.all false
set_option maxRecDepth 200000
set_option maxHeartbeats 32000000
namespace Go.Proofs.YtlfmlodanoolhaaGreatDoor
open Go Go.RowKit Go.Proofs.Tryz
attribute [local go_sem] z0f
theorem k6p{x:X}(k:Nat)(r:KRow)(hr:kindRows[k]? =some r)(hk1:2≤k)(hk2:k≤10)(hop:x.op=k)(hl:x.l.length≤65536):k2a x↔j8e r x.n x.l.length x.w x.v x.name:=by
 unfold k2a j8e z4u k6y k6f y0v z3z;rw[hop];generalize x.n=n;generalize x.w=w;generalize x.v=v;generalize x.l.length=len at*;generalize z2y x.name=P;generalize x.name.size=z;have hc:k=2∨k=3∨k=4∨k=5∨k=6∨k=7∨k=8∨k=9∨k=10:=by omega
 by_cases hN:P
 all_goals
  rcases hc with rfl|rfl|rfl|rfl|rfl|rfl|rfl|rfl|rfl
  all_goals
   simp only[kindRows,List.getElem?_cons_succ,List.getElem?_cons_zero,Option.some.injEq] at hr;subst hr;simp[hN];try omega
theorem k2v{x:X}(hop:x.op=1):k2a x↔z5s x.n x.l.length x.w x.v x.name:=by
 unfold k2a z5s z4u k6y k6f y0v z3z;rw[hop];generalize x.n=n;generalize x.w=w;generalize x.v=v;generalize x.l.length=len at*;generalize z2y x.name=P;generalize x.name.size=z;simp;generalize (2:Int) ^ w.toNat=p;omega
theorem k6q{x:X}(hop:x.op<1∨10<x.op):¬k2a x:=by
 rintro⟨h,_⟩;unfold z4u at h;omega
theorem k4d(op:Int)(hop:op<1∨10<op)(v1 v2 v3 v4 v5:Value)(o1:v1.oneCell'=true)(o2:v2.oneCell'=true)(o3:v3.oneCell'=true)(o4:v4.oneCell'=true)(o5:v5.oneCell'=true)(w:World):
 Calls Tryz.prog 172 #[.agg #[.int .i64 op,v1,v2,v3,v4,v5]] w fun e w'=>e=.returned (.bool false)∧Ext w w':=by
 obtain⟨W1,e1,hV1,hx1,hs1,c0,c1,c2,c3,c4,c5⟩:=z6b w (.int .i64 op) v1 v2 v3 v4 v5 40;by_cases h1:op<1
 ·clear hop;go_enter func172,ntmps172;go_wp2_with fail
  go_ret;exact⟨rfl,hx1.trans (y1i _)⟩
 ·have h2:11≤op:=by omega
  have h1:1≤op:=by omega
  clear hop;go_enter func172,ntmps172;go_wp2_with fail
  go_ret;exact⟨rfl,hx1.trans (y1i _)⟩
theorem k4e(B:Nat)(x:X)(w:World)(cs:List Value)(hT:Tabs w)(hR:RX w B x cs)(hl:x.l.length≤65536)(hs:x.name.size<4294967281):
 Calls Tryz.prog 172 #[.agg cs.toArray] w fun e w'=>e=.returned (.bool (yes (k2a x)))∧Ext w w':=by
 obtain⟨a5,rfl,sa,cap,rfl,hcap,hrow⟩:=RX_iff.1 hR;by_cases h1:x.op<1∨10<x.op
 ·rw[yes_no.2 (k6q h1)];exact k4d _ h1 _ _ _ _ _ rfl rfl rfl rfl rfl w
 ·by_cases h2:x.op=1
  ·rw[z1h (k2v h2),h2];exact k9l _ _ _ _ _ _ _ (by omega) w hT
  ·obtain⟨k,hk⟩:∃k:Nat,x.op=k:=⟨x.op.toNat,by omega⟩;obtain⟨r,hr⟩:∃r,kindRows[k]? =some r:=⟨kindRows[k]'(show k<11 by omega),y1o _⟩;rw[z1h (k6p k r hr (by omega) (by omega) hk hl),hk];exact k9k k r hr (by omega) (by omega) _ _ _ _ _ _ _ (by omega) hs w hT
theorem q2p:Enters Tryz.prog 135:=⟨fun _ _=>by kernel_rfl⟩
theorem q0l(B:Nat)(x:X):∀(w:World) (cs:List Value),Tabs w→RX w B x cs→B≤w.heap.size→z0l x≤65536→VX x→
 Calls Tryz.prog 135 #[.agg cs.toArray] w fun e w'=>e=.returned (.bool (yes (MayX x)))∧Ext w w':=by
 induction x using X.ind with
 |h x ih=>
 intro w cs hT hR hB hsz hvx;have HR:=Hd hR;obtain⟨a5,rfl,hS⟩:=RX_iff.1 hR;have hs0:1+z0e z0l x.l≤65536:=by rw[←z3u];exact hsz
 have hlen:=z0b z0l x.l z1n;obtain⟨hv1,hv2,hns,hvl⟩:=VX_iff.1 hvx;have o5:=hS.oneCell;obtain⟨W1,e1,hV1,hx1,hs1,c0,c1,c2,c3,c4,c5⟩:=z6b w (.int .i64 x.op) (.string x.name) (.int .i64 x.n) (.int .i64 x.w) (.int .u64 x.v) a5 40;have hB1:B≤W1.heap.size:=y1k hB hx1.size
 have G1:=Hd (show ECalls Tryz.prog 172 #[.agg #[.int .i64 x.op,.string x.name,.int .i64 x.n,.int .i64 x.w,.int .u64 x.v,a5]] W1 (.bool (yes (k2a x))) from
  fun w' hw=>k4e B x w' _ (hT.ext (hx1.trans hw)) (HR.o.ext (hx1.trans hw) hB) (by omega) hns)
 have G2:=Hd (show ECalls Tryz.prog 173 #[a5,.func (.func 135) #[] #[]] W1 (.bool (yes (∀y,y∈x.l→MayX y))) from
  fun w' hw=>j4o _ q2p MayX B x.l w' (fun y hy w'' cs hx hr hb=>ih y hy w'' cs (hT.ext ((hx1.trans hw).trans hx)) hr hb (by have:=z0g z0l x.l y hy;omega) (hvl y hy)) a5
   (hS.extRX (hx1.trans hw) hB) (y1k hB1 hw.size) (by omega))
 obtain⟨res,hres⟩:∃res,res=yes (MayX x):=⟨_,rfl⟩;rw[←hres];rw[z1h MayX_iff,q1a] at hres;have R:=Hd hres;clear hR hsz hvx hv1 hv2 hvl ih hs0 hlen hres hS HR;generalize yes (k2a x)=b1 at*;generalize yes (∀y,y∈x.l→MayX y)=b2 at*;cases b1
 all_goals
  go_enter func135,ntmps135
  go_wp2_with (first
   |(go_at_call 172;refine(G1.o.at_ _).mono ?_;rintro _ _ ⟨rfl,e,rfl⟩)
   |(go_at_call 173;refine(G2.o.at_ _).mono ?_;rintro _ _ ⟨rfl,e,rfl⟩))
  all_goals
   go_ret;exact⟨by rw[R.o];rfl,hx1.trans (y1i _)⟩
theorem q1d(op:Int)(v1 v2 v3 v4 v5:Value)(o1:v1.oneCell'=true)(o2:v2.oneCell'=true)(o3:v3.oneCell'=true)(o4:v4.oneCell'=true)(o5:v5.oneCell'=true)(w:World):
 Calls Tryz.prog 175 #[.agg #[.int .i64 op,v1,v2,v3,v4,v5]] w fun e w'=>e=.returned (.bool (yes (z3z op)))∧Ext w w':=by
 obtain⟨res,hres⟩:∃res,res=yes (z3z op):=⟨_,rfl⟩;rw[←hres];have R:=Hd hres;clear hres;obtain⟨W1,e1,hV1,hx1,hs1,c0,c1,c2,c3,c4,c5⟩:=z6b w (.int .i64 op) v1 v2 v3 v4 v5 40;go_enter func175,ntmps175;go_wp2_with fail
 all_goals
  go_ret;refine⟨?_,hx1.trans (y1i _)⟩;rw[R.o];refine congrArg (fun b=>Ending.returned (Value.bool b)) ?_;rw[Bool.eq_iff_iff,yes_iff];unfold z3z;simp;try omega
theorem q9s:Enters Tryz.prog 177:=⟨fun _ _=>by kernel_rfl⟩
def z6c(B:Nat)(x:S):Prop:=∀(w:World) (cs:List Value),Tabs w→RS w B x cs→B≤w.heap.size→
 Calls Tryz.prog 177 #[.agg cs.toArray] w fun e w'=>e=.returned (.bool (yes (MayS x)))∧Ext w w'
def z2k(B:Nat)(l:List S):Prop:=∀(w:World) (v:Value),Tabs w→Sl (RS w B) w B 4 l v→B≤w.heap.size→
 Calls Tryz.prog 176 #[v,.func (.func 177) #[] #[]] w fun e w'=>e=.returned (.bool (yes (∀y,y∈l→MayS y)))∧Ext w w'
def z3r(B:Nat)(l:List S):Prop:=∀(w:World) (v:Value),Tabs w→Sl (RS w B) w B 4 l v→B≤w.heap.size→
 Calls Tryz.prog 199 #[v] w fun e w'=>e=.returned (.bool (yes (z4k l)))∧Ext w w'
theorem q6a(B:Nat)(l:List S)(h:∀y,y∈l→z6c B y)(hl:l.length≤1000000000):z2k B l:=
 fun w v hT hS hB=>k5g _ q9s MayS B l w (fun y hy w' cs hx hr hb=>h y hy w' cs (hT.ext hx) hr hb) v hS hB hl
theorem z4n(B:Nat)(l:List X)(hsz:z0e z0l l≤65536)(hv:∀y,y∈l→VX y)(w:World)(v:Value)(hT:Tabs w)(hS:Sl (RX w B) w B 6 l v)(hB:B≤w.heap.size):
 Calls Tryz.prog 173 #[v,.func (.func 135) #[] #[]] w fun e w'=>e=.returned (.bool (yes (∀y,y∈l→MayX y)))∧Ext w w':=
 j4o _ q2p MayX B l w (fun y hy w' cs hx hr hb=>q0l B y w' cs (hT.ext hx) hr hb (by have:=z0g z0l l y hy;omega) (hv y hy)) v hS hB (by have:=z0b z0l l z1n;omega)
theorem z9j{α:Type}{P:α→Prop}{l:List α}(h:l.length=0):yes (∀y,y∈l→P y)=true:=by
 rw[yes_iff,List.eq_nil_of_length_eq_zero h];intro y hy;cases hy
theorem z8k{l:List X}(h:0<l.length):z3y l↔z3z l[0].op:=by
 cases l with
 |nil=>simp at h
 |cons x r=>exact Iff.rfl
theorem k7z(B:Nat)(x:S)(h1:x.op≠1)(h2:x.op≠2)(h3:x.op≠3)(h5:x.op≠5)(h6:x.op≠6)(hall:z2k B x.l)(harms:z3r B x.l)(hvx:∀z,z∈x.x→VX z)(hts:x.name.size<4294967281)(hsz:z0p x≤65536):z6c B x:=by
 intro w cs hT hR hB;obtain⟨v2,v3,rfl,hS2,hS3⟩:=RS_iff.1 hR;have hs0:1+z0e z0l x.x+z0e z0p x.l≤65536:=by rw[←z0w];exact hsz
 have hlnx:=z0b z0l x.x z1n;have hlnl:=z0b z0p x.l z1o;have o2:=hS2.oneCell;have o3:=hS3.oneCell;obtain⟨W1,e1,hV1,hx1,hs1,c0,c1,c2,c3⟩:=q2c w (.int .i64 x.op) (.string x.name) v2 v3 177;have hB1:B≤W1.heap.size:=y1k hB hx1.size
 have GX:=Hd (show ECalls Tryz.prog 173 #[v2,.func (.func 135) #[] #[]] W1 (.bool (yes (∀y,y∈x.x→MayX y))) from
  fun w' hw=>z4n B x.x (by omega) hvx w' v2 (hT.ext (hx1.trans hw)) (hS2.extRX (hx1.trans hw) hB) (y1k hB1 hw.size))
 have GL:=Hd (show ECalls Tryz.prog 176 #[v3,.func (.func 177) #[] #[]] W1 (.bool (yes (∀y,y∈x.l→MayS y))) from
  fun w' hw=>hall w' v3 (hT.ext (hx1.trans hw)) (hS3.extRS (hx1.trans hw) hB) (y1k hB1 hw.size))
 have GA:=Hd (show ECalls Tryz.prog 199 #[v3] W1 (.bool (yes (z4k x.l))) from
  fun w' hw=>harms w' v3 (hT.ext (hx1.trans hw)) (hS3.extRS (hx1.trans hw) hB) (y1k hB1 hw.size))
 have GN:=Hd (show ECalls Tryz.prog 134 #[.string x.name] W1 (.bool (z5t x.name)) from fun w' hw=>z3x x.name w' ((hT.ext (hx1.trans hw)).lib) hts);have hnil:=Hd (fun h:x.l.length=0=>z9j (P:=MayS) h);obtain⟨sa,scap,rfl,hsc,hsr⟩:=hS2;obtain⟨sb,tcap,rfl,htc,hrow⟩:=hS3;obtain⟨res,hres⟩:∃res,res=yes (MayS x):=⟨_,rfl⟩;rw[←hres];rw[z1h (y0k (x:=x) h1 h2 h3 h5 h6)] at hres;obtain⟨PX,hPX⟩:∃P:Prop,P=(∀y,y∈x.x→MayX y):=⟨_,rfl⟩;try rw[←hPX] at hres
 rw[←hPX] at GX;obtain⟨PZ,hPZ⟩:∃P:Prop,P=(x.name.size=0):=⟨_,rfl⟩;try rw[←hPZ] at hres
 obtain⟨PL,hPL⟩:∃P:Prop,P=(∀y,y∈x.l→MayS y):=⟨_,rfl⟩;try rw[←hPL] at hres
 rw[←hPL] at GL;have R:=Hd hres;clear hR hT hall harms hvx hs0 hsz hts o2 o3 hres hsc hsr htc;generalize x.name=nm at*;generalize x.x=fx at*;generalize x.l=fl at*;generalize x.op=op at*;clear hnil GA GN hrow;have hb1:(op==1)=false:=beq_eq_false_iff_ne.2 h1;have hb2:(op==2)=false:=beq_eq_false_iff_ne.2 h2;have hb3:(op==3)=false:=beq_eq_false_iff_ne.2 h3;have hb5:(op==5)=false:=beq_eq_false_iff_ne.2 h5;have hb6:(op==6)=false:=beq_eq_false_iff_ne.2 h6;by_cases pX:PX
 ·have qX:=Hd pX;rw[yes_iff.2 pX] at GX;clear pX;by_cases pZ:PZ
  ·have qZ:=Hd pZ;rw[hPZ] at pZ;have hem:=z3b pZ;clear pZ;by_cases pL:PL
   ·have qL:=Hd pL;rw[yes_iff.2 pL] at GL;clear pL;go_enter func177,ntmps177;go_wp2_with (first|(go_at_call 173;refine(GX.o.at_ _).mono ?_;rintro _ _ ⟨rfl,e,rfl⟩)|(go_at_call 176;refine(GL.o.at_ _).mono ?_;rintro _ _ ⟨rfl,e,rfl⟩))
    all_goals
     go_ret;refine⟨?_,hx1.trans (y1i _)⟩;rw[R.o];refine congrArg (fun b=>Ending.returned (Value.bool b)) ?_;rw[Bool.eq_iff_iff,yes_iff];simp[qX.o,qZ.o]
   ·have qL:=Hd pL;rw[yes_no.2 pL] at GL;clear pL;go_enter func177,ntmps177;go_wp2_with (first|(go_at_call 173;refine(GX.o.at_ _).mono ?_;rintro _ _ ⟨rfl,e,rfl⟩)|(go_at_call 176;refine(GL.o.at_ _).mono ?_;rintro _ _ ⟨rfl,e,rfl⟩))
    all_goals
     go_ret;refine⟨?_,hx1.trans (y1i _)⟩;rw[R.o];refine congrArg (fun b=>Ending.returned (Value.bool b)) ?_;rw[Bool.eq_iff_iff,yes_iff];simp[qX.o,qZ.o]
  ·have qZ:=Hd pZ;rw[hPZ] at pZ;have hem:=z4a pZ;clear pZ;go_enter func177,ntmps177;go_wp2_with (first|(go_at_call 173;refine(GX.o.at_ _).mono ?_;rintro _ _ ⟨rfl,e,rfl⟩))
   all_goals
    go_ret;refine⟨?_,hx1.trans (y1i _)⟩;rw[R.o];refine congrArg (fun b=>Ending.returned (Value.bool b)) ?_;rw[Bool.eq_iff_iff,yes_iff];simp[qX.o,qZ.o]
 ·have qX:=Hd pX;rw[yes_no.2 pX] at GX;clear pX;go_enter func177,ntmps177;go_wp2_with (first|(go_at_call 173;refine(GX.o.at_ _).mono ?_;rintro _ _ ⟨rfl,e,rfl⟩))
  all_goals
   go_ret;refine⟨?_,hx1.trans (y1i _)⟩;rw[R.o];refine congrArg (fun b=>Ending.returned (Value.bool b)) ?_;rw[Bool.eq_iff_iff,yes_iff];simp[qX.o]
theorem k7y(B:Nat)(x:S)(hop:x.op=1)(hall:z2k B x.l)(harms:z3r B x.l)(hvx:∀z,z∈x.x→VX z)(hts:x.name.size<4294967281)(hsz:z0p x≤65536):z6c B x:=by
 intro w cs hT hR hB;obtain⟨v2,v3,rfl,hS2,hS3⟩:=RS_iff.1 hR;have hs0:1+z0e z0l x.x+z0e z0p x.l≤65536:=by rw[←z0w];exact hsz
 have hlnx:=z0b z0l x.x z1n;have hlnl:=z0b z0p x.l z1o;have o2:=hS2.oneCell;have o3:=hS3.oneCell;obtain⟨W1,e1,hV1,hx1,hs1,c0,c1,c2,c3⟩:=q2c w (.int .i64 x.op) (.string x.name) v2 v3 177;have hB1:B≤W1.heap.size:=y1k hB hx1.size
 have GX:=Hd (show ECalls Tryz.prog 173 #[v2,.func (.func 135) #[] #[]] W1 (.bool (yes (∀y,y∈x.x→MayX y))) from
  fun w' hw=>z4n B x.x (by omega) hvx w' v2 (hT.ext (hx1.trans hw)) (hS2.extRX (hx1.trans hw) hB) (y1k hB1 hw.size))
 have GL:=Hd (show ECalls Tryz.prog 176 #[v3,.func (.func 177) #[] #[]] W1 (.bool (yes (∀y,y∈x.l→MayS y))) from
  fun w' hw=>hall w' v3 (hT.ext (hx1.trans hw)) (hS3.extRS (hx1.trans hw) hB) (y1k hB1 hw.size))
 have GA:=Hd (show ECalls Tryz.prog 199 #[v3] W1 (.bool (yes (z4k x.l))) from
  fun w' hw=>harms w' v3 (hT.ext (hx1.trans hw)) (hS3.extRS (hx1.trans hw) hB) (y1k hB1 hw.size))
 have GN:=Hd (show ECalls Tryz.prog 134 #[.string x.name] W1 (.bool (z5t x.name)) from fun w' hw=>z3x x.name w' ((hT.ext (hx1.trans hw)).lib) hts);have hnil:=Hd (fun h:x.l.length=0=>z9j (P:=MayS) h);obtain⟨sa,scap,rfl,hsc,hsr⟩:=hS2;obtain⟨sb,tcap,rfl,htc,hrow⟩:=hS3;obtain⟨res,hres⟩:∃res,res=yes (MayS x):=⟨_,rfl⟩;rw[←hres];rw[z1h (y0j (x:=x) hop)] at hres;obtain⟨PX,hPX⟩:∃P:Prop,P=(∀y,y∈x.x→MayX y):=⟨_,rfl⟩;try rw[←hPX] at hres
 rw[←hPX] at GX;obtain⟨PZ,hPZ⟩:∃P:Prop,P=(x.name.size=0):=⟨_,rfl⟩;try rw[←hPZ] at hres
 obtain⟨PX2,hPX2⟩:∃P:Prop,P=(x.x.length=2):=⟨_,rfl⟩;try rw[←hPX2] at hres
 obtain⟨PL0,hPL0⟩:∃P:Prop,P=(x.l.length=0):=⟨_,rfl⟩;try rw[←hPL0] at hres
 obtain⟨PT,hPT⟩:∃P:Prop,P=(z3y x.x):=⟨_,rfl⟩;rw[←hPT] at hres;have R:=Hd hres;have HSR:=Hd hsr;clear hR hT hall harms hvx hs0 hsz hts o2 o3 hres hsc hsr htc;rw[hop] at c0 hV1⊢;generalize x.name=nm at*;generalize x.x=fx at*;generalize x.l=fl at*;clear hop hnil GA GN hrow;by_cases pX:PX
 ·have qX:=Hd pX;rw[yes_iff.2 pX] at GX;clear pX;by_cases pZ:PZ
  ·have qZ:=Hd pZ;rw[hPZ] at pZ;have hem:=z3b pZ;clear pZ;by_cases pL0:PL0
   ·have qL0:=Hd pL0;rw[hPL0] at pL0;have bL0:((fl.length:Int)==0)=true:=beq_iff_eq.2 (by omega);have nl0:=Hd (z9j (P:=MayS) pL0);clear pL0;rw[nl0.o] at GL;by_cases pX2:PX2
    ·have qX2:=Hd pX2;rw[hPX2] at pX2;have bX2:((fx.length:Int)==2)=true:=beq_iff_eq.2 (by omega);have hlt:0<fx.length:=by omega
     clear pX2;have hp:(0:Int)<fx.length:=by omega
     obtain⟨b,o,v0,v1,v2,v3,v4,v5,rfl,hbB,hRy,hC,o0,o1,o2,o3,o4,o5⟩:=HSR.o.open6 hlt;obtain⟨a5,hEq,hS5⟩:=RX_iff.1 hRy;cases hEq;obtain⟨d0,d1,d2,d3,d4,d5⟩:=hC.get6;have d0:=z0k (cellAt d0) hx1;have d1:=z0k (cellAt d1) hx1;have d2:=z0k (cellAt d2) hx1;have d3:=z0k (cellAt d3) hx1;have d4:=z0k (cellAt d4) hx1;have d5:=z0k (cellAt d5) hx1;simp only[Nat.zero_mul,Nat.add_zero] at d0 d1 d2 d3 d4 d5
     have GT:=Hd (show ECalls Tryz.prog 175 #[.agg #[.int .i64 fx[0].op,.string fx[0].name,.int .i64 fx[0].n,.int .i64 fx[0].w,.int .u64 fx[0].v,v5]] W1 (.bool (yes (z3z fx[0].op))) from
      fun w' hw=>q1d _ _ _ _ _ _ rfl rfl rfl rfl o5 w')
     rw[←z1h (z8k hlt),←hPT] at GT;generalize fx[0].op=f0 at*;generalize fx[0].name=f1 at*;generalize fx[0].n=f2 at*;generalize fx[0].w=f3 at*;generalize fx[0].v=f4 at*;clear hRy hC hS5;by_cases pT:PT
     ·have qT:=Hd pT;rw[yes_iff.2 pT] at GT;clear pT;go_enter func177,ntmps177;go_wp2_with (first|(go_at_call 173;refine(GX.o.at_ _).mono ?_;rintro _ _ ⟨rfl,e,rfl⟩)|(go_at_call 176;refine(GL.o.at_ _).mono ?_;rintro _ _ ⟨rfl,e,rfl⟩)|(go_at_call 175;refine(GT.o.at_ _).mono ?_;rintro _ _ ⟨rfl,e,rfl⟩))
      all_goals
       go_ret;refine⟨?_,hx1.trans (y1i _)⟩;rw[R.o];refine congrArg (fun b=>Ending.returned (Value.bool b)) ?_;rw[Bool.eq_iff_iff,yes_iff];simp[qX.o,qZ.o,qL0.o,qX2.o,qT.o]
     ·have qT:=Hd pT;rw[yes_no.2 pT] at GT;clear pT;go_enter func177,ntmps177;go_wp2_with (first|(go_at_call 173;refine(GX.o.at_ _).mono ?_;rintro _ _ ⟨rfl,e,rfl⟩)|(go_at_call 176;refine(GL.o.at_ _).mono ?_;rintro _ _ ⟨rfl,e,rfl⟩)|(go_at_call 175;refine(GT.o.at_ _).mono ?_;rintro _ _ ⟨rfl,e,rfl⟩))
      all_goals
       go_ret;refine⟨?_,hx1.trans (y1i _)⟩;rw[R.o];refine congrArg (fun b=>Ending.returned (Value.bool b)) ?_;rw[Bool.eq_iff_iff,yes_iff];simp[qX.o,qZ.o,qL0.o,qX2.o,qT.o]
    ·have qX2:=Hd pX2;rw[hPX2] at pX2;have bX2:((fx.length:Int)==2)=false:=beq_eq_false_iff_ne.2 (by omega);clear pX2;go_enter func177,ntmps177;go_wp2_with (first|(go_at_call 173;refine(GX.o.at_ _).mono ?_;rintro _ _ ⟨rfl,e,rfl⟩)|(go_at_call 176;refine(GL.o.at_ _).mono ?_;rintro _ _ ⟨rfl,e,rfl⟩))
     all_goals
      go_ret;refine⟨?_,hx1.trans (y1i _)⟩;rw[R.o];refine congrArg (fun b=>Ending.returned (Value.bool b)) ?_;rw[Bool.eq_iff_iff,yes_iff];simp[qX.o,qZ.o,qL0.o,qX2.o]
   ·have qL0:=Hd pL0;rw[hPL0] at pL0;have bL0:((fl.length:Int)==0)=false:=beq_eq_false_iff_ne.2 (by omega);clear pL0;by_cases pL:∀y,y∈fl→MayS y
    ·rw[yes_iff.2 pL] at GL;clear pL;by_cases pX2:PX2
     ·have qX2:=Hd pX2;rw[hPX2] at pX2;have bX2:((fx.length:Int)==2)=true:=beq_iff_eq.2 (by omega);have hlt:0<fx.length:=by omega
      clear pX2;have hp:(0:Int)<fx.length:=by omega
      obtain⟨b,o,v0,v1,v2,v3,v4,v5,rfl,hbB,hRy,hC,o0,o1,o2,o3,o4,o5⟩:=HSR.o.open6 hlt;obtain⟨a5,hEq,hS5⟩:=RX_iff.1 hRy;cases hEq;obtain⟨d0,d1,d2,d3,d4,d5⟩:=hC.get6;have d0:=z0k (cellAt d0) hx1;have d1:=z0k (cellAt d1) hx1;have d2:=z0k (cellAt d2) hx1;have d3:=z0k (cellAt d3) hx1;have d4:=z0k (cellAt d4) hx1;have d5:=z0k (cellAt d5) hx1;simp only[Nat.zero_mul,Nat.add_zero] at d0 d1 d2 d3 d4 d5
      have GT:=Hd (show ECalls Tryz.prog 175 #[.agg #[.int .i64 fx[0].op,.string fx[0].name,.int .i64 fx[0].n,.int .i64 fx[0].w,.int .u64 fx[0].v,v5]] W1 (.bool (yes (z3z fx[0].op))) from
       fun w' hw=>q1d _ _ _ _ _ _ rfl rfl rfl rfl o5 w')
      rw[←z1h (z8k hlt),←hPT] at GT;generalize fx[0].op=f0 at*;generalize fx[0].name=f1 at*;generalize fx[0].n=f2 at*;generalize fx[0].w=f3 at*;generalize fx[0].v=f4 at*;clear hRy hC hS5;by_cases pT:PT
      ·have qT:=Hd pT;rw[yes_iff.2 pT] at GT;clear pT;go_enter func177,ntmps177;go_wp2_with (first|(go_at_call 173;refine(GX.o.at_ _).mono ?_;rintro _ _ ⟨rfl,e,rfl⟩)|(go_at_call 176;refine(GL.o.at_ _).mono ?_;rintro _ _ ⟨rfl,e,rfl⟩)|(go_at_call 175;refine(GT.o.at_ _).mono ?_;rintro _ _ ⟨rfl,e,rfl⟩))
       all_goals
        go_ret;refine⟨?_,hx1.trans (y1i _)⟩;rw[R.o];refine congrArg (fun b=>Ending.returned (Value.bool b)) ?_;rw[Bool.eq_iff_iff,yes_iff];simp[qX.o,qZ.o,qL0.o,qX2.o,qT.o]
      ·have qT:=Hd pT;rw[yes_no.2 pT] at GT;clear pT;go_enter func177,ntmps177;go_wp2_with (first|(go_at_call 173;refine(GX.o.at_ _).mono ?_;rintro _ _ ⟨rfl,e,rfl⟩)|(go_at_call 176;refine(GL.o.at_ _).mono ?_;rintro _ _ ⟨rfl,e,rfl⟩)|(go_at_call 175;refine(GT.o.at_ _).mono ?_;rintro _ _ ⟨rfl,e,rfl⟩))
       all_goals
        go_ret;refine⟨?_,hx1.trans (y1i _)⟩;rw[R.o];refine congrArg (fun b=>Ending.returned (Value.bool b)) ?_;rw[Bool.eq_iff_iff,yes_iff];simp[qX.o,qZ.o,qL0.o,qX2.o,qT.o]
     ·have qX2:=Hd pX2;rw[hPX2] at pX2;have bX2:((fx.length:Int)==2)=false:=beq_eq_false_iff_ne.2 (by omega);clear pX2;go_enter func177,ntmps177;go_wp2_with (first|(go_at_call 173;refine(GX.o.at_ _).mono ?_;rintro _ _ ⟨rfl,e,rfl⟩)|(go_at_call 176;refine(GL.o.at_ _).mono ?_;rintro _ _ ⟨rfl,e,rfl⟩))
      all_goals
       go_ret;refine⟨?_,hx1.trans (y1i _)⟩;rw[R.o];refine congrArg (fun b=>Ending.returned (Value.bool b)) ?_;rw[Bool.eq_iff_iff,yes_iff];simp[qX.o,qZ.o,qL0.o,qX2.o]
    ·rw[yes_no.2 pL] at GL;clear pL;go_enter func177,ntmps177;go_wp2_with (first|(go_at_call 173;refine(GX.o.at_ _).mono ?_;rintro _ _ ⟨rfl,e,rfl⟩)|(go_at_call 176;refine(GL.o.at_ _).mono ?_;rintro _ _ ⟨rfl,e,rfl⟩))
     all_goals
      go_ret;refine⟨?_,hx1.trans (y1i _)⟩;rw[R.o];refine congrArg (fun b=>Ending.returned (Value.bool b)) ?_;rw[Bool.eq_iff_iff,yes_iff];simp[qX.o,qZ.o,qL0.o]
  ·have qZ:=Hd pZ;rw[hPZ] at pZ;have hem:=z4a pZ;clear pZ;go_enter func177,ntmps177;go_wp2_with (first|(go_at_call 173;refine(GX.o.at_ _).mono ?_;rintro _ _ ⟨rfl,e,rfl⟩))
   all_goals
    go_ret;refine⟨?_,hx1.trans (y1i _)⟩;rw[R.o];refine congrArg (fun b=>Ending.returned (Value.bool b)) ?_;rw[Bool.eq_iff_iff,yes_iff];simp[qX.o,qZ.o]
 ·have qX:=Hd pX;rw[yes_no.2 pX] at GX;clear pX;go_enter func177,ntmps177;go_wp2_with (first|(go_at_call 173;refine(GX.o.at_ _).mono ?_;rintro _ _ ⟨rfl,e,rfl⟩))
  all_goals
   go_ret;refine⟨?_,hx1.trans (y1i _)⟩;rw[R.o];refine congrArg (fun b=>Ending.returned (Value.bool b)) ?_;rw[Bool.eq_iff_iff,yes_iff];simp[qX.o]
theorem k7x(B:Nat)(x:S)(hop:x.op=2)(hall:z2k B x.l)(harms:z3r B x.l)(hvx:∀z,z∈x.x→VX z)(hts:x.name.size<4294967281)(hsz:z0p x≤65536):z6c B x:=by
 intro w cs hT hR hB;obtain⟨v2,v3,rfl,hS2,hS3⟩:=RS_iff.1 hR;have hs0:1+z0e z0l x.x+z0e z0p x.l≤65536:=by rw[←z0w];exact hsz
 have hlnx:=z0b z0l x.x z1n;have hlnl:=z0b z0p x.l z1o;have o2:=hS2.oneCell;have o3:=hS3.oneCell;obtain⟨W1,e1,hV1,hx1,hs1,c0,c1,c2,c3⟩:=q2c w (.int .i64 x.op) (.string x.name) v2 v3 177;have hB1:B≤W1.heap.size:=y1k hB hx1.size
 have GX:=Hd (show ECalls Tryz.prog 173 #[v2,.func (.func 135) #[] #[]] W1 (.bool (yes (∀y,y∈x.x→MayX y))) from
  fun w' hw=>z4n B x.x (by omega) hvx w' v2 (hT.ext (hx1.trans hw)) (hS2.extRX (hx1.trans hw) hB) (y1k hB1 hw.size))
 have GL:=Hd (show ECalls Tryz.prog 176 #[v3,.func (.func 177) #[] #[]] W1 (.bool (yes (∀y,y∈x.l→MayS y))) from
  fun w' hw=>hall w' v3 (hT.ext (hx1.trans hw)) (hS3.extRS (hx1.trans hw) hB) (y1k hB1 hw.size))
 have GA:=Hd (show ECalls Tryz.prog 199 #[v3] W1 (.bool (yes (z4k x.l))) from
  fun w' hw=>harms w' v3 (hT.ext (hx1.trans hw)) (hS3.extRS (hx1.trans hw) hB) (y1k hB1 hw.size))
 have GN:=Hd (show ECalls Tryz.prog 134 #[.string x.name] W1 (.bool (z5t x.name)) from fun w' hw=>z3x x.name w' ((hT.ext (hx1.trans hw)).lib) hts);have hnil:=Hd (fun h:x.l.length=0=>z9j (P:=MayS) h);obtain⟨sa,scap,rfl,hsc,hsr⟩:=hS2;obtain⟨sb,tcap,rfl,htc,hrow⟩:=hS3;obtain⟨res,hres⟩:∃res,res=yes (MayS x):=⟨_,rfl⟩;rw[←hres];rw[z1h (y0i (x:=x) hop)] at hres;obtain⟨PX,hPX⟩:∃P:Prop,P=(∀y,y∈x.x→MayX y):=⟨_,rfl⟩;try rw[←hPX] at hres
 rw[←hPX] at GX;obtain⟨PZ,hPZ⟩:∃P:Prop,P=(x.name.size=0):=⟨_,rfl⟩;try rw[←hPZ] at hres
 obtain⟨PX1,hPX1⟩:∃P:Prop,P=(x.x.length=1):=⟨_,rfl⟩;try rw[←hPX1] at hres
 obtain⟨PL2,hPL2⟩:∃P:Prop,P=(x.l.length=2):=⟨_,rfl⟩;try rw[←hPL2] at hres
 obtain⟨PO0,hPO0⟩:∃P:Prop,P=(q5l x.l 0=5):=⟨_,rfl⟩;try rw[←hPO0] at hres
 obtain⟨PO1,hPO1⟩:∃P:Prop,P=(q5l x.l 1=5):=⟨_,rfl⟩;try rw[←hPO1] at hres
 obtain⟨PO2,hPO2⟩:∃P:Prop,P=(q5l x.l 1=2):=⟨_,rfl⟩;try rw[←hPO2] at hres
 obtain⟨PL,hPL⟩:∃P:Prop,P=(∀y,y∈x.l→MayS y):=⟨_,rfl⟩;try rw[←hPL] at hres
 rw[←hPL] at GL;have R:=Hd hres;have HROW:=Hd hrow;clear hR hT hall harms hvx hs0 hsz hts o2 o3 hres hsc hsr htc;rw[hop] at c0 hV1⊢;generalize x.name=nm at*;generalize x.x=fx at*;generalize x.l=fl at*;clear hop hnil GA GN hrow;by_cases pX:PX
 ·have qX:=Hd pX;rw[yes_iff.2 pX] at GX;clear pX;by_cases pZ:PZ
  ·have qZ:=Hd pZ;rw[hPZ] at pZ;have hem:=z3b pZ;clear pZ;by_cases pL:PL
   ·have qL:=Hd pL;rw[yes_iff.2 pL] at GL;clear pL;by_cases pX1:PX1
    ·have qX1:=Hd pX1;rw[hPX1] at pX1;have bX1:((fx.length:Int)==1)=true:=beq_iff_eq.2 (by omega);clear pX1;by_cases pL2:PL2
     ·have qL2:=Hd pL2;rw[hPL2] at pL2;have bL2:((fl.length:Int)==2)=true:=beq_iff_eq.2 (by omega);have hl0:0<fl.length:=by omega
      have hl1:1<fl.length:=by omega
      clear pL2;have hp0:(0:Int)<fl.length:=by omega
      have hp1:(1:Int)<fl.length:=by omega
      obtain⟨b,o,v0,v1,v2,v3,rfl,hbB,hRa,hCa,o0,o1,o2,o3⟩:=HROW.o.open4 hl0;obtain⟨b',o',u0,u1,u2,u3,hsb,hbB',hRb,hCb,p0,p1,p2,p3⟩:=HROW.o.open4 hl1;cases hsb;obtain⟨e2,e3,hEq,-,-⟩:=RS_iff.1 hRa;cases hEq;obtain⟨e4,e5,hEq',-,-⟩:=RS_iff.1 hRb;cases hEq';obtain⟨i0,i1,i2,i3⟩:=hCa.get4;obtain⟨j0,j1,j2,j3⟩:=hCb.get4;simp only[Nat.zero_mul,Nat.add_zero,Nat.one_mul] at i0 j0;have ha0:=j8u fl 0 hl0;have ha1:=j8u fl 1 hl1;rw[←ha0] at i0;rw[←ha1] at j0;have i0:=z0k (cellAt i0) hx1;have j0:=z0k (cellAt j0) hx1;clear hRa hRb hCa hCb ha0 ha1 i1 i2 i3 j1 j2 j3;by_cases pO0:PO0
      ·have qO0:=Hd pO0;rw[hPO0] at pO0;have bO0:(q5l fl 0==5)=true:=beq_iff_eq.2 pO0;clear pO0;by_cases pO1:PO1
       ·have qO1:=Hd pO1;rw[hPO1] at pO1;have bO1:(q5l fl 1==5)=true:=beq_iff_eq.2 pO1;clear pO1;go_enter func177,ntmps177;go_wp2_with (first|(go_at_call 173;refine(GX.o.at_ _).mono ?_;rintro _ _ ⟨rfl,e,rfl⟩)|(go_at_call 176;refine(GL.o.at_ _).mono ?_;rintro _ _ ⟨rfl,e,rfl⟩))
        all_goals
         go_ret;refine⟨?_,hx1.trans (y1i _)⟩;rw[R.o];refine congrArg (fun b=>Ending.returned (Value.bool b)) ?_;rw[Bool.eq_iff_iff,yes_iff];simp[qX.o,qZ.o,qX1.o,qL2.o,qL.o,qO0.o,qO1.o]
       ·have qO1:=Hd pO1;rw[hPO1] at pO1;have bO1:(q5l fl 1==5)=false:=beq_eq_false_iff_ne.2 pO1;clear pO1;by_cases pO2:PO2
        ·have qO2:=Hd pO2;rw[hPO2] at pO2;have bO2:(q5l fl 1==2)=true:=beq_iff_eq.2 pO2;clear pO2;go_enter func177,ntmps177;go_wp2_with (first|(go_at_call 173;refine(GX.o.at_ _).mono ?_;rintro _ _ ⟨rfl,e,rfl⟩)|(go_at_call 176;refine(GL.o.at_ _).mono ?_;rintro _ _ ⟨rfl,e,rfl⟩))
         all_goals
          go_ret;refine⟨?_,hx1.trans (y1i _)⟩;rw[R.o];refine congrArg (fun b=>Ending.returned (Value.bool b)) ?_;rw[Bool.eq_iff_iff,yes_iff];simp[qX.o,qZ.o,qX1.o,qL2.o,qL.o,qO0.o,qO1.o,qO2.o]
        ·have qO2:=Hd pO2;rw[hPO2] at pO2;have bO2:(q5l fl 1==2)=false:=beq_eq_false_iff_ne.2 pO2;clear pO2;go_enter func177,ntmps177;go_wp2_with (first|(go_at_call 173;refine(GX.o.at_ _).mono ?_;rintro _ _ ⟨rfl,e,rfl⟩)|(go_at_call 176;refine(GL.o.at_ _).mono ?_;rintro _ _ ⟨rfl,e,rfl⟩))
         all_goals
          go_ret;refine⟨?_,hx1.trans (y1i _)⟩;rw[R.o];refine congrArg (fun b=>Ending.returned (Value.bool b)) ?_;rw[Bool.eq_iff_iff,yes_iff];simp[qX.o,qZ.o,qX1.o,qL2.o,qL.o,qO0.o,qO1.o,qO2.o]
      ·have qO0:=Hd pO0;rw[hPO0] at pO0;have bO0:(q5l fl 0==5)=false:=beq_eq_false_iff_ne.2 pO0;clear pO0;go_enter func177,ntmps177;go_wp2_with (first|(go_at_call 173;refine(GX.o.at_ _).mono ?_;rintro _ _ ⟨rfl,e,rfl⟩)|(go_at_call 176;refine(GL.o.at_ _).mono ?_;rintro _ _ ⟨rfl,e,rfl⟩))
       all_goals
        go_ret;refine⟨?_,hx1.trans (y1i _)⟩;rw[R.o];refine congrArg (fun b=>Ending.returned (Value.bool b)) ?_;rw[Bool.eq_iff_iff,yes_iff];simp[qX.o,qZ.o,qX1.o,qL2.o,qL.o,qO0.o]
     ·have qL2:=Hd pL2;rw[hPL2] at pL2;have bL2:((fl.length:Int)==2)=false:=beq_eq_false_iff_ne.2 (by omega);clear pL2;go_enter func177,ntmps177;go_wp2_with (first|(go_at_call 173;refine(GX.o.at_ _).mono ?_;rintro _ _ ⟨rfl,e,rfl⟩)|(go_at_call 176;refine(GL.o.at_ _).mono ?_;rintro _ _ ⟨rfl,e,rfl⟩))
      all_goals
       go_ret;refine⟨?_,hx1.trans (y1i _)⟩;rw[R.o];refine congrArg (fun b=>Ending.returned (Value.bool b)) ?_;rw[Bool.eq_iff_iff,yes_iff];simp[qX.o,qZ.o,qX1.o,qL2.o]
    ·have qX1:=Hd pX1;rw[hPX1] at pX1;have bX1:((fx.length:Int)==1)=false:=beq_eq_false_iff_ne.2 (by omega);clear pX1;go_enter func177,ntmps177;go_wp2_with (first|(go_at_call 173;refine(GX.o.at_ _).mono ?_;rintro _ _ ⟨rfl,e,rfl⟩)|(go_at_call 176;refine(GL.o.at_ _).mono ?_;rintro _ _ ⟨rfl,e,rfl⟩))
     all_goals
      go_ret;refine⟨?_,hx1.trans (y1i _)⟩;rw[R.o];refine congrArg (fun b=>Ending.returned (Value.bool b)) ?_;rw[Bool.eq_iff_iff,yes_iff];simp[qX.o,qZ.o,qX1.o]
   ·have qL:=Hd pL;rw[yes_no.2 pL] at GL;clear pL;go_enter func177,ntmps177;go_wp2_with (first|(go_at_call 173;refine(GX.o.at_ _).mono ?_;rintro _ _ ⟨rfl,e,rfl⟩)|(go_at_call 176;refine(GL.o.at_ _).mono ?_;rintro _ _ ⟨rfl,e,rfl⟩))
    all_goals
     go_ret;refine⟨?_,hx1.trans (y1i _)⟩;rw[R.o];refine congrArg (fun b=>Ending.returned (Value.bool b)) ?_;rw[Bool.eq_iff_iff,yes_iff];simp[qX.o,qZ.o,qL.o]
  ·have qZ:=Hd pZ;rw[hPZ] at pZ;have hem:=z4a pZ;clear pZ;go_enter func177,ntmps177;go_wp2_with (first|(go_at_call 173;refine(GX.o.at_ _).mono ?_;rintro _ _ ⟨rfl,e,rfl⟩))
   all_goals
    go_ret;refine⟨?_,hx1.trans (y1i _)⟩;rw[R.o];refine congrArg (fun b=>Ending.returned (Value.bool b)) ?_;rw[Bool.eq_iff_iff,yes_iff];simp[qX.o,qZ.o]
 ·have qX:=Hd pX;rw[yes_no.2 pX] at GX;clear pX;go_enter func177,ntmps177;go_wp2_with (first|(go_at_call 173;refine(GX.o.at_ _).mono ?_;rintro _ _ ⟨rfl,e,rfl⟩))
  all_goals
   go_ret;refine⟨?_,hx1.trans (y1i _)⟩;rw[R.o];refine congrArg (fun b=>Ending.returned (Value.bool b)) ?_;rw[Bool.eq_iff_iff,yes_iff];simp[qX.o]
theorem k7w(B:Nat)(x:S)(hop:x.op=3)(hall:z2k B x.l)(harms:z3r B x.l)(hvx:∀z,z∈x.x→VX z)(hts:x.name.size<4294967281)(hsz:z0p x≤65536):z6c B x:=by
 intro w cs hT hR hB;obtain⟨v2,v3,rfl,hS2,hS3⟩:=RS_iff.1 hR;have hs0:1+z0e z0l x.x+z0e z0p x.l≤65536:=by rw[←z0w];exact hsz
 have hlnx:=z0b z0l x.x z1n;have hlnl:=z0b z0p x.l z1o;have o2:=hS2.oneCell;have o3:=hS3.oneCell;obtain⟨W1,e1,hV1,hx1,hs1,c0,c1,c2,c3⟩:=q2c w (.int .i64 x.op) (.string x.name) v2 v3 177;have hB1:B≤W1.heap.size:=y1k hB hx1.size
 have GX:=Hd (show ECalls Tryz.prog 173 #[v2,.func (.func 135) #[] #[]] W1 (.bool (yes (∀y,y∈x.x→MayX y))) from
  fun w' hw=>z4n B x.x (by omega) hvx w' v2 (hT.ext (hx1.trans hw)) (hS2.extRX (hx1.trans hw) hB) (y1k hB1 hw.size))
 have GL:=Hd (show ECalls Tryz.prog 176 #[v3,.func (.func 177) #[] #[]] W1 (.bool (yes (∀y,y∈x.l→MayS y))) from
  fun w' hw=>hall w' v3 (hT.ext (hx1.trans hw)) (hS3.extRS (hx1.trans hw) hB) (y1k hB1 hw.size))
 have GA:=Hd (show ECalls Tryz.prog 199 #[v3] W1 (.bool (yes (z4k x.l))) from
  fun w' hw=>harms w' v3 (hT.ext (hx1.trans hw)) (hS3.extRS (hx1.trans hw) hB) (y1k hB1 hw.size))
 have GN:=Hd (show ECalls Tryz.prog 134 #[.string x.name] W1 (.bool (z5t x.name)) from fun w' hw=>z3x x.name w' ((hT.ext (hx1.trans hw)).lib) hts);have hnil:=Hd (fun h:x.l.length=0=>z9j (P:=MayS) h);obtain⟨sa,scap,rfl,hsc,hsr⟩:=hS2;obtain⟨sb,tcap,rfl,htc,hrow⟩:=hS3;obtain⟨res,hres⟩:∃res,res=yes (MayS x):=⟨_,rfl⟩;rw[←hres];rw[z1h (y0h (x:=x) hop)] at hres;obtain⟨PX,hPX⟩:∃P:Prop,P=(∀y,y∈x.x→MayX y):=⟨_,rfl⟩;try rw[←hPX] at hres
 rw[←hPX] at GX;obtain⟨PZ,hPZ⟩:∃P:Prop,P=(x.name.size=0):=⟨_,rfl⟩;try rw[←hPZ] at hres
 obtain⟨PX1,hPX1⟩:∃P:Prop,P=(x.x.length=1):=⟨_,rfl⟩;try rw[←hPX1] at hres
 obtain⟨PA,hPA⟩:∃P:Prop,P=(z4k x.l):=⟨_,rfl⟩;try rw[←hPA] at hres
 rw[←hPA] at GA;have R:=Hd hres;clear hR hT hall harms hvx hs0 hsz hts o2 o3 hres hsc hsr htc;rw[hop] at c0 hV1⊢;generalize x.name=nm at*;generalize x.x=fx at*;generalize x.l=fl at*;clear hop hnil GL GN hrow;by_cases pX:PX
 ·have qX:=Hd pX;rw[yes_iff.2 pX] at GX;clear pX;by_cases pZ:PZ
  ·have qZ:=Hd pZ;rw[hPZ] at pZ;have hem:=z3b pZ;clear pZ;by_cases pX1:PX1
   ·have qX1:=Hd pX1;rw[hPX1] at pX1;have bX1:((fx.length:Int)==1)=true:=beq_iff_eq.2 (by omega);clear pX1;by_cases pA:PA
    ·have qA:=Hd pA;rw[yes_iff.2 pA] at GA;clear pA;go_enter func177,ntmps177;go_wp2_with (first|(go_at_call 173;refine(GX.o.at_ _).mono ?_;rintro _ _ ⟨rfl,e,rfl⟩)|(go_at_call 199;refine(GA.o.at_ _).mono ?_;rintro _ _ ⟨rfl,e,rfl⟩))
     all_goals
      go_ret;refine⟨?_,hx1.trans (y1i _)⟩;rw[R.o];refine congrArg (fun b=>Ending.returned (Value.bool b)) ?_;rw[Bool.eq_iff_iff,yes_iff];simp[qX.o,qZ.o,qX1.o,qA.o]
    ·have qA:=Hd pA;rw[yes_no.2 pA] at GA;clear pA;go_enter func177,ntmps177;go_wp2_with (first|(go_at_call 173;refine(GX.o.at_ _).mono ?_;rintro _ _ ⟨rfl,e,rfl⟩)|(go_at_call 199;refine(GA.o.at_ _).mono ?_;rintro _ _ ⟨rfl,e,rfl⟩))
     all_goals
      go_ret;refine⟨?_,hx1.trans (y1i _)⟩;rw[R.o];refine congrArg (fun b=>Ending.returned (Value.bool b)) ?_;rw[Bool.eq_iff_iff,yes_iff];simp[qX.o,qZ.o,qX1.o,qA.o]
   ·have qX1:=Hd pX1;rw[hPX1] at pX1;have bX1:((fx.length:Int)==1)=false:=beq_eq_false_iff_ne.2 (by omega);clear pX1;go_enter func177,ntmps177;go_wp2_with (first|(go_at_call 173;refine(GX.o.at_ _).mono ?_;rintro _ _ ⟨rfl,e,rfl⟩))
    all_goals
     go_ret;refine⟨?_,hx1.trans (y1i _)⟩;rw[R.o];refine congrArg (fun b=>Ending.returned (Value.bool b)) ?_;rw[Bool.eq_iff_iff,yes_iff];simp[qX.o,qZ.o,qX1.o]
  ·have qZ:=Hd pZ;rw[hPZ] at pZ;have hem:=z4a pZ;clear pZ;go_enter func177,ntmps177;go_wp2_with (first|(go_at_call 173;refine(GX.o.at_ _).mono ?_;rintro _ _ ⟨rfl,e,rfl⟩))
   all_goals
    go_ret;refine⟨?_,hx1.trans (y1i _)⟩;rw[R.o];refine congrArg (fun b=>Ending.returned (Value.bool b)) ?_;rw[Bool.eq_iff_iff,yes_iff];simp[qX.o,qZ.o]
 ·have qX:=Hd pX;rw[yes_no.2 pX] at GX;clear pX;go_enter func177,ntmps177;go_wp2_with (first|(go_at_call 173;refine(GX.o.at_ _).mono ?_;rintro _ _ ⟨rfl,e,rfl⟩))
  all_goals
   go_ret;refine⟨?_,hx1.trans (y1i _)⟩;rw[R.o];refine congrArg (fun b=>Ending.returned (Value.bool b)) ?_;rw[Bool.eq_iff_iff,yes_iff];simp[qX.o]
theorem k7v(B:Nat)(x:S)(hop:x.op=5)(hall:z2k B x.l)(harms:z3r B x.l)(hvx:∀z,z∈x.x→VX z)(hts:x.name.size<4294967281)(hsz:z0p x≤65536):z6c B x:=by
 intro w cs hT hR hB;obtain⟨v2,v3,rfl,hS2,hS3⟩:=RS_iff.1 hR;have hs0:1+z0e z0l x.x+z0e z0p x.l≤65536:=by rw[←z0w];exact hsz
 have hlnx:=z0b z0l x.x z1n;have hlnl:=z0b z0p x.l z1o;have o2:=hS2.oneCell;have o3:=hS3.oneCell;obtain⟨W1,e1,hV1,hx1,hs1,c0,c1,c2,c3⟩:=q2c w (.int .i64 x.op) (.string x.name) v2 v3 177;have hB1:B≤W1.heap.size:=y1k hB hx1.size
 have GX:=Hd (show ECalls Tryz.prog 173 #[v2,.func (.func 135) #[] #[]] W1 (.bool (yes (∀y,y∈x.x→MayX y))) from
  fun w' hw=>z4n B x.x (by omega) hvx w' v2 (hT.ext (hx1.trans hw)) (hS2.extRX (hx1.trans hw) hB) (y1k hB1 hw.size))
 have GL:=Hd (show ECalls Tryz.prog 176 #[v3,.func (.func 177) #[] #[]] W1 (.bool (yes (∀y,y∈x.l→MayS y))) from
  fun w' hw=>hall w' v3 (hT.ext (hx1.trans hw)) (hS3.extRS (hx1.trans hw) hB) (y1k hB1 hw.size))
 have GA:=Hd (show ECalls Tryz.prog 199 #[v3] W1 (.bool (yes (z4k x.l))) from
  fun w' hw=>harms w' v3 (hT.ext (hx1.trans hw)) (hS3.extRS (hx1.trans hw) hB) (y1k hB1 hw.size))
 have GN:=Hd (show ECalls Tryz.prog 134 #[.string x.name] W1 (.bool (z5t x.name)) from fun w' hw=>z3x x.name w' ((hT.ext (hx1.trans hw)).lib) hts);have hnil:=Hd (fun h:x.l.length=0=>z9j (P:=MayS) h);obtain⟨sa,scap,rfl,hsc,hsr⟩:=hS2;obtain⟨sb,tcap,rfl,htc,hrow⟩:=hS3;obtain⟨res,hres⟩:∃res,res=yes (MayS x):=⟨_,rfl⟩;rw[←hres];rw[z1h (y0g (x:=x) hop)] at hres;obtain⟨PX,hPX⟩:∃P:Prop,P=(∀y,y∈x.x→MayX y):=⟨_,rfl⟩;try rw[←hPX] at hres
 rw[←hPX] at GX;obtain⟨PZ,hPZ⟩:∃P:Prop,P=(x.name.size=0):=⟨_,rfl⟩;try rw[←hPZ] at hres
 obtain⟨PX0,hPX0⟩:∃P:Prop,P=(x.x.length=0):=⟨_,rfl⟩;try rw[←hPX0] at hres
 obtain⟨PL,hPL⟩:∃P:Prop,P=(∀y,y∈x.l→MayS y):=⟨_,rfl⟩;try rw[←hPL] at hres
 rw[←hPL] at GL;have R:=Hd hres;clear hR hT hall harms hvx hs0 hsz hts o2 o3 hres hsc hsr htc;rw[hop] at c0 hV1⊢;generalize x.name=nm at*;generalize x.x=fx at*;generalize x.l=fl at*;clear hop hnil GA GN hrow;by_cases pX:PX
 ·have qX:=Hd pX;rw[yes_iff.2 pX] at GX;clear pX;by_cases pZ:PZ
  ·have qZ:=Hd pZ;rw[hPZ] at pZ;have hem:=z3b pZ;clear pZ;by_cases pL:PL
   ·have qL:=Hd pL;rw[yes_iff.2 pL] at GL;clear pL;by_cases pX0:PX0
    ·have qX0:=Hd pX0;rw[hPX0] at pX0;have bX0:((fx.length:Int)==0)=true:=beq_iff_eq.2 (by omega);clear pX0;go_enter func177,ntmps177;go_wp2_with (first|(go_at_call 173;refine(GX.o.at_ _).mono ?_;rintro _ _ ⟨rfl,e,rfl⟩)|(go_at_call 176;refine(GL.o.at_ _).mono ?_;rintro _ _ ⟨rfl,e,rfl⟩))
     all_goals
      go_ret;refine⟨?_,hx1.trans (y1i _)⟩;rw[R.o];refine congrArg (fun b=>Ending.returned (Value.bool b)) ?_;rw[Bool.eq_iff_iff,yes_iff];simp[qX.o,qZ.o,qL.o,qX0.o]
    ·have qX0:=Hd pX0;rw[hPX0] at pX0;have bX0:((fx.length:Int)==0)=false:=beq_eq_false_iff_ne.2 (by omega);clear pX0;go_enter func177,ntmps177;go_wp2_with (first|(go_at_call 173;refine(GX.o.at_ _).mono ?_;rintro _ _ ⟨rfl,e,rfl⟩)|(go_at_call 176;refine(GL.o.at_ _).mono ?_;rintro _ _ ⟨rfl,e,rfl⟩))
     all_goals
      go_ret;refine⟨?_,hx1.trans (y1i _)⟩;rw[R.o];refine congrArg (fun b=>Ending.returned (Value.bool b)) ?_;rw[Bool.eq_iff_iff,yes_iff];simp[qX.o,qZ.o,qL.o,qX0.o]
   ·have qL:=Hd pL;rw[yes_no.2 pL] at GL;clear pL;go_enter func177,ntmps177;go_wp2_with (first|(go_at_call 173;refine(GX.o.at_ _).mono ?_;rintro _ _ ⟨rfl,e,rfl⟩)|(go_at_call 176;refine(GL.o.at_ _).mono ?_;rintro _ _ ⟨rfl,e,rfl⟩))
    all_goals
     go_ret;refine⟨?_,hx1.trans (y1i _)⟩;rw[R.o];refine congrArg (fun b=>Ending.returned (Value.bool b)) ?_;rw[Bool.eq_iff_iff,yes_iff];simp[qX.o,qZ.o,qL.o]
  ·have qZ:=Hd pZ;rw[hPZ] at pZ;have hem:=z4a pZ;clear pZ;go_enter func177,ntmps177;go_wp2_with (first|(go_at_call 173;refine(GX.o.at_ _).mono ?_;rintro _ _ ⟨rfl,e,rfl⟩))
   all_goals
    go_ret;refine⟨?_,hx1.trans (y1i _)⟩;rw[R.o];refine congrArg (fun b=>Ending.returned (Value.bool b)) ?_;rw[Bool.eq_iff_iff,yes_iff];simp[qX.o,qZ.o]
 ·have qX:=Hd pX;rw[yes_no.2 pX] at GX;clear pX;go_enter func177,ntmps177;go_wp2_with (first|(go_at_call 173;refine(GX.o.at_ _).mono ?_;rintro _ _ ⟨rfl,e,rfl⟩))
  all_goals
   go_ret;refine⟨?_,hx1.trans (y1i _)⟩;rw[R.o];refine congrArg (fun b=>Ending.returned (Value.bool b)) ?_;rw[Bool.eq_iff_iff,yes_iff];simp[qX.o]
theorem k7u(B:Nat)(x:S)(hop:x.op=6)(hall:z2k B x.l)(harms:z3r B x.l)(hvx:∀z,z∈x.x→VX z)(hts:x.name.size<4294967281)(hsz:z0p x≤65536):z6c B x:=by
 intro w cs hT hR hB;obtain⟨v2,v3,rfl,hS2,hS3⟩:=RS_iff.1 hR;have hs0:1+z0e z0l x.x+z0e z0p x.l≤65536:=by rw[←z0w];exact hsz
 have hlnx:=z0b z0l x.x z1n;have hlnl:=z0b z0p x.l z1o;have o2:=hS2.oneCell;have o3:=hS3.oneCell;obtain⟨W1,e1,hV1,hx1,hs1,c0,c1,c2,c3⟩:=q2c w (.int .i64 x.op) (.string x.name) v2 v3 177;have hB1:B≤W1.heap.size:=y1k hB hx1.size
 have GX:=Hd (show ECalls Tryz.prog 173 #[v2,.func (.func 135) #[] #[]] W1 (.bool (yes (∀y,y∈x.x→MayX y))) from
  fun w' hw=>z4n B x.x (by omega) hvx w' v2 (hT.ext (hx1.trans hw)) (hS2.extRX (hx1.trans hw) hB) (y1k hB1 hw.size))
 have GL:=Hd (show ECalls Tryz.prog 176 #[v3,.func (.func 177) #[] #[]] W1 (.bool (yes (∀y,y∈x.l→MayS y))) from
  fun w' hw=>hall w' v3 (hT.ext (hx1.trans hw)) (hS3.extRS (hx1.trans hw) hB) (y1k hB1 hw.size))
 have GA:=Hd (show ECalls Tryz.prog 199 #[v3] W1 (.bool (yes (z4k x.l))) from
  fun w' hw=>harms w' v3 (hT.ext (hx1.trans hw)) (hS3.extRS (hx1.trans hw) hB) (y1k hB1 hw.size))
 have GN:=Hd (show ECalls Tryz.prog 134 #[.string x.name] W1 (.bool (z5t x.name)) from fun w' hw=>z3x x.name w' ((hT.ext (hx1.trans hw)).lib) hts);have hnil:=Hd (fun h:x.l.length=0=>z9j (P:=MayS) h);obtain⟨sa,scap,rfl,hsc,hsr⟩:=hS2;obtain⟨sb,tcap,rfl,htc,hrow⟩:=hS3;obtain⟨res,hres⟩:∃res,res=yes (MayS x):=⟨_,rfl⟩;rw[←hres];rw[z1h (y0f (x:=x) hop)] at hres;obtain⟨PX,hPX⟩:∃P:Prop,P=(∀y,y∈x.x→MayX y):=⟨_,rfl⟩;try rw[←hPX] at hres
 rw[←hPX] at GX;obtain⟨PN,hPN⟩:∃P:Prop,P=(z2y x.name):=⟨_,rfl⟩;try rw[←hPN] at hres
 rw[←z7v] at GN;rw[←hPN] at GN;obtain⟨PX2,hPX2⟩:∃P:Prop,P=(x.x.length=2):=⟨_,rfl⟩;try rw[←hPX2] at hres
 obtain⟨PL,hPL⟩:∃P:Prop,P=(∀y,y∈x.l→MayS y):=⟨_,rfl⟩;try rw[←hPL] at hres
 rw[←hPL] at GL;have R:=Hd hres;clear hR hT hall harms hvx hs0 hsz hts o2 o3 hres hsc hsr htc;rw[hop] at c0 hV1⊢;generalize x.name=nm at*;generalize x.x=fx at*;generalize x.l=fl at*;clear hop hnil GA hrow;by_cases pX:PX
 ·have qX:=Hd pX;rw[yes_iff.2 pX] at GX;clear pX;by_cases pL:PL
  ·have qL:=Hd pL;rw[yes_iff.2 pL] at GL;clear pL;by_cases pN:PN
   ·have qN:=Hd pN;rw[yes_iff.2 pN] at GN;clear pN;by_cases pX2:PX2
    ·have qX2:=Hd pX2;rw[hPX2] at pX2;have bX2:((fx.length:Int)==2)=true:=beq_iff_eq.2 (by omega);have hlt:0<fx.length:=by omega
     clear pX2;go_enter func177,ntmps177;go_wp2_with (first|(go_at_call 173;refine(GX.o.at_ _).mono ?_;rintro _ _ ⟨rfl,e,rfl⟩)|(go_at_call 176;refine(GL.o.at_ _).mono ?_;rintro _ _ ⟨rfl,e,rfl⟩)|(go_at_call 134;refine(GN.o.at_ _).mono ?_;rintro _ _ ⟨rfl,e,rfl⟩))
     all_goals
      go_ret;refine⟨?_,hx1.trans (y1i _)⟩;rw[R.o];refine congrArg (fun b=>Ending.returned (Value.bool b)) ?_;rw[Bool.eq_iff_iff,yes_iff];simp[qX.o,qN.o,qL.o,qX2.o]
    ·have qX2:=Hd pX2;rw[hPX2] at pX2;have bX2:((fx.length:Int)==2)=false:=beq_eq_false_iff_ne.2 (by omega);clear pX2;go_enter func177,ntmps177;go_wp2_with (first|(go_at_call 173;refine(GX.o.at_ _).mono ?_;rintro _ _ ⟨rfl,e,rfl⟩)|(go_at_call 176;refine(GL.o.at_ _).mono ?_;rintro _ _ ⟨rfl,e,rfl⟩)|(go_at_call 134;refine(GN.o.at_ _).mono ?_;rintro _ _ ⟨rfl,e,rfl⟩))
     all_goals
      go_ret;refine⟨?_,hx1.trans (y1i _)⟩;rw[R.o];refine congrArg (fun b=>Ending.returned (Value.bool b)) ?_;rw[Bool.eq_iff_iff,yes_iff];simp[qX.o,qN.o,qL.o,qX2.o]
   ·have qN:=Hd pN;rw[yes_no.2 pN] at GN;clear pN;go_enter func177,ntmps177;go_wp2_with (first|(go_at_call 173;refine(GX.o.at_ _).mono ?_;rintro _ _ ⟨rfl,e,rfl⟩)|(go_at_call 176;refine(GL.o.at_ _).mono ?_;rintro _ _ ⟨rfl,e,rfl⟩)|(go_at_call 134;refine(GN.o.at_ _).mono ?_;rintro _ _ ⟨rfl,e,rfl⟩))
    all_goals
     go_ret;refine⟨?_,hx1.trans (y1i _)⟩;rw[R.o];refine congrArg (fun b=>Ending.returned (Value.bool b)) ?_;rw[Bool.eq_iff_iff,yes_iff];simp[qX.o,qN.o,qL.o]
  ·have qL:=Hd pL;rw[yes_no.2 pL] at GL;clear pL;go_enter func177,ntmps177;go_wp2_with (first|(go_at_call 173;refine(GX.o.at_ _).mono ?_;rintro _ _ ⟨rfl,e,rfl⟩)|(go_at_call 176;refine(GL.o.at_ _).mono ?_;rintro _ _ ⟨rfl,e,rfl⟩))
   all_goals
    go_ret;refine⟨?_,hx1.trans (y1i _)⟩;rw[R.o];refine congrArg (fun b=>Ending.returned (Value.bool b)) ?_;rw[Bool.eq_iff_iff,yes_iff];simp[qX.o,qL.o]
 ·have qX:=Hd pX;rw[yes_no.2 pX] at GX;clear pX;go_enter func177,ntmps177;go_wp2_with (first|(go_at_call 173;refine(GX.o.at_ _).mono ?_;rintro _ _ ⟨rfl,e,rfl⟩))
  all_goals
   go_ret;refine⟨?_,hx1.trans (y1i _)⟩;rw[R.o];refine congrArg (fun b=>Ending.returned (Value.bool b)) ?_;rw[Bool.eq_iff_iff,yes_iff];simp[qX.o]
theorem j1u(B:Nat)(l:List S)(hf:∀x,x∈l→z2k B x.l)(hvx:∀x,x∈l→∀z,z∈x.x→VX z)(hsz:z0e z0p l≤65536):z3r B l:=by
 intro w v hT hS hB;obtain⟨a,cap,rfl,hcap,hrow⟩:=hS;have HF:=Hd hf;have HVXA:=Hd hvx;have HT:=Hd hT;have hln:=z0b z0p l z1o;clear hf hvx hT;go_enter func199,ntmps199;go_wp2_with fail
 go_loopw [7] (fun i wr=>∃k:Nat,k≤l.length∧i=.int .i64 k∧(∀(i:Nat) (hi:i<l.length),i<k→MayArm (i+1=l.length) l[i])∧Ext w wr) (fun i _=>l.length - (intOf i).toNat)
 case atStart=>exact⟨0,y1p _,rfl,fun i _ h=>by omega,y1g _⟩
 case round=>
  obtain⟨k,hk,rfl,hpre,hx⟩:=hrel;by_cases hlt:k<l.length
  ·have hfk:=Hd (HF.o l[k] (y1l hlt));have HVX:=Hd (HVXA.o l[k] (y1l hlt));have hmm:=z0g z0p l l[k] (y1l hlt);have hsy:=z0w l[k];have hyes:=fun(h:MayArm (k+1=l.length) l[k]) (i:Nat) (hi:i<l.length) (hik:i<k+1)=>show MayArm (i+1=l.length) l[i] by
    by_cases e:i=k
    ·subst e;exact h
    ·exact hpre i hi (by omega)
   have hno:=fun(h:¬MayArm (k+1=l.length) l[k])=>yes_no.2 (fun(hm:z4k l)=>h (hm.2 k hlt))
   obtain⟨b,o,v0,v1,v2,v3,rfl,hbB,hR,hC,o0,o1,o2,o3⟩:=hrow.open4 hlt;obtain⟨a2,a3,hEq,hS2,hS3⟩:=RS_iff.1 hR;cases hEq;have hmemx:=Hd (fun z (hz:z∈l[k].x)=>z0g z0l l[k].x z hz);have hln2:=z0b z0l l[k].x z1n;have YES:=Hd (fun h=>hyes (MayArm_iff.2 h));have NO:=Hd (fun(h:¬_)=>hno (fun hm=>h (MayArm_iff.1 hm)));obtain⟨i0,i1,i2,i3⟩:=(hC.ext hx).get4;obtain⟨W1,e1,hV1,hx1,hs1,c0,c1,c2,c3⟩:=q2c wr (.int .i64 l[k].op) (.string l[k].name) v2 v3 177;have hxw:=hx.trans hx1;have hB1:B≤W1.heap.size:=y1k hB hxw.size
   have GX:=Hd (show ECalls Tryz.prog 173 #[v2,.func (.func 135) #[] #[]] W1 (.bool (yes (∀y,y∈l[k].x→MayX y))) from
    fun w' hw=>z4n B l[k].x (by omega) HVX.o w' v2 (HT.o.ext (hxw.trans hw)) (hS2.extRX (hxw.trans hw) hB) (y1k hB1 hw.size))
   have GL:=Hd (show ECalls Tryz.prog 176 #[v3,.func (.func 177) #[] #[]] W1 (.bool (yes (∀y,y∈l[k].l→MayS y))) from
    fun w' hw=>hfk.o w' v3 (HT.o.ext (hxw.trans hw)) (hS3.extRS (hxw.trans hw) hB) (y1k hB1 hw.size))
   have t3:=hS3.oneCell;obtain⟨sa,scap,rfl,hsc,hsr⟩:=hS2;clear hyes hno hpre hR hS3 hrow hsc hsr hC hfk HVX hmemx HF HVXA;generalize l[k].op=f0 at*;generalize l[k].name=f1 at*;generalize l[k].x=f2 at*;generalize l[k].l=f3 at*;generalize z0p l[k]=sy at*;by_cases h4:f0=4
   ·have h4b:(f0==4)=true:=beq_iff_eq.2 h4;have q4:=Hd h4;clear h4;by_cases hZ:f1.size=0
    ·have hem:=z3b hZ;have qZ:=Hd hZ;clear hZ;by_cases hz:f2.length=0
     ·have hab:((f2.length:Int)==0)=true:=beq_iff_eq.2 (by omega);have h0:=Hd hz;clear hz;by_cases hK:k+1=l.length
      ·have hbb:((k:Int)+1==(l.length:Int))=true:=beq_iff_eq.2 (by omega);have q0:=Hd (show(f2.length=0↔k+1=l.length) from⟨fun _=>hK,fun _=>h0.o⟩);clear hK;by_cases hX:∀z,z∈f2→MayX z
       ·rw[yes_iff.2 hX] at GX;have qX:=Hd hX;clear hX;by_cases hL:∀z,z∈f3→MayS z
        ·rw[yes_iff.2 hL] at GL;have hn:=Hd (YES.o ⟨q4.o,qZ.o,q0.o,qX.o,hL⟩);clear hL;go_wp2_with (first|(go_at_call 173;refine(GX.o.at_ _).mono ?_;rintro _ _ ⟨rfl,e,rfl⟩)|(go_at_call 176;refine(GL.o.at_ _).mono ?_;rintro _ _ ⟨rfl,e,rfl⟩))
         go_roundw;case rel=>exact⟨k+1,by omega,by go_num,hn.o,hxw.trans (y1i _)⟩
         case measure=>simp[intOf];omega
        ·rw[yes_no.2 hL] at GL;have hr:=Hd (NO.o (fun h=>hL h.2.2.2.2));clear hL;go_wp2_with (first|(go_at_call 173;refine(GX.o.at_ _).mono ?_;rintro _ _ ⟨rfl,e,rfl⟩)|(go_at_call 176;refine(GL.o.at_ _).mono ?_;rintro _ _ ⟨rfl,e,rfl⟩))
         go_ret;exact⟨by rw[hr.o];rfl,hxw.trans (y1i _)⟩
       ·rw[yes_no.2 hX] at GX;have hr:=Hd (NO.o (fun h=>hX h.2.2.2.1));clear hX;go_wp2_with (first|(go_at_call 173;refine(GX.o.at_ _).mono ?_;rintro _ _ ⟨rfl,e,rfl⟩)|(go_at_call 176;refine(GL.o.at_ _).mono ?_;rintro _ _ ⟨rfl,e,rfl⟩))
        go_ret;exact⟨by rw[hr.o];rfl,hxw.trans (y1i _)⟩
      ·have hbb:((k:Int)+1==(l.length:Int))=false:=beq_eq_false_iff_ne.2 (by omega);have hr:=Hd (NO.o (fun h=>hK (h.2.2.1.1 h0.o)));clear hK;go_wp2_with (first|(go_at_call 173;refine(GX.o.at_ _).mono ?_;rintro _ _ ⟨rfl,e,rfl⟩)|(go_at_call 176;refine(GL.o.at_ _).mono ?_;rintro _ _ ⟨rfl,e,rfl⟩))
       go_ret;exact⟨by rw[hr.o];rfl,hxw.trans (y1i _)⟩
     ·have hab:((f2.length:Int)==0)=false:=beq_eq_false_iff_ne.2 (by omega);have h0:=Hd hz;clear hz;by_cases hK:k+1=l.length
      ·have hbb:((k:Int)+1==(l.length:Int))=true:=beq_iff_eq.2 (by omega);have hr:=Hd (NO.o (fun h=>h0.o (h.2.2.1.2 hK)));clear hK;go_wp2_with (first|(go_at_call 173;refine(GX.o.at_ _).mono ?_;rintro _ _ ⟨rfl,e,rfl⟩)|(go_at_call 176;refine(GL.o.at_ _).mono ?_;rintro _ _ ⟨rfl,e,rfl⟩))
       go_ret;exact⟨by rw[hr.o];rfl,hxw.trans (y1i _)⟩
      ·have hbb:((k:Int)+1==(l.length:Int))=false:=beq_eq_false_iff_ne.2 (by omega);have q0:=Hd (show(f2.length=0↔k+1=l.length) from⟨fun h=>(h0.o h).elim,fun h=>(hK h).elim⟩);clear hK;by_cases hX:∀z,z∈f2→MayX z
       ·rw[yes_iff.2 hX] at GX;have qX:=Hd hX;clear hX;by_cases hL:∀z,z∈f3→MayS z
        ·rw[yes_iff.2 hL] at GL;have hn:=Hd (YES.o ⟨q4.o,qZ.o,q0.o,qX.o,hL⟩);clear hL;go_wp2_with (first|(go_at_call 173;refine(GX.o.at_ _).mono ?_;rintro _ _ ⟨rfl,e,rfl⟩)|(go_at_call 176;refine(GL.o.at_ _).mono ?_;rintro _ _ ⟨rfl,e,rfl⟩))
         go_roundw;case rel=>exact⟨k+1,by omega,by go_num,hn.o,hxw.trans (y1i _)⟩
         case measure=>simp[intOf];omega
        ·rw[yes_no.2 hL] at GL;have hr:=Hd (NO.o (fun h=>hL h.2.2.2.2));clear hL;go_wp2_with (first|(go_at_call 173;refine(GX.o.at_ _).mono ?_;rintro _ _ ⟨rfl,e,rfl⟩)|(go_at_call 176;refine(GL.o.at_ _).mono ?_;rintro _ _ ⟨rfl,e,rfl⟩))
         go_ret;exact⟨by rw[hr.o];rfl,hxw.trans (y1i _)⟩
       ·rw[yes_no.2 hX] at GX;have hr:=Hd (NO.o (fun h=>hX h.2.2.2.1));clear hX;go_wp2_with (first|(go_at_call 173;refine(GX.o.at_ _).mono ?_;rintro _ _ ⟨rfl,e,rfl⟩)|(go_at_call 176;refine(GL.o.at_ _).mono ?_;rintro _ _ ⟨rfl,e,rfl⟩))
        go_ret;exact⟨by rw[hr.o];rfl,hxw.trans (y1i _)⟩
    ·have hem:=z4a hZ;have hr:=Hd (NO.o (fun h=>hZ h.2.1));clear hZ;go_wp2_with (first|(go_at_call 173;refine(GX.o.at_ _).mono ?_;rintro _ _ ⟨rfl,e,rfl⟩)|(go_at_call 176;refine(GL.o.at_ _).mono ?_;rintro _ _ ⟨rfl,e,rfl⟩))
     go_ret;exact⟨by rw[hr.o];rfl,hxw.trans (y1i _)⟩
   ·have h4b:(f0==4)=false:=beq_eq_false_iff_ne.2 h4;have hr:=Hd (NO.o (fun h=>h4 h.1));go_wp2_with (first|(go_at_call 173;refine(GX.o.at_ _).mono ?_;rintro _ _ ⟨rfl,e,rfl⟩)|(go_at_call 176;refine(GL.o.at_ _).mono ?_;rintro _ _ ⟨rfl,e,rfl⟩))
    go_ret;exact⟨by rw[hr.o];rfl,hxw.trans (y1i _)⟩
  ·have hkl:k=l.length:=by omega
   subst hkl;by_cases hl:l.length=0
   ·have hr:=Hd (yes_no.2 (fun(hm:z4k l)=>by have:=hm.1;omega));have hlz:(l.length:Int)=0:=by omega
    clear hpre;go_wp2_with fail
    go_ret;exact⟨by rw[hr.o];rfl,hx⟩
   ·have hr:=Hd (yes_iff.2 (show z4k l from⟨by omega,fun i hi=>hpre i hi hi⟩));have hd:decide (0<l.length)=true:=decide_eq_true (by omega);clear hpre;go_wp2_with fail
    go_ret;exact⟨by rw[hr.o];rfl,hx⟩
theorem j6a(B:Nat)(x:S):VS x→z0p x≤65536→z6c B x∧z2k B x.l:=by
 induction x using S.ind with
 |h x ih=>
  intro hv hsz;obtain⟨hts,hvx,hvl⟩:=VS_iff.1 hv;have hs0:1+z0e z0l x.x+z0e z0p x.l≤65536:=by rw[←z0w];exact hsz
  have hln:=z0b z0p x.l z1o;have hone:∀y,y∈x.l→z6c B y∧z2k B y.l:=fun y hy=>ih y hy (hvl y hy) (by have:=z0g z0p x.l y hy;omega)
  have hall:z2k B x.l:=q6a B x.l (fun y hy=>(hone y hy).1) (by omega);have harms:z3r B x.l:=j1u B x.l (fun y hy=>(hone y hy).2) (fun y hy=>(VS_iff.1 (hvl y hy)).2.1) (by omega);refine⟨?_,hall⟩;by_cases h1:x.op=1
  ·exact k7y B x h1 hall harms hvx hts hsz
  by_cases h2:x.op=2
  ·exact k7x B x h2 hall harms hvx hts hsz
  by_cases h3:x.op=3
  ·exact k7w B x h3 hall harms hvx hts hsz
  by_cases h5:x.op=5
  ·exact k7v B x h5 hall harms hvx hts hsz
  by_cases h6:x.op=6
  ·exact k7u B x h6 hall harms hvx hts hsz
  exact k7z B x h1 h2 h3 h5 h6 hall harms hvx hts hsz
theorem k0c(B:Nat)(x:S)(hv:VS x)(hsz:z0p x≤65536):z6c B x:=(j6a B x hv hsz).1
theorem k0b(B:Nat)(l:List S)(hsz:z0e z0p l≤65536)(hv:∀y,y∈l→VS y):z2k B l:=
 q6a B l (fun y hy=>k0c B y (hv y hy) (by have:=z0g z0p l y hy;omega)) (by have:=z0b z0p l z1o;omega)
theorem q9w:Enters Tryz.prog 137:=⟨fun _ _=>by kernel_rfl⟩
theorem q9t:Enters Tryz.prog 133:=⟨fun _ _=>by kernel_rfl⟩
theorem q9v:Enters Tryz.prog 140:=⟨fun _ _=>by kernel_rfl⟩
theorem q9u:Enters Tryz.prog 91:=⟨fun _ _=>by kernel_rfl⟩
theorem k0j(B:Nat)(x:Bnd)(w:World)(cs:List Value)(hT:Tabs w)(hR:RB w B x cs)(hB:B≤w.heap.size)(hsz:z1c x≤65536)(hv:VB x):
 Calls Tryz.prog 137 #[.agg cs.toArray] w fun e w'=>e=.returned (.bool (yes (q3g x)))∧Ext w w':=by
 have hs0:1+z0l x.x≤65536:=hsz;obtain⟨cs,rfl,hX⟩:=hR;have HX:=Hd hX;obtain⟨v,rfl,hS⟩:=RX_iff.1 hX;have ho:=hS.oneCell;obtain⟨W1,e1,hV1,hx1,hs1,c0,c1,c2,c3,c4,c5,c6⟩:=k5a w (.string x.name) (.int .i64 x.x.op) (.string x.x.name) (.int .i64 x.x.n) (.int .i64 x.x.w) (.int .u64 x.x.v) v 45;have hB1:B≤W1.heap.size:=y1k hB hx1.size
 have G1:=Hd (show ECalls Tryz.prog 134 #[.string x.name] W1 (.bool (yes (z2y x.name))) from
  fun w' hw=>by rw[z7v];exact z3x x.name w' ((hT.ext (hx1.trans hw)).lib) hv.1)
 have G2:=Hd (show ECalls Tryz.prog 135 #[.agg #[.int .i64 x.x.op,.string x.x.name,.int .i64 x.x.n,.int .i64 x.x.w,.int .u64 x.x.v,v]] W1 (.bool (yes (MayX x.x))) from
  fun w' hw=>q0l B x.x w' _ (hT.ext (hx1.trans hw)) (HX.o.ext (hx1.trans hw) hB) (y1k hB1 hw.size) (by omega) hv.2)
 obtain⟨res,hres⟩:∃res,res=yes (q3g x):=⟨_,rfl⟩;rw[←hres];unfold q3g at hres;rw[q1a] at hres;have R:=Hd hres;clear hT hsz hv hs0 hres hS hX HX;generalize yes (z2y x.name)=b1 at*;generalize yes (MayX x.x)=b2 at*;cases b1
 all_goals
  go_enter func137,ntmps137
  go_wp2_with (first
   |(go_at_call 134;refine(G1.o.at_ _).mono ?_;rintro _ _ ⟨rfl,e,rfl⟩)
   |(go_at_call 135;refine(G2.o.at_ _).mono ?_;rintro _ _ ⟨rfl,e,rfl⟩))
  all_goals
   go_ret;exact⟨by rw[R.o];rfl,hx1.trans (y1i _)⟩
theorem k0e(B:Nat)(x:Prt)(w:World)(cs:List Value)(hT:Tabs w)(hR:RP w B x cs)(hB:B≤w.heap.size)(hsz:z3k x≤65536)(hv:VP x):
 Calls Tryz.prog 133 #[.agg cs.toArray] w fun e w'=>e=.returned (.bool (yes (k6a x)))∧Ext w w':=by
 have hs0:1+z0l x.w≤65536:=hsz;obtain⟨cs,rfl,hX⟩:=hR;have HX:=Hd hX;obtain⟨v,rfl,hS⟩:=RX_iff.1 hX;have ho:=hS.oneCell;obtain⟨W1,e1,hV1,hx1,hs1,c0,c1,c2,c3,c4,c5,c6,c7⟩:=y1b w (.string x.name) (.bool x.o) (.int .i64 x.w.op) (.string x.w.name) (.int .i64 x.w.n) (.int .i64 x.w.w) (.int .u64 x.w.v) v 42;have hB1:B≤W1.heap.size:=y1k hB hx1.size
 have G1:=Hd (show ECalls Tryz.prog 134 #[.string x.name] W1 (.bool (yes (z2y x.name))) from
  fun w' hw=>by rw[z7v];exact z3x x.name w' ((hT.ext (hx1.trans hw)).lib) hv.1)
 have G2:=Hd (show ECalls Tryz.prog 135 #[.agg #[.int .i64 x.w.op,.string x.w.name,.int .i64 x.w.n,.int .i64 x.w.w,.int .u64 x.w.v,v]] W1 (.bool (yes (MayX x.w))) from
  fun w' hw=>q0l B x.w w' _ (hT.ext (hx1.trans hw)) (HX.o.ext (hx1.trans hw) hB) (y1k hB1 hw.size) (by omega) hv.2)
 obtain⟨res,hres⟩:∃res,res=yes (k6a x):=⟨_,rfl⟩;rw[←hres];unfold k6a at hres;rw[q1a] at hres;have R:=Hd hres;clear hT hsz hv hs0 hres hS hX HX;generalize yes (z2y x.name)=b1 at*;generalize yes (MayX x.w)=b2 at*;cases b1
 all_goals
  go_enter func133,ntmps133
  go_wp2_with (first
   |(go_at_call 134;refine(G1.o.at_ _).mono ?_;rintro _ _ ⟨rfl,e,rfl⟩)
   |(go_at_call 135;refine(G2.o.at_ _).mono ?_;rintro _ _ ⟨rfl,e,rfl⟩))
  all_goals
   go_ret;exact⟨by rw[R.o];rfl,hx1.trans (y1i _)⟩
theorem j3x(s:ByteArray)(b:Bool)(w:World)(hT:Tabs w)(hs:s.size<4294967281):
 Calls Tryz.prog 174 #[.string s,.bool b] w fun e w'=>e=.returned (.bool (yes (z7k (b=true) s)))∧Ext w w':=by
 obtain⟨e0,he0⟩:=y1h (y1g w)
 have G1:=Hd (show ECalls Tryz.prog 134 #[.string s] w (.bool (yes (z2y s))) from
  fun w' hw=>by rw[z7v];exact z3x s w' ((hT.ext hw).lib) hs)
 obtain⟨res,hres⟩:∃res,res=yes (z7k (b=true) s):=⟨_,rfl⟩;rw[←hres];have R:=Hd hres;clear hT hres hs;suffices h:Calls Tryz.prog 174 #[.string s,.bool b] e0.w fun e w'=>e=.returned (.bool res)∧Ext w w' by rw[←he0] at h;exact h
 clear he0;by_cases hN:z2y s
 all_goals
  first|rw[yes_iff.2 hN] at G1|rw[yes_no.2 hN] at G1
  have qN:=Hd hN;clear hN;by_cases h0:s.size=0
  all_goals
   first|have hem:=z3b h0|have hem:=z4a h0
   have q0:=Hd h0;clear h0;cases b
   all_goals
    go_enter func174,ntmps174;go_wp2_with (go_at_call 134;refine(G1.o.at_ _).mono ?_;rintro _ _ ⟨rfl,e,rfl⟩)
    all_goals
     go_ret;refine⟨?_,y1i _⟩;rw[R.o];refine congrArg (fun b=>Ending.returned (Value.bool b)) ?_;rw[Bool.eq_iff_iff,yes_iff];unfold z7k;have h1:=qN.o;have h2:=q0.o;simp[h1,h2]
end Go.Proofs.YtlfmlodanoolhaaGreatDoor
