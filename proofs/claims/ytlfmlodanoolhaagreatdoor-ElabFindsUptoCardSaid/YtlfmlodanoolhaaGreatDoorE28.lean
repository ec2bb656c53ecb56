import Derived.Laws.ShiftsVarLaws
import Derived.Lib.MinMax
import Derived.Test.YtlfmlodanoolhaaGreatDoorE13
import Derived.Test.YtlfmlodanoolhaaGreatDoorE2
import Derived.Test.YtlfmlodanoolhaaGreatDoorE11
set_option linter.all false
set_option maxRecDepth 200000
set_option maxHeartbeats 32000000
namespace Go.Proofs.YtlfmlodanoolhaaGreatDoor
open Go Go.RowKit Go.Proofs.Tryz
attribute [local go_sem] z0f
theorem z2g(b:Bool)(w:World):Calls Tryz.prog 182 #[.bool b] w fun e w'=>e=.returned (.int .i64 (q4s b))∧w'=w:=by
 go_enter func182,ntmps182;cases b
 ·go_wp2
  go_ret;exact⟨rfl,rfl⟩
 ·go_wp2
  go_ret;exact⟨rfl,rfl⟩
theorem j1o(z:Int)(w:World):Calls Tryz.prog 213 #[.int .i64 z] w fun e w'=>e=.returned (.bool (decide (z1j z)))∧w'=w:=by
 by_cases h0:0≤z
 ·by_cases h1:z≤2147483647
  ·rw[decide_eq_true (show z1j z from⟨h0,h1⟩)];go_enter func213,ntmps213
   go_wp2
   go_ret;exact⟨rfl,rfl⟩
  ·rw[decide_eq_false (fun h:z1j z=>h1 h.2)];have h2:decide (z≤2147483647)=false:=by simpa using h1
   clear h1;go_enter func213,ntmps213
   go_wp2
   go_ret;exact⟨rfl,rfl⟩
 ·rw[decide_eq_false (fun h:z1j z=>h0 h.1)];have h2:z<0:=by omega
  clear h0;go_enter func213,ntmps213
  go_wp2
  go_ret;exact⟨rfl,rfl⟩
theorem z6m(z:Int)(w:World):Calls Tryz.prog 181 #[.int .i64 z] w fun e w'=>e=.returned (.tuple #[.int .i64 (z6g z).1,.int .i64 (z6g z).2])∧w'=w:=by
 have K:=Hd (fun w=>j1o z w);by_cases hz:z1j z
 ·rw[show z6g z=(z,0) from if_pos hz];rw[decide_eq_true hz] at K;clear hz;go_enter func181,ntmps181;go_wp2_with (go_at_call 213;refine(K.o _).mono ?_;rintro _ _ ⟨rfl,rfl⟩)
  go_ret2;exact⟨rfl,rfl⟩
 ·rw[show z6g z=(0,62) from if_neg hz];rw[decide_eq_false hz] at K;clear hz;go_enter func181,ntmps181;go_wp2_with (go_at_call 213;refine(K.o _).mono ?_;rintro _ _ ⟨rfl,rfl⟩)
  go_ret2;exact⟨rfl,rfl⟩
def fnV(f:Nat):Value:=.func (.func f) #[] #[]
theorem z2s(n:Int):MapKept.IsKey (.int .i64) (.int .i64 n):=rfl
def j1m(n:Int):Option Nat:=if n=14 then some 200 else if n=15 then some 201 else if n=16 then some 202 else if n=17 then some 203 else if n=18 then some 204 else if n=19 then some 205 else if n=20 then some 206 else if n=21 then some 207 else if n=22 then some 208 else if n=23 then some 209 else if n=24 then some 210 else if n=25 then some 211 else if n=26 then some 212 else none
def z7g(n:Int):Value:=match j1m n with|some f=>fnV f|none=>.nilFunc
noncomputable def k3p:List (Value×Value):=z8t (z8t (z8t (z8t (z8t (z8t (z8t (z8t (z8t (z8t (z8t (z8t (z8t [] (.int .i64 14) (fnV 200)) (.int .i64 15) (fnV 201)) (.int .i64 16) (fnV 202)) (.int .i64 17) (fnV 203)) (.int .i64 18) (fnV 204)) (.int .i64 19) (fnV 205)) (.int .i64 20) (fnV 206)) (.int .i64 21) (fnV 207)) (.int .i64 22) (fnV 208)) (.int .i64 23) (fnV 209)) (.int .i64 24) (fnV 210)) (.int .i64 25) (fnV 211)) (.int .i64 26) (fnV 212)
theorem k3o(n:Int):(z6p k3p (.int .i64 n)).getD .nilFunc=z7g n:=by
 unfold k3p;simp only[z7i,Value.int.injEq,true_and];unfold z7g j1m;by_cases h26:n=26
 ·subst h26;simp[z6p]
 rw[if_neg (fun e:(26:Int)=n=>h26 e.symm)];by_cases h25:n=25
 ·subst h25;simp[z6p]
 rw[if_neg (fun e:(25:Int)=n=>h25 e.symm)];by_cases h24:n=24
 ·subst h24;simp[z6p]
 rw[if_neg (fun e:(24:Int)=n=>h24 e.symm)];by_cases h23:n=23
 ·subst h23;simp[z6p]
 rw[if_neg (fun e:(23:Int)=n=>h23 e.symm)];by_cases h22:n=22
 ·subst h22;simp[z6p]
 rw[if_neg (fun e:(22:Int)=n=>h22 e.symm)];by_cases h21:n=21
 ·subst h21;simp[z6p]
 rw[if_neg (fun e:(21:Int)=n=>h21 e.symm)];by_cases h20:n=20
 ·subst h20;simp[z6p]
 rw[if_neg (fun e:(20:Int)=n=>h20 e.symm)];by_cases h19:n=19
 ·subst h19;simp[z6p]
 rw[if_neg (fun e:(19:Int)=n=>h19 e.symm)];by_cases h18:n=18
 ·subst h18;simp[z6p]
 rw[if_neg (fun e:(18:Int)=n=>h18 e.symm)];by_cases h17:n=17
 ·subst h17;simp[z6p]
 rw[if_neg (fun e:(17:Int)=n=>h17 e.symm)];by_cases h16:n=16
 ·subst h16;simp[z6p]
 rw[if_neg (fun e:(16:Int)=n=>h16 e.symm)];by_cases h15:n=15
 ·subst h15;simp[z6p]
 rw[if_neg (fun e:(15:Int)=n=>h15 e.symm)];by_cases h14:n=14
 ·subst h14;simp[z6p]
 rw[if_neg (fun e:(14:Int)=n=>h14 e.symm)];simp[z6p,h14,h15,h16,h17,h18,h19,h20,h21,h22,h23,h24,h25,h26]
theorem z8u(n:Int)(w:World):Calls Tryz.prog 180 #[.int .i64 n] w fun e w'=>e=.returned (z7g n)∧Ext w w':=by
 have ut:Tryz.prog.underlying 250=some (.map 3 228):=underlying250;have uk:Tryz.prog.underlying 3=some (.int .i64):=underlying3;have hz:∀w:World,(zeroValue 228).run Tryz.prog w=.ok .nilFunc w:=fun _=>by kernel_rfl
 obtain⟨W0,hW0⟩:∃W0,W0=w.alloc (.map #[] 0):=⟨_,rfl⟩;have m0:MV W0 w.heap.size []:=by rw[hW0];exact MV.new w
 have k0:∀p,p∈([]:List (Value×Value))→MapKept.IsKey (.int .i64) p.1:=fun p hp=>by cases hp
 have x0:Below w.heap.size w W0:=by rw[hW0];exact y1v _ _
 have s0:w.heap.size≤W0.heap.size:=x0.size;obtain⟨o1,u1,m1⟩:=m0.update ut uk (z2s 14) k0 (fnV 200);have k1:=z1l (v:=fnV 200) k0 (z2s 14);obtain⟨W1,hW1⟩:∃W1,W1=z4f W0 w.heap.size o1:=⟨_,rfl⟩;rw[←hW1] at u1 m1;have x1:Below w.heap.size w W1:=by rw[hW1];exact x0.trans (z0u (y1j _) x0.size)
 obtain⟨o2,u2,m2⟩:=m1.update ut uk (z2s 15) k1 (fnV 201);have k2:=z1l (v:=fnV 201) k1 (z2s 15);obtain⟨W2,hW2⟩:∃W2,W2=z4f W1 w.heap.size o2:=⟨_,rfl⟩;rw[←hW2] at u2 m2;have x2:Below w.heap.size w W2:=by rw[hW2];exact x1.trans (z0u (y1j _) x1.size)
 obtain⟨o3,u3,m3⟩:=m2.update ut uk (z2s 16) k2 (fnV 202);have k3:=z1l (v:=fnV 202) k2 (z2s 16);obtain⟨W3,hW3⟩:∃W3,W3=z4f W2 w.heap.size o3:=⟨_,rfl⟩;rw[←hW3] at u3 m3;have x3:Below w.heap.size w W3:=by rw[hW3];exact x2.trans (z0u (y1j _) x2.size)
 obtain⟨o4,u4,m4⟩:=m3.update ut uk (z2s 17) k3 (fnV 203);have k4:=z1l (v:=fnV 203) k3 (z2s 17);obtain⟨W4,hW4⟩:∃W4,W4=z4f W3 w.heap.size o4:=⟨_,rfl⟩;rw[←hW4] at u4 m4;have x4:Below w.heap.size w W4:=by rw[hW4];exact x3.trans (z0u (y1j _) x3.size)
 obtain⟨o5,u5,m5⟩:=m4.update ut uk (z2s 18) k4 (fnV 204);have k5:=z1l (v:=fnV 204) k4 (z2s 18);obtain⟨W5,hW5⟩:∃W5,W5=z4f W4 w.heap.size o5:=⟨_,rfl⟩;rw[←hW5] at u5 m5;have x5:Below w.heap.size w W5:=by rw[hW5];exact x4.trans (z0u (y1j _) x4.size)
 obtain⟨o6,u6,m6⟩:=m5.update ut uk (z2s 19) k5 (fnV 205);have k6:=z1l (v:=fnV 205) k5 (z2s 19);obtain⟨W6,hW6⟩:∃W6,W6=z4f W5 w.heap.size o6:=⟨_,rfl⟩;rw[←hW6] at u6 m6;have x6:Below w.heap.size w W6:=by rw[hW6];exact x5.trans (z0u (y1j _) x5.size)
 obtain⟨o7,u7,m7⟩:=m6.update ut uk (z2s 20) k6 (fnV 206);have k7:=z1l (v:=fnV 206) k6 (z2s 20);obtain⟨W7,hW7⟩:∃W7,W7=z4f W6 w.heap.size o7:=⟨_,rfl⟩;rw[←hW7] at u7 m7;have x7:Below w.heap.size w W7:=by rw[hW7];exact x6.trans (z0u (y1j _) x6.size)
 obtain⟨o8,u8,m8⟩:=m7.update ut uk (z2s 21) k7 (fnV 207);have k8:=z1l (v:=fnV 207) k7 (z2s 21);obtain⟨W8,hW8⟩:∃W8,W8=z4f W7 w.heap.size o8:=⟨_,rfl⟩;rw[←hW8] at u8 m8;have x8:Below w.heap.size w W8:=by rw[hW8];exact x7.trans (z0u (y1j _) x7.size)
 obtain⟨o9,u9,m9⟩:=m8.update ut uk (z2s 22) k8 (fnV 208);have k9:=z1l (v:=fnV 208) k8 (z2s 22);obtain⟨W9,hW9⟩:∃W9,W9=z4f W8 w.heap.size o9:=⟨_,rfl⟩;rw[←hW9] at u9 m9;have x9:Below w.heap.size w W9:=by rw[hW9];exact x8.trans (z0u (y1j _) x8.size)
 obtain⟨o10,u10,m10⟩:=m9.update ut uk (z2s 23) k9 (fnV 209);have k10:=z1l (v:=fnV 209) k9 (z2s 23);obtain⟨W10,hW10⟩:∃W10,W10=z4f W9 w.heap.size o10:=⟨_,rfl⟩;rw[←hW10] at u10 m10;have x10:Below w.heap.size w W10:=by rw[hW10];exact x9.trans (z0u (y1j _) x9.size)
 obtain⟨o11,u11,m11⟩:=m10.update ut uk (z2s 24) k10 (fnV 210);have k11:=z1l (v:=fnV 210) k10 (z2s 24);obtain⟨W11,hW11⟩:∃W11,W11=z4f W10 w.heap.size o11:=⟨_,rfl⟩;rw[←hW11] at u11 m11;have x11:Below w.heap.size w W11:=by rw[hW11];exact x10.trans (z0u (y1j _) x10.size)
 obtain⟨o12,u12,m12⟩:=m11.update ut uk (z2s 25) k11 (fnV 211);have k12:=z1l (v:=fnV 211) k11 (z2s 25);obtain⟨W12,hW12⟩:∃W12,W12=z4f W11 w.heap.size o12:=⟨_,rfl⟩;rw[←hW12] at u12 m12;have x12:Below w.heap.size w W12:=by rw[hW12];exact x11.trans (z0u (y1j _) x11.size)
 obtain⟨o13,u13,m13⟩:=m12.update ut uk (z2s 26) k12 (fnV 212);have k13:=z1l (v:=fnV 212) k12 (z2s 26);obtain⟨W13,hW13⟩:∃W13,W13=z4f W12 w.heap.size o13:=⟨_,rfl⟩;rw[←hW13] at u13 m13;have x13:Below w.heap.size w W13:=by rw[hW13];exact x12.trans (z0u (y1j _) x12.size)
 have hl:=(show MV W13 w.heap.size k3p from m13).lookup ut uk (z2s n) (show∀p,p∈k3p→MapKept.IsKey (.int .i64) p.1 from k13) (hz _) false;rw[k3o] at hl;simp only[Bool.false_eq_true,if_false] at hl;have hV0:=hW0.symm;have X13:=Hd x13;unfold fnV at u1 u2 u3 u4 u5 u6 u7 u8 u9 u10 u11 u12 u13;clear hz ut uk m0 k0 x0 m1 k1 x1 m2 k2 x2 m3 k3 x3 m4 k4 x4 m5 k5 x5 m6 k6 x6 m7 k7 x7 m8 k8 x8 m9 k9 x9 m10 k10 x10 m11 k11 x11 m12 k12 x12 m13 k13 x13 hW0 hW1 hW2 hW3 hW4 hW5 hW6 hW7 hW8 hW9 hW10 hW11 hW12 hW13 s0;obtain⟨v,hv⟩:∃v,v=z7g n:=⟨_,rfl⟩;rw[←hv] at hl⊢;clear hv;have hmm:=@run_makeMap Tryz.prog;go_enter func180,ntmps180
 go_wp2
 go_ret;exact⟨rfl,X13.o⟩
theorem k9a{a b:Int}(ha:0≤a)(ha':a≤2147483647)(hb:0≤b)(hb':b≤2147483647):0≤a*b∧a*b≤4611686014132420609:=by
 refine⟨Int.mul_nonneg ha hb,?_⟩;have:=Int.mul_le_mul ha' hb' hb (by decide:(0:Int)≤2147483647);simpa using this
theorem j7i(a b:Int)(w:World)(ha:0≤a)(ha':a≤2147483647)(hb:0≤b)(hb':b≤2147483647):Calls Tryz.prog 200 #[.int .i64 a,.int .i64 b] w fun e w'=>e=.returned (.int .i64 (z9x 14 a b))∧w'=w:=by
 rw[show z9x 14 a b=a+b from rfl];go_enter func200,ntmps200
 go_wp2
 go_ret;exact⟨rfl,rfl⟩
theorem j7h(a b:Int)(w:World)(ha:0≤a)(ha':a≤2147483647)(hb:0≤b)(hb':b≤2147483647):Calls Tryz.prog 201 #[.int .i64 a,.int .i64 b] w fun e w'=>e=.returned (.int .i64 (z9x 15 a b))∧w'=w:=by
 rw[show z9x 15 a b=a - b from rfl];go_enter func201,ntmps201
 go_wp2
 go_ret;exact⟨rfl,rfl⟩
theorem j7g(a b:Int)(w:World)(ha:0≤a)(ha':a≤2147483647)(hb:0≤b)(hb':b≤2147483647):Calls Tryz.prog 202 #[.int .i64 a,.int .i64 b] w fun e w'=>e=.returned (.int .i64 (z9x 16 a b))∧w'=w:=by
 rw[show z9x 16 a b=a*b from rfl];obtain⟨h1,h2⟩:=k9a ha ha' hb hb';go_enter func202,ntmps202
 go_wp2
 go_ret;exact⟨rfl,rfl⟩
theorem j7d(a b:Int)(w:World)(ha:0≤a)(ha':a≤2147483647)(hb:0≤b)(hb':b≤2147483647):Calls Tryz.prog 205 #[.int .i64 a,.int .i64 b] w fun e w'=>e=.returned (.int .i64 (z9x 19 a b))∧w'=w:=by
 rw[show z9x 19 a b=q4s (a==b) from rfl];have K:=Hd (fun w=>z2g (a==b) w);go_enter func205,ntmps205;go_wp2_with (go_at_call 182;refine(K.o _).mono ?_;rintro _ _ ⟨rfl,rfl⟩)
 go_ret;exact⟨rfl,rfl⟩
theorem j7c(a b:Int)(w:World)(ha:0≤a)(ha':a≤2147483647)(hb:0≤b)(hb':b≤2147483647):Calls Tryz.prog 206 #[.int .i64 a,.int .i64 b] w fun e w'=>e=.returned (.int .i64 (z9x 20 a b))∧w'=w:=by
 rw[show z9x 20 a b=q4s (a !=b) from rfl];have K:=Hd (fun w=>z2g (a !=b) w);go_enter func206,ntmps206;go_wp2_with (go_at_call 182;refine(K.o _).mono ?_;rintro _ _ ⟨rfl,rfl⟩)
 go_ret;exact⟨rfl,rfl⟩
theorem j7b(a b:Int)(w:World)(ha:0≤a)(ha':a≤2147483647)(hb:0≤b)(hb':b≤2147483647):Calls Tryz.prog 207 #[.int .i64 a,.int .i64 b] w fun e w'=>e=.returned (.int .i64 (z9x 21 a b))∧w'=w:=by
 rw[show z9x 21 a b=q4s (decide (a<b)) from rfl];have K:=Hd (fun w=>z2g (decide (a<b)) w);go_enter func207,ntmps207;go_wp2_with (go_at_call 182;refine(K.o _).mono ?_;rintro _ _ ⟨rfl,rfl⟩)
 go_ret;exact⟨rfl,rfl⟩
theorem j7a(a b:Int)(w:World)(ha:0≤a)(ha':a≤2147483647)(hb:0≤b)(hb':b≤2147483647):Calls Tryz.prog 208 #[.int .i64 a,.int .i64 b] w fun e w'=>e=.returned (.int .i64 (z9x 22 a b))∧w'=w:=by
 rw[show z9x 22 a b=q4s (decide (a≤b)) from rfl];have K:=Hd (fun w=>z2g (decide (a≤b)) w);go_enter func208,ntmps208;go_wp2_with (go_at_call 182;refine(K.o _).mono ?_;rintro _ _ ⟨rfl,rfl⟩)
 go_ret;exact⟨rfl,rfl⟩
theorem j6z(a b:Int)(w:World)(ha:0≤a)(ha':a≤2147483647)(hb:0≤b)(hb':b≤2147483647):Calls Tryz.prog 209 #[.int .i64 a,.int .i64 b] w fun e w'=>e=.returned (.int .i64 (z9x 23 a b))∧w'=w:=by
 rw[show z9x 23 a b=q4s (decide (b<a)) from rfl];have K:=Hd (fun w=>z2g (decide (b<a)) w);go_enter func209,ntmps209;go_wp2_with (go_at_call 182;refine(K.o _).mono ?_;rintro _ _ ⟨rfl,rfl⟩)
 go_ret;exact⟨rfl,rfl⟩
theorem j6y(a b:Int)(w:World)(ha:0≤a)(ha':a≤2147483647)(hb:0≤b)(hb':b≤2147483647):Calls Tryz.prog 210 #[.int .i64 a,.int .i64 b] w fun e w'=>e=.returned (.int .i64 (z9x 24 a b))∧w'=w:=by
 rw[show z9x 24 a b=q4s (decide (b≤a)) from rfl];have K:=Hd (fun w=>z2g (decide (b≤a)) w);go_enter func210,ntmps210;go_wp2_with (go_at_call 182;refine(K.o _).mono ?_;rintro _ _ ⟨rfl,rfl⟩)
 go_ret;exact⟨rfl,rfl⟩
theorem j6x(a b:Int)(w:World)(ha:0≤a)(ha':a≤2147483647)(hb:0≤b)(hb':b≤2147483647):Calls Tryz.prog 211 #[.int .i64 a,.int .i64 b] w fun e w'=>e=.returned (.int .i64 (z9x 25 a b))∧w'=w:=by
 rw[show z9x 25 a b=q4s (a !=0 && b !=0) from rfl];have K:=Hd (fun b w=>z2g b w);cases h1:(a !=0) with
 |true=>
  cases h2:(b !=0) with
  |true=>
   go_enter func211,ntmps211;go_wp2_with (go_at_call 182;refine(K.o _ _).mono ?_;rintro _ _ ⟨rfl,rfl⟩)
   go_ret;exact⟨rfl,rfl⟩
  |false=>
   go_enter func211,ntmps211;go_wp2_with (go_at_call 182;refine(K.o _ _).mono ?_;rintro _ _ ⟨rfl,rfl⟩)
   go_ret;exact⟨rfl,rfl⟩
 |false=>
  cases h2:(b !=0) with
  |true=>
   go_enter func211,ntmps211;go_wp2_with (go_at_call 182;refine(K.o _ _).mono ?_;rintro _ _ ⟨rfl,rfl⟩)
   go_ret;exact⟨rfl,rfl⟩
  |false=>
   go_enter func211,ntmps211;go_wp2_with (go_at_call 182;refine(K.o _ _).mono ?_;rintro _ _ ⟨rfl,rfl⟩)
   go_ret;exact⟨rfl,rfl⟩
theorem j6w(a b:Int)(w:World)(ha:0≤a)(ha':a≤2147483647)(hb:0≤b)(hb':b≤2147483647):Calls Tryz.prog 212 #[.int .i64 a,.int .i64 b] w fun e w'=>e=.returned (.int .i64 (z9x 26 a b))∧w'=w:=by
 rw[show z9x 26 a b=q4s (a !=0||b !=0) from rfl];have K:=Hd (fun b w=>z2g b w);cases h1:(a !=0) with
 |true=>
  cases h2:(b !=0) with
  |true=>
   go_enter func212,ntmps212;go_wp2_with (go_at_call 182;refine(K.o _ _).mono ?_;rintro _ _ ⟨rfl,rfl⟩)
   go_ret;exact⟨rfl,rfl⟩
  |false=>
   go_enter func212,ntmps212;go_wp2_with (go_at_call 182;refine(K.o _ _).mono ?_;rintro _ _ ⟨rfl,rfl⟩)
   go_ret;exact⟨rfl,rfl⟩
 |false=>
  cases h2:(b !=0) with
  |true=>
   go_enter func212,ntmps212;go_wp2_with (go_at_call 182;refine(K.o _ _).mono ?_;rintro _ _ ⟨rfl,rfl⟩)
   go_ret;exact⟨rfl,rfl⟩
  |false=>
   go_enter func212,ntmps212;go_wp2_with (go_at_call 182;refine(K.o _ _).mono ?_;rintro _ _ ⟨rfl,rfl⟩)
   go_ret;exact⟨rfl,rfl⟩
theorem j7e(a b:Int)(w:World)(ha:0≤a)(ha':a≤2147483647)(hb:0≤b)(hb':b≤2147483647):Calls Tryz.prog 204 #[.int .i64 a,.int .i64 b] w fun e w'=>e=.returned (.int .i64 (z9x 18 a b))∧w'=w:=by
 rw[show z9x 18 a b=a / 2 ^ (min b 63).toNat from rfl];have hm0:0≤min b 63:=by omega
 have hm1:min b 63≤63:=by omega
 go_enter func204,ntmps204
 go_wp2
 go_ret;exact⟨rfl,rfl⟩
theorem k1o:∀f x:Nat,x<2 ^ f→x<2 ^ Lib.bitLenAux f x∧(x≠0→2 ^ Lib.bitLenAux f x≤2*x)
 |0,x,h=>by simp at h;subst h;simp[Lib.bitLenAux]
 |f+1,x,h=>by
  unfold Lib.bitLenAux;by_cases hx:x=0
  ·rw[if_pos hx];subst hx;simp
  ·rw[if_neg hx];obtain⟨h1,h2⟩:=k1o f (x / 2) (by rw[Nat.pow_succ] at h;omega);have e:2 ^ (1+Lib.bitLenAux f (x / 2))=2*2 ^ Lib.bitLenAux f (x / 2):=by rw[Nat.add_comm,Nat.pow_succ];omega
   rw[e];refine⟨by omega,fun _=>?_⟩;by_cases hh:x / 2=0
   ·rw[hh] at h1⊢;have:Lib.bitLenAux f 0=0:=by cases f<;>simp[Lib.bitLenAux]
    rw[this];omega
   ·have:=h2 hh;omega
theorem j2x{a b:Int}(ha:0<a)(ha':a≤2147483647)(hb:0≤b):31<(Lib.bitLen a.toNat:Int)+b↔2147483647<a*2 ^ b.toNat:=by
 obtain⟨n,rfl⟩:=Int.eq_ofNat_of_zero_le (Int.le_of_lt ha);obtain⟨k,rfl⟩:=Int.eq_ofNat_of_zero_le hb
 have hn:n<2 ^ 64:=by have:(2:Nat) ^ 64=18446744073709551616:=by decide
                      omega
 obtain⟨h1,h2⟩:=k1o 64 n hn;have h2:=h2 (by omega);simp only[Int.toNat_natCast]
 change 31<((Lib.bitLenAux 64 n:Nat):Int)+(k:Int)↔_
 generalize Lib.bitLenAux 64 n=L at*;have e:((n:Int)*2 ^ k)=((n*2 ^ k:Nat):Int):=by push_cast;rfl
 rw[e];have e31:(2:Nat) ^ 31=2147483648:=by decide
 constructor
 ·intro h;have hL:2 ^ 32≤2 ^ (L+k):=Nat.pow_le_pow_right (by decide) (by omega);rw[Nat.pow_add] at hL;have h3:=Nat.mul_le_mul_right (2 ^ k) h2;have e32:(2:Nat) ^ 32=4294967296:=by decide
  have h4:2*n*2 ^ k=2*(n*2 ^ k):=by rw[Nat.mul_assoc]
  omega
 ·intro h;apply Decidable.byContradiction;intro hc;have hL:2 ^ (L+k)≤2 ^ 31:=Nat.pow_le_pow_right (by decide) (by omega);rw[Nat.pow_add] at hL;have h3:n*2 ^ k<2 ^ L*2 ^ k:=Nat.mul_lt_mul_of_pos_right h1 (Nat.pow_pos (by decide));omega
theorem y1d{a:Int}(ha:0<a)(ha':a≤2147483647):(Lib.bitLen a.toNat:Int)≤31:=by
 have h:=(j2x (b:=0) ha ha' (by decide)).1;simp at h;omega
theorem j7f(a b:Int)(w:World)(ha:0≤a)(ha':a≤2147483647)(hb:0≤b)(hb':b≤2147483647):Calls Tryz.prog 203 #[.int .i64 a,.int .i64 b] w fun e w'=>e=.returned (.int .i64 (z9x 17 a b))∧w'=w:=by
 rw[show z9x 17 a b=j2y a b from rfl];by_cases h0:a=0
 ·subst h0;rw[show j2y 0 b=0 from rfl];have KL:=Hd True.intro;go_enter func203,ntmps203
  go_wp2
  go_ret;exact⟨rfl,rfl⟩
 ·have hs:j2y a b=if 31≤b∨2147483647<a*2 ^ b.toNat then -1 else a*2 ^ b.toNat:=if_neg h0
  have h0':((a:Int)==0)=false:=by simpa using h0
  have hap:0<a:=by omega
  have KL:=Hd (fun w=>Tryz.bits_Len a w ha (by omega));have hov:=j2x hap ha' hb;have hle:=y1d hap ha';have hL0:(0:Int)≤(Lib.bitLen a.toNat:Int):=by omega
  by_cases hb31:31≤b
  ·rw[if_pos (.inl hb31)] at hs;rw[hs];clear hs hov h0;go_enter func203,ntmps203;go_wp2_with (go_at_call 222;refine(KL.o _).mono ?_;rintro _ _ ⟨rfl,rfl⟩)
   go_ret;exact⟨rfl,rfl⟩
  ·by_cases hob:31<(Lib.bitLen a.toNat:Int)+b
   ·rw[if_pos (.inr (hov.1 hob))] at hs;rw[hs];clear hs hov h0;go_enter func203,ntmps203;go_wp2_with (go_at_call 222;refine(KL.o _).mono ?_;rintro _ _ ⟨rfl,rfl⟩)
    go_ret;exact⟨rfl,rfl⟩
   ·have hno:¬2147483647<a*2 ^ b.toNat:=fun h=>hob (hov.2 h)
    rw[if_neg (by intro h;rcases h with h|h;exact hb31 h;exact hno h)] at hs;rw[hs];have hm0:0≤a*2 ^ b.toNat:=Int.mul_nonneg ha (Int.pow_nonneg (by decide));have hm1:a*2 ^ b.toNat≤2147483647:=by omega
    clear hs hov h0 hno;go_enter func203,ntmps203;go_wp2_with (go_at_call 222;refine(KL.o _).mono ?_;rintro _ _ ⟨rfl,rfl⟩)
    go_ret;exact⟨rfl,rfl⟩
theorem j5i{n:Int}(h:14≤n∧n≤26):∃f,j1m n=some f:=by
 have:n=14∨n=15∨n=16∨n=17∨n=18∨n=19∨n=20∨n=21∨n=22∨n=23∨n=24∨n=25∨n=26:=by omega
 rcases this with rfl|rfl|rfl|rfl|rfl|rfl|rfl|rfl|rfl|rfl|rfl|rfl|rfl<;>exact⟨_,rfl⟩
theorem q1o{n:Int}(h:¬(14≤n∧n≤26)):j1m n=none:=by
 unfold j1m;rw[if_neg (by omega)];rw[if_neg (by omega)];rw[if_neg (by omega)];rw[if_neg (by omega)];rw[if_neg (by omega)];rw[if_neg (by omega)];rw[if_neg (by omega)];rw[if_neg (by omega)];rw[if_neg (by omega)];rw[if_neg (by omega)];rw[if_neg (by omega)];rw[if_neg (by omega)];rw[if_neg (by omega)]
theorem j9c{n:Int}{f:Nat}(h:j1m n=some f)(a b:Int)(w:World)(ha:0≤a)(ha':a≤2147483647)(hb:0≤b)(hb':b≤2147483647):Calls Tryz.prog f #[.int .i64 a,.int .i64 b] w fun e w'=>e=.returned (.int .i64 (z9x n a b))∧w'=w:=by
 by_cases hr:14≤n∧n≤26
 ·have:n=14∨n=15∨n=16∨n=17∨n=18∨n=19∨n=20∨n=21∨n=22∨n=23∨n=24∨n=25∨n=26:=by omega
  rcases this with rfl|rfl|rfl|rfl|rfl|rfl|rfl|rfl|rfl|rfl|rfl|rfl|rfl
  ·have h:some 200=some f:=h;injection h with h;subst h;exact j7i a b w ha ha' hb hb'
  ·have h:some 201=some f:=h;injection h with h;subst h;exact j7h a b w ha ha' hb hb'
  ·have h:some 202=some f:=h;injection h with h;subst h;exact j7g a b w ha ha' hb hb'
  ·have h:some 203=some f:=h;injection h with h;subst h;exact j7f a b w ha ha' hb hb'
  ·have h:some 204=some f:=h;injection h with h;subst h;exact j7e a b w ha ha' hb hb'
  ·have h:some 205=some f:=h;injection h with h;subst h;exact j7d a b w ha ha' hb hb'
  ·have h:some 206=some f:=h;injection h with h;subst h;exact j7c a b w ha ha' hb hb'
  ·have h:some 207=some f:=h;injection h with h;subst h;exact j7b a b w ha ha' hb hb'
  ·have h:some 208=some f:=h;injection h with h;subst h;exact j7a a b w ha ha' hb hb'
  ·have h:some 209=some f:=h;injection h with h;subst h;exact j6z a b w ha ha' hb hb'
  ·have h:some 210=some f:=h;injection h with h;subst h;exact j6y a b w ha ha' hb hb'
  ·have h:some 211=some f:=h;injection h with h;subst h;exact j6x a b w ha ha' hb hb'
  ·have h:some 212=some f:=h;injection h with h;subst h;exact j6w a b w ha ha' hb hb'
 ·rw[q1o hr] at h;cases h
theorem q8t{n:Int}{f:Nat}(h:j1m n=some f):Enters Tryz.prog f:=by
 by_cases hr:14≤n∧n≤26
 ·have:n=14∨n=15∨n=16∨n=17∨n=18∨n=19∨n=20∨n=21∨n=22∨n=23∨n=24∨n=25∨n=26:=by omega
  rcases this with rfl|rfl|rfl|rfl|rfl|rfl|rfl|rfl|rfl|rfl|rfl|rfl|rfl
  ·have h:some 200=some f:=h;injection h with h;subst h;exact⟨fun _ _=>by kernel_rfl⟩
  ·have h:some 201=some f:=h;injection h with h;subst h;exact⟨fun _ _=>by kernel_rfl⟩
  ·have h:some 202=some f:=h;injection h with h;subst h;exact⟨fun _ _=>by kernel_rfl⟩
  ·have h:some 203=some f:=h;injection h with h;subst h;exact⟨fun _ _=>by kernel_rfl⟩
  ·have h:some 204=some f:=h;injection h with h;subst h;exact⟨fun _ _=>by kernel_rfl⟩
  ·have h:some 205=some f:=h;injection h with h;subst h;exact⟨fun _ _=>by kernel_rfl⟩
  ·have h:some 206=some f:=h;injection h with h;subst h;exact⟨fun _ _=>by kernel_rfl⟩
  ·have h:some 207=some f:=h;injection h with h;subst h;exact⟨fun _ _=>by kernel_rfl⟩
  ·have h:some 208=some f:=h;injection h with h;subst h;exact⟨fun _ _=>by kernel_rfl⟩
  ·have h:some 209=some f:=h;injection h with h;subst h;exact⟨fun _ _=>by kernel_rfl⟩
  ·have h:some 210=some f:=h;injection h with h;subst h;exact⟨fun _ _=>by kernel_rfl⟩
  ·have h:some 211=some f:=h;injection h with h;subst h;exact⟨fun _ _=>by kernel_rfl⟩
  ·have h:some 212=some f:=h;injection h with h;subst h;exact⟨fun _ _=>by kernel_rfl⟩
 ·rw[q1o hr] at h;cases h
def EnvM(w:World)(m:Nat)(env:ByteArray→Option Int):Prop:=∃L,MV w m L∧(∀p,p∈L→MapKept.IsKey .string p.1)∧∀s:ByteArray,z6p L (.string s)=(env s).map (Value.int .i64)
theorem EnvM.ext{w w':World}{m:Nat}{env:ByteArray→Option Int}(h:EnvM w m env)(hx:Ext w w'):EnvM w' m env:=by
 obtain⟨L,h1,h2,h3⟩:=h;exact⟨L,h1.ext hx,h2,h3⟩
theorem EnvM.look{w:World}{m:Nat}{env:ByteArray→Option Int}(h:EnvM w m env)(s:ByteArray):
 (Instr.lookup 93 (.map (some m)) (.string s) true).run Tryz.prog w=.ok (.tuple #[.int .i64 ((env s).getD 0),.bool (env s).isSome]) w:=by
 obtain⟨L,h1,h2,h3⟩:=h;have:=h1.lookup (et:=3) underlying93 underlying9 (k:=.string s) trivial h2 (z:=.int .i64 0) (by kernel_rfl) true;rw[this,h3];cases env s<;>rfl
def z5f(r:Int×Int):Value:=.tuple #[.int .i64 r.1,.int .i64 r.2]
theorem k2i{v:Int}(h:0≤v):z6g (min v 1099511627776)=z6g v:=by
 by_cases h1:v≤2147483647
 ·rw[show min v 1099511627776=v by omega]
 ·rw[show z6g v=(0,62) from if_neg (fun h:z1j v=>h1 h.2)];exact if_neg (fun h:z1j _=>by have:=h.2;omega)
def z5y(B m:Nat)(env:ByteArray→Option Int)(x:X):Prop:=∀(w:World) (cs:List Value),RX w B x cs→B≤w.heap.size→EnvM w m env→
 Calls Tryz.prog 146 #[.agg cs.toArray,.map (some m)] w fun e w'=>e=.returned (z5f (z1x env x))∧Ext w w'
theorem j9m(B m:Nat)(env:ByteArray→Option Int)(x:X)(h1:x.op=1)(h2:x.w=0)(IH:∀y,y∈x.l→z5y B m env y)(hmay:MayX x)(hv:VX x):z5y B m env x:=by
 intro w cs hR hB hE;have HR:=Hd hR;obtain⟨x5,rfl,hS⟩:=RX_iff.1 hR;have o5:=hS.oneCell;obtain⟨hv0,hv1,-,-⟩:=VX_iff.1 hv;obtain⟨⟨hpt,-,-,-⟩,-⟩:=MayX_iff.1 hmay;have hev:=z5b env x;obtain⟨W1,e1,hV1,hx1,hs1,c0,c1,c2,c3,c4,c5⟩:=z6b w (.int .i64 x.op) (.string x.name) (.int .i64 x.n) (.int .i64 x.w) (.int .u64 x.v) x5 40;have GM:=Hd (show ECalls Tryz.prog 180 #[.int .i64 x.n] W1 (z7g x.n) from fun w' hw=>z8u x.n w');have KT:=Hd (fun(z:Int) (w:World)=>z6m z w);have KB:=Hd (fun(b:Bool) (w:World)=>z2g b w);have hnf:∀w:World,(binOp BinOp.neq 228 .nilFunc .nilFunc).run Tryz.prog w=.ok (.bool false) w:=fun _=>by kernel_rfl
 have hff:∀(f:Nat) (w:World),(binOp BinOp.neq 228 (.func (.func f) #[] #[]) .nilFunc).run Tryz.prog w=.ok (.bool true) w:=fun _ _=>by kernel_rfl
 have Q01:=Hd hx1;have hev:z1x env x=z6g (min x.v 1099511627776):=by rw[hev];unfold q2y;rw[if_pos ⟨h1,h2⟩,k2i hv0]
 rw[hev];have hm0:0≤min x.v 1099511627776:=by omega
 have hm1:min x.v 1099511627776≤1099511627776:=by omega
 unfold z5f;clear hev hR hS HR hmay hv hpt IH hE hx1;generalize x.op=op at*;generalize x.w=wd at*;subst h1 h2;generalize z7g x.n=mv at*;go_enter func146,ntmps146
 go_wp2_with (first
  |(go_at_call 180;refine(GM.o.at_ _).mono ?_;rintro _ _ ⟨rfl,e,rfl⟩)
  |(go_at_call 181;refine(KT.o _ _).mono ?_;rintro _ _ ⟨rfl,rfl⟩)
  |(go_at_call 182;refine(KB.o _ _).mono ?_;rintro _ _ ⟨rfl,rfl⟩))
 go_ret2;exact⟨rfl,Q01.o.trans (y1i _)⟩
theorem j5o(B m:Nat)(env:ByteArray→Option Int)(x:X)(h1:x.op=2)(IH:∀y,y∈x.l→z5y B m env y)(hmay:MayX x)(hv:VX x):z5y B m env x:=by
 intro w cs hR hB hE;have HR:=Hd hR;obtain⟨x5,rfl,hS⟩:=RX_iff.1 hR;have o5:=hS.oneCell;obtain⟨hv0,hv1,-,-⟩:=VX_iff.1 hv;obtain⟨⟨hpt,-,-,-⟩,-⟩:=MayX_iff.1 hmay;have hev:=z5b env x;obtain⟨W1,e1,hV1,hx1,hs1,c0,c1,c2,c3,c4,c5⟩:=z6b w (.int .i64 x.op) (.string x.name) (.int .i64 x.n) (.int .i64 x.w) (.int .u64 x.v) x5 40;have GM:=Hd (show ECalls Tryz.prog 180 #[.int .i64 x.n] W1 (z7g x.n) from fun w' hw=>z8u x.n w');have KT:=Hd (fun(z:Int) (w:World)=>z6m z w);have KB:=Hd (fun(b:Bool) (w:World)=>z2g b w);have hnf:∀w:World,(binOp BinOp.neq 228 .nilFunc .nilFunc).run Tryz.prog w=.ok (.bool false) w:=fun _=>by kernel_rfl
 have hff:∀(f:Nat) (w:World),(binOp BinOp.neq 228 (.func (.func f) #[] #[]) .nilFunc).run Tryz.prog w=.ok (.bool true) w:=fun _ _=>by kernel_rfl
 have Q01:=Hd hx1;have hev:z1x env x=j8z (env x.name):=by rw[hev];unfold q2y;rw[if_neg (by omega),if_pos h1]
 rw[hev];have hlk:=fun e:Later W1=>(hE.ext (hx1.trans e.ext)).look x.name
 unfold z5f;clear hev hR hS HR hmay hv hpt IH hE hx1;generalize x.op=op at*;subst h1;generalize z7g x.n=mv at*;cases hz:env x.name with
 |none=>
  rw[hz] at hlk;rw[show j8z none=(0,60) from rfl];simp only[Option.getD_none,Option.isSome_none] at hlk;clear hz;go_enter func146,ntmps146;go_wp2_with (first
  |(go_at_call 180;refine(GM.o.at_ _).mono ?_;rintro _ _ ⟨rfl,e,rfl⟩)
  |(go_at_call 181;refine(KT.o _ _).mono ?_;rintro _ _ ⟨rfl,rfl⟩)
  |(go_at_call 182;refine(KB.o _ _).mono ?_;rintro _ _ ⟨rfl,rfl⟩))
  go_ret2;exact⟨rfl,Q01.o.trans (y1i _)⟩
 |some z=>
  rw[hz] at hlk;rw[show j8z (some z)=z6g z from rfl];simp only[Option.getD_some,Option.isSome_some] at hlk;clear hz;go_enter func146,ntmps146;go_wp2_with (first
  |(go_at_call 180;refine(GM.o.at_ _).mono ?_;rintro _ _ ⟨rfl,e,rfl⟩)
  |(go_at_call 181;refine(KT.o _ _).mono ?_;rintro _ _ ⟨rfl,rfl⟩)
  |(go_at_call 182;refine(KB.o _ _).mono ?_;rintro _ _ ⟨rfl,rfl⟩))
  go_ret2;exact⟨rfl,Q01.o.trans (y1i _)⟩
theorem k3u(B m:Nat)(env:ByteArray→Option Int)(x:X)(h1:¬(x.op=1∧x.w=0))(h2:x.op≠2)(h3:¬opK x.op x.n)(IH:∀y,y∈x.l→z5y B m env y)(hmay:MayX x)(hv:VX x):z5y B m env x:=by
 intro w cs hR hB hE;have HR:=Hd hR;obtain⟨x5,rfl,hS⟩:=RX_iff.1 hR;have o5:=hS.oneCell;obtain⟨hv0,hv1,-,-⟩:=VX_iff.1 hv;obtain⟨⟨hpt,-,-,-⟩,-⟩:=MayX_iff.1 hmay;have hev:=z5b env x;obtain⟨W1,e1,hV1,hx1,hs1,c0,c1,c2,c3,c4,c5⟩:=z6b w (.int .i64 x.op) (.string x.name) (.int .i64 x.n) (.int .i64 x.w) (.int .u64 x.v) x5 40;have GM:=Hd (show ECalls Tryz.prog 180 #[.int .i64 x.n] W1 (z7g x.n) from fun w' hw=>z8u x.n w');have KT:=Hd (fun(z:Int) (w:World)=>z6m z w);have KB:=Hd (fun(b:Bool) (w:World)=>z2g b w);have hnf:∀w:World,(binOp BinOp.neq 228 .nilFunc .nilFunc).run Tryz.prog w=.ok (.bool false) w:=fun _=>by kernel_rfl
 have hff:∀(f:Nat) (w:World),(binOp BinOp.neq 228 (.func (.func f) #[] #[]) .nilFunc).run Tryz.prog w=.ok (.bool true) w:=fun _ _=>by kernel_rfl
 have Q01:=Hd hx1;have hev:z1x env x=(0,61):=by rw[hev];unfold q2y;rw[if_neg h1,if_neg h2,if_neg h3]
 rw[hev];unfold z5f;have hn6:x.op=6→z7g x.n=.nilFunc:=fun h=>by
  unfold z7g;rw[q1o (fun hr=>h3 (.inr (.inl ⟨h,hr.1,hr.2⟩)))]
 have hb2:((x.op:Int)==2)=false:=by simpa using h2
 have hb7:((x.op:Int)==7)=false:=by simpa using(fun h:x.op=7=>h3 (.inr (.inr h)))
 have h56:((x.op:Int)==5)=false∨((x.n:Int)==6)=false:=by
  by_cases h:x.op=5
  ·right;simpa using(fun h':x.n=6=>h3 (.inl ⟨h,h'⟩))
  ·left;simpa using h
 have h10:((x.op:Int)==1)=false∨((x.w:Int)==0)=false:=by
  by_cases h:x.op=1
  ·right;simpa using(fun h':x.w=0=>h1 ⟨h,h'⟩)
  ·left;simpa using h
 have H:=Hd (y1x h56 h10);clear hev hR hS HR hmay hv hpt IH hE hx1 h1 h2 h3 h56 h10;by_cases h6:x.op=6
 ·rw[hn6 h6] at GM;clear hn6 H hb2 hb7;generalize x.op=op at*;subst h6;go_enter func146,ntmps146;go_wp2_with (first
  |(go_at_call 180;refine(GM.o.at_ _).mono ?_;rintro _ _ ⟨rfl,e,rfl⟩)
  |(go_at_call 181;refine(KT.o _ _).mono ?_;rintro _ _ ⟨rfl,rfl⟩)
  |(go_at_call 182;refine(KB.o _ _).mono ?_;rintro _ _ ⟨rfl,rfl⟩))
  all_goals
   go_ret2;exact⟨rfl,Q01.o.trans (y1i _)⟩
 ·have hb6:((x.op:Int)==6)=false:=by simpa using h6
  clear h6 hn6;generalize z7g x.n=mv at*;obtain⟨h56,h10⟩:=H.o;rcases h56 with h56|h56<;>rcases h10 with h10|h10
  all_goals
   clear H;go_enter func146,ntmps146;go_wp2_with (first
  |(go_at_call 180;refine(GM.o.at_ _).mono ?_;rintro _ _ ⟨rfl,e,rfl⟩)
  |(go_at_call 181;refine(KT.o _ _).mono ?_;rintro _ _ ⟨rfl,rfl⟩)
  |(go_at_call 182;refine(KB.o _ _).mono ?_;rintro _ _ ⟨rfl,rfl⟩))
   all_goals
    go_ret2;exact⟨rfl,Q01.o.trans (y1i _)⟩
theorem j9n(B m:Nat)(env:ByteArray→Option Int)(x:X)(h1:x.op=5)(h2:x.n=6)(IH:∀y,y∈x.l→z5y B m env y)(hmay:MayX x)(hv:VX x):z5y B m env x:=by
 intro w cs hR hB hE;have HR:=Hd hR;obtain⟨x5,rfl,hS⟩:=RX_iff.1 hR;have o5:=hS.oneCell;obtain⟨hv0,hv1,-,-⟩:=VX_iff.1 hv;obtain⟨⟨hpt,-,-,-⟩,-⟩:=MayX_iff.1 hmay;have hev:=z5b env x;obtain⟨W1,e1,hV1,hx1,hs1,c0,c1,c2,c3,c4,c5⟩:=z6b w (.int .i64 x.op) (.string x.name) (.int .i64 x.n) (.int .i64 x.w) (.int .u64 x.v) x5 40;have GM:=Hd (show ECalls Tryz.prog 180 #[.int .i64 x.n] W1 (z7g x.n) from fun w' hw=>z8u x.n w');have KT:=Hd (fun(z:Int) (w:World)=>z6m z w);have KB:=Hd (fun(b:Bool) (w:World)=>z2g b w);have hnf:∀w:World,(binOp BinOp.neq 228 .nilFunc .nilFunc).run Tryz.prog w=.ok (.bool false) w:=fun _=>by kernel_rfl
 have hff:∀(f:Nat) (w:World),(binOp BinOp.neq 228 (.func (.func f) #[] #[]) .nilFunc).run Tryz.prog w=.ok (.bool true) w:=fun _ _=>by kernel_rfl
 have Q01:=Hd hx1;have hlen:x.l.length=1:=by unfold z4u at hpt;omega
 obtain⟨ax,capx,rfl,hcapx,hrow⟩:=hS;have hl0:0<x.l.length:=by omega
 have IH0:=IH x.l[0] (y1l hl0);obtain⟨b0,o0,u00,u01,u02,u03,u04,u05,hab0,hbB0,hRk0,hCk0,-,-,-,-,-,-⟩:=hrow.open6 hl0;have KE0:=Hd (show ECalls Tryz.prog 146 #[.agg #[u00,u01,u02,u03,u04,u05],.map (some m)] W1 (z5f (z1x env x.l[0])) from fun w' hw=>IH0 w' _ (hRk0.ext (hx1.trans hw) hB) (y1k (y1k hB hx1.size) hw.size) (hE.ext (hx1.trans hw)));obtain⟨d00,d01,d02,d03,d04,d05⟩:=(hCk0.ext hx1).later6;clear IH0 hRk0 hCk0;have hev:z1x env x=if(z1x env x.l[0]).2≠0 then((0:Int),(z1x env x.l[0]).2) else(q4s ((z1x env x.l[0]).1==0),(0:Int)):=by
  rw[hev];unfold q2y;rw[if_neg (by omega),if_neg (by omega),if_pos (.inl ⟨h1,h2⟩),if_pos h1];simp[hlen]
 rw[hev];generalize z1x env x.l[0]=r0 at*;obtain⟨r01,r02⟩:=r0;subst hab0;unfold z5f at*;simp only at KE0⊢;clear hev hR HR hmay hv hpt IH hE hx1 hrow hlen hcapx;generalize x.op=op at*;generalize x.n=nn at*;subst h1 h2;generalize z7g 6=mv at*;simp only[Nat.zero_mul,Nat.one_mul,Nat.add_zero,Nat.reduceMul,Nat.reduceAdd,Nat.add_assoc] at d00 d01 d02 d03 d04 d05;by_cases he:r02=0
 ·subst he;rw[if_neg (by simp)];go_enter func146,ntmps146;go_wp2_with (first
  |(go_at_call 180;refine(GM.o.at_ _).mono ?_;rintro _ _ ⟨rfl,e,rfl⟩)
  |(go_at_call 181;refine(KT.o _ _).mono ?_;rintro _ _ ⟨rfl,rfl⟩)
  |(go_at_call 182;refine(KB.o _ _).mono ?_;rintro _ _ ⟨rfl,rfl⟩)
  |(go_at_call 146;with_reducible refine(KE0.o.at_ _).mono ?_;rintro _ _ ⟨rfl,e,rfl⟩))
  go_ret2;exact⟨rfl,Q01.o.trans (y1i _)⟩
 ·rw[if_pos he];have he':((r02:Int)==0)=false:=by simpa using he
  have he2:((r02:Int) !=0)=true:=by simpa using he
  clear he;go_enter func146,ntmps146;go_wp2_with (first
  |(go_at_call 180;refine(GM.o.at_ _).mono ?_;rintro _ _ ⟨rfl,e,rfl⟩)
  |(go_at_call 181;refine(KT.o _ _).mono ?_;rintro _ _ ⟨rfl,rfl⟩)
  |(go_at_call 182;refine(KB.o _ _).mono ?_;rintro _ _ ⟨rfl,rfl⟩)
  |(go_at_call 146;with_reducible refine(KE0.o.at_ _).mono ?_;rintro _ _ ⟨rfl,e,rfl⟩))
  go_ret2;exact⟨rfl,Q01.o.trans (y1i _)⟩
theorem j5p(B m:Nat)(env:ByteArray→Option Int)(x:X)(h1:x.op=7)(IH:∀y,y∈x.l→z5y B m env y)(hmay:MayX x)(hv:VX x):z5y B m env x:=by
 intro w cs hR hB hE;have HR:=Hd hR;obtain⟨x5,rfl,hS⟩:=RX_iff.1 hR;have o5:=hS.oneCell;obtain⟨hv0,hv1,-,-⟩:=VX_iff.1 hv;obtain⟨⟨hpt,-,-,-⟩,-⟩:=MayX_iff.1 hmay;have hev:=z5b env x;obtain⟨W1,e1,hV1,hx1,hs1,c0,c1,c2,c3,c4,c5⟩:=z6b w (.int .i64 x.op) (.string x.name) (.int .i64 x.n) (.int .i64 x.w) (.int .u64 x.v) x5 40;have GM:=Hd (show ECalls Tryz.prog 180 #[.int .i64 x.n] W1 (z7g x.n) from fun w' hw=>z8u x.n w');have KT:=Hd (fun(z:Int) (w:World)=>z6m z w);have KB:=Hd (fun(b:Bool) (w:World)=>z2g b w);have hnf:∀w:World,(binOp BinOp.neq 228 .nilFunc .nilFunc).run Tryz.prog w=.ok (.bool false) w:=fun _=>by kernel_rfl
 have hff:∀(f:Nat) (w:World),(binOp BinOp.neq 228 (.func (.func f) #[] #[]) .nilFunc).run Tryz.prog w=.ok (.bool true) w:=fun _ _=>by kernel_rfl
 have Q01:=Hd hx1;have hlen:x.l.length=3:=by unfold z4u at hpt;omega
 obtain⟨ax,capx,rfl,hcapx,hrow⟩:=hS;have hl0:0<x.l.length:=by omega
 have IH0:=IH x.l[0] (y1l hl0);obtain⟨b0,o0,u00,u01,u02,u03,u04,u05,hab0,hbB0,hRk0,hCk0,-,-,-,-,-,-⟩:=hrow.open6 hl0;have KE0:=Hd (show ECalls Tryz.prog 146 #[.agg #[u00,u01,u02,u03,u04,u05],.map (some m)] W1 (z5f (z1x env x.l[0])) from fun w' hw=>IH0 w' _ (hRk0.ext (hx1.trans hw) hB) (y1k (y1k hB hx1.size) hw.size) (hE.ext (hx1.trans hw)));obtain⟨d00,d01,d02,d03,d04,d05⟩:=(hCk0.ext hx1).later6;clear IH0 hRk0 hCk0;have hl1:1<x.l.length:=by omega
 have IH1:=IH x.l[1] (y1l hl1);obtain⟨b1,o1,u10,u11,u12,u13,u14,u15,hab1,hbB1,hRk1,hCk1,-,-,-,-,-,-⟩:=hrow.open6 hl1;have KE1:=Hd (show ECalls Tryz.prog 146 #[.agg #[u10,u11,u12,u13,u14,u15],.map (some m)] W1 (z5f (z1x env x.l[1])) from fun w' hw=>IH1 w' _ (hRk1.ext (hx1.trans hw) hB) (y1k (y1k hB hx1.size) hw.size) (hE.ext (hx1.trans hw)));obtain⟨d10,d11,d12,d13,d14,d15⟩:=(hCk1.ext hx1).later6;clear IH1 hRk1 hCk1;have hl2:2<x.l.length:=by omega
 have IH2:=IH x.l[2] (y1l hl2);obtain⟨b2,o2,u20,u21,u22,u23,u24,u25,hab2,hbB2,hRk2,hCk2,-,-,-,-,-,-⟩:=hrow.open6 hl2;have KE2:=Hd (show ECalls Tryz.prog 146 #[.agg #[u20,u21,u22,u23,u24,u25],.map (some m)] W1 (z5f (z1x env x.l[2])) from fun w' hw=>IH2 w' _ (hRk2.ext (hx1.trans hw) hB) (y1k (y1k hB hx1.size) hw.size) (hE.ext (hx1.trans hw)));obtain⟨d20,d21,d22,d23,d24,d25⟩:=(hCk2.ext hx1).later6;clear IH2 hRk2 hCk2;have KB0:=Hd (show ECalls Tryz.prog 182 #[.bool false] W1 (.int .i64 0) from ECalls.still fun w' _=>z2g false w');have KB1:=Hd (show ECalls Tryz.prog 182 #[.bool true] W1 (.int .i64 1) from ECalls.still fun w' _=>z2g true w');have hev:z1x env x=if(z1x env x.l[0]).2≠0 then((0:Int),(z1x env x.l[0]).2) else if(z1x env x.l[0]).1=0 then z1x env x.l[2] else z1x env x.l[1]:=by
  rw[hev];unfold q2y;rw[if_neg (by omega),if_neg (by omega),if_pos (.inr (.inr h1)),if_neg (show¬x.op=5 by omega),if_pos h1];by_cases hz:(z1x env x.l[0]).1=0
  ·simp[hlen,hz]
  ·simp[hlen,hz]
 rw[hev];generalize z1x env x.l[0]=r0 at*;generalize z1x env x.l[1]=r1 at*;generalize z1x env x.l[2]=r2 at*;obtain⟨r01,r02⟩:=r0;obtain⟨r11,r12⟩:=r1;obtain⟨r21,r22⟩:=r2;subst hab0;obtain⟨rfl,rfl⟩:b0=b1∧o0=o1:=by simpa using hab1
 obtain⟨rfl,rfl⟩:b0=b2∧o0=o2:=by simpa using hab2
 unfold z5f at*;simp only at KE0 KE1 KE2⊢;clear hev hR HR hmay hv hpt IH hE hx1 hrow hlen hcapx hab1 hab2;generalize x.op=op at*;subst h1;generalize z7g x.n=mv at*;simp only[Nat.zero_mul,Nat.one_mul,Nat.add_zero,Nat.reduceMul,Nat.reduceAdd,Nat.add_assoc] at d00 d01 d02 d03 d04 d05 d10 d11 d12 d13 d14 d15 d20 d21 d22 d23 d24 d25;by_cases he0:r02=0
 ·subst he0;rw[if_neg (by simp)];by_cases hz:r01=0
  ·subst hz;simp only[if_true];go_enter func146,ntmps146;go_wp2_with (first
  |(go_at_call 180;refine(GM.o.at_ _).mono ?_;rintro _ _ ⟨rfl,e,rfl⟩)
  |(go_at_call 181;refine(KT.o _ _).mono ?_;rintro _ _ ⟨rfl,rfl⟩)
  |(go_at_call 182;refine(KB.o _ _).mono ?_;rintro _ _ ⟨rfl,rfl⟩)
  |(go_at_call 146;with_reducible refine(KE0.o.at_ _).mono ?_;rintro _ _ ⟨rfl,e,rfl⟩))
   refine z1a (W:=W1) (by kernel_rfl) (by kernel_rfl) (y1i _) ?_
   repeat (go_big_quiet_step (first
    |(go_at_call 182;with_reducible exact KB0.o.at_ _)|(go_at_call 182;with_reducible exact KB1.o.at_ _)
    |(go_at_call 146;exact KE2.o.at_ _)))
   refine wpQuiet_nil ?_;rintro _ ⟨e,rfl⟩;go_wp2_with fail
   go_ret2;exact⟨rfl,Q01.o.trans (y1i _)⟩
  ·rw[if_neg hz];have hz':((r01:Int)==0)=false:=by simpa using hz
   clear hz;go_enter func146,ntmps146;go_wp2_with (first
  |(go_at_call 180;refine(GM.o.at_ _).mono ?_;rintro _ _ ⟨rfl,e,rfl⟩)
  |(go_at_call 181;refine(KT.o _ _).mono ?_;rintro _ _ ⟨rfl,rfl⟩)
  |(go_at_call 182;refine(KB.o _ _).mono ?_;rintro _ _ ⟨rfl,rfl⟩)
  |(go_at_call 146;with_reducible refine(KE0.o.at_ _).mono ?_;rintro _ _ ⟨rfl,e,rfl⟩))
   refine z1a (W:=W1) (by kernel_rfl) (by kernel_rfl) (y1i _) ?_
   repeat (go_big_quiet_step (first
    |(go_at_call 182;with_reducible exact KB0.o.at_ _)|(go_at_call 182;with_reducible exact KB1.o.at_ _)
    |(go_at_call 146;exact KE1.o.at_ _)))
   refine wpQuiet_nil ?_;rintro _ ⟨e,rfl⟩;go_wp2_with fail
   go_ret2;exact⟨rfl,Q01.o.trans (y1i _)⟩
 ·rw[if_pos he0];have he':((r02:Int)==0)=false:=by simpa using he0
  have he2:((r02:Int) !=0)=true:=by simpa using he0
  clear he0;go_enter func146,ntmps146;go_wp2_with (first
  |(go_at_call 180;refine(GM.o.at_ _).mono ?_;rintro _ _ ⟨rfl,e,rfl⟩)
  |(go_at_call 181;refine(KT.o _ _).mono ?_;rintro _ _ ⟨rfl,rfl⟩)
  |(go_at_call 182;refine(KB.o _ _).mono ?_;rintro _ _ ⟨rfl,rfl⟩)
  |(go_at_call 146;with_reducible refine(KE0.o.at_ _).mono ?_;rintro _ _ ⟨rfl,e,rfl⟩))
  go_ret2;exact⟨rfl,Q01.o.trans (y1i _)⟩
theorem j9l(B m:Nat)(env:ByteArray→Option Int)(x:X)(h1:x.op=6)(hn:14≤x.n∧x.n≤26)(IH:∀y,y∈x.l→z5y B m env y)(hmay:MayX x)(hv:VX x):z5y B m env x:=by
 intro w cs hR hB hE;have HR:=Hd hR;obtain⟨x5,rfl,hS⟩:=RX_iff.1 hR;have o5:=hS.oneCell;obtain⟨hv0,hv1,-,-⟩:=VX_iff.1 hv;obtain⟨⟨hpt,-,-,-⟩,-⟩:=MayX_iff.1 hmay;have hev:=z5b env x;obtain⟨W1,e1,hV1,hx1,hs1,c0,c1,c2,c3,c4,c5⟩:=z6b w (.int .i64 x.op) (.string x.name) (.int .i64 x.n) (.int .i64 x.w) (.int .u64 x.v) x5 40;have GM:=Hd (show ECalls Tryz.prog 180 #[.int .i64 x.n] W1 (z7g x.n) from fun w' hw=>z8u x.n w');have KT:=Hd (fun(z:Int) (w:World)=>z6m z w);have KB:=Hd (fun(b:Bool) (w:World)=>z2g b w);have hnf:∀w:World,(binOp BinOp.neq 228 .nilFunc .nilFunc).run Tryz.prog w=.ok (.bool false) w:=fun _=>by kernel_rfl
 have hff:∀(f:Nat) (w:World),(binOp BinOp.neq 228 (.func (.func f) #[] #[]) .nilFunc).run Tryz.prog w=.ok (.bool true) w:=fun _ _=>by kernel_rfl
 have Q01:=Hd hx1;have hlen:x.l.length=2:=by unfold z4u at hpt;omega
 obtain⟨ax,capx,rfl,hcapx,hrow⟩:=hS;have hl0:0<x.l.length:=by omega
 have IH0:=IH x.l[0] (y1l hl0);obtain⟨b0,o0,u00,u01,u02,u03,u04,u05,hab0,hbB0,hRk0,hCk0,-,-,-,-,-,-⟩:=hrow.open6 hl0;have KE0:=Hd (show ECalls Tryz.prog 146 #[.agg #[u00,u01,u02,u03,u04,u05],.map (some m)] W1 (z5f (z1x env x.l[0])) from fun w' hw=>IH0 w' _ (hRk0.ext (hx1.trans hw) hB) (y1k (y1k hB hx1.size) hw.size) (hE.ext (hx1.trans hw)));obtain⟨d00,d01,d02,d03,d04,d05⟩:=(hCk0.ext hx1).later6;clear IH0 hRk0 hCk0;have hl1:1<x.l.length:=by omega
 have IH1:=IH x.l[1] (y1l hl1);obtain⟨b1,o1,u10,u11,u12,u13,u14,u15,hab1,hbB1,hRk1,hCk1,-,-,-,-,-,-⟩:=hrow.open6 hl1;have KE1:=Hd (show ECalls Tryz.prog 146 #[.agg #[u10,u11,u12,u13,u14,u15],.map (some m)] W1 (z5f (z1x env x.l[1])) from fun w' hw=>IH1 w' _ (hRk1.ext (hx1.trans hw) hB) (y1k (y1k hB hx1.size) hw.size) (hE.ext (hx1.trans hw)));obtain⟨d10,d11,d12,d13,d14,d15⟩:=(hCk1.ext hx1).later6;clear IH1 hRk1 hCk1;obtain⟨f,hf⟩:=j5i hn;have hmv:z7g x.n=.func (.func f) #[] #[]:=by unfold z7g fnV;rw[hf]
 have hcf:=(q8t hf).o;have HTWO:=Hd (fun(a b:Int) (w:World) (h:0≤a∧a≤2147483647) (h':0≤b∧b≤2147483647)=>j9c hf a b w h.1 h.2 h'.1 h'.2);have hbd0:=q7d (env:=env) (x:=x.l[0]);have hbd1:=q7d (env:=env) (x:=x.l[1]);have hev:z1x env x=if(z1x env x.l[0]).2≠0 then((0:Int),(z1x env x.l[0]).2) else if(z1x env x.l[1]).2≠0 then((0:Int),(z1x env x.l[1]).2) else z6g (z9x x.n (z1x env x.l[0]).1 (z1x env x.l[1]).1):=by
  rw[hev];unfold q2y;rw[if_neg (by omega),if_neg (by omega),if_pos (.inr (.inl ⟨h1,hn.1,hn.2⟩)),if_neg (show¬x.op=5 by omega),if_neg (show¬x.op=7 by omega)];simp[hlen]
 rw[hev];rw[hmv] at GM;generalize z1x env x.l[0]=r0 at*;generalize z1x env x.l[1]=r1 at*;obtain⟨r01,r02⟩:=r0;obtain⟨r11,r12⟩:=r1;subst hab0;obtain⟨rfl,rfl⟩:b0=b1∧o0=o1:=by simpa using hab1
 have HBD:=Hd (y1x hbd0 hbd1);unfold z5f at*;simp only at KE0 KE1 HBD⊢;clear hev hR HR hmay hv hpt IH hE hx1 hrow hlen hcapx hab1 hf hmv hn hbd0 hbd1;generalize x.op=op at*;subst h1;simp only[Nat.zero_mul,Nat.one_mul,Nat.add_zero,Nat.reduceMul,Nat.reduceAdd,Nat.add_assoc] at d00 d01 d02 d03 d04 d05 d10 d11 d12 d13 d14 d15;by_cases he0:r02=0
 ·subst he0;rw[if_neg (by simp)];by_cases hz:r12=0
  ·subst hz;rw[if_neg (by simp)];go_enter func146,ntmps146;go_wp2_with (first
  |(go_at_call 180;refine(GM.o.at_ _).mono ?_;rintro _ _ ⟨rfl,e,rfl⟩)
  |(go_at_call 181;refine(KT.o _ _).mono ?_;rintro _ _ ⟨rfl,rfl⟩)
  |(go_at_call 182;refine(KB.o _ _).mono ?_;rintro _ _ ⟨rfl,rfl⟩)
  |(go_at_call 146;with_reducible refine(KE0.o.at_ _).mono ?_;rintro _ _ ⟨rfl,e,rfl⟩)
  |(go_at_call 146;with_reducible refine(KE1.o.at_ _).mono ?_;rintro _ _ ⟨rfl,e,rfl⟩))
   refine(HTWO.o _ _ _ HBD.o.1 HBD.o.2).mono ?_;rintro _ _ ⟨rfl,rfl⟩;go_wp2_with (first
  |(go_at_call 180;refine(GM.o.at_ _).mono ?_;rintro _ _ ⟨rfl,e,rfl⟩)
  |(go_at_call 181;refine(KT.o _ _).mono ?_;rintro _ _ ⟨rfl,rfl⟩)
  |(go_at_call 182;refine(KB.o _ _).mono ?_;rintro _ _ ⟨rfl,rfl⟩)
  |(go_at_call 146;with_reducible refine(KE0.o.at_ _).mono ?_;rintro _ _ ⟨rfl,e,rfl⟩)
  |(go_at_call 146;with_reducible refine(KE1.o.at_ _).mono ?_;rintro _ _ ⟨rfl,e,rfl⟩))
   go_ret2;exact⟨rfl,Q01.o.trans (y1i _)⟩
  ·rw[if_pos hz];have hz':((r12:Int)==0)=false:=by simpa using hz
   have hz2:((r12:Int) !=0)=true:=by simpa using hz
   clear hz;go_enter func146,ntmps146;go_wp2_with (first
  |(go_at_call 180;refine(GM.o.at_ _).mono ?_;rintro _ _ ⟨rfl,e,rfl⟩)
  |(go_at_call 181;refine(KT.o _ _).mono ?_;rintro _ _ ⟨rfl,rfl⟩)
  |(go_at_call 182;refine(KB.o _ _).mono ?_;rintro _ _ ⟨rfl,rfl⟩)
  |(go_at_call 146;with_reducible refine(KE0.o.at_ _).mono ?_;rintro _ _ ⟨rfl,e,rfl⟩)
  |(go_at_call 146;with_reducible refine(KE1.o.at_ _).mono ?_;rintro _ _ ⟨rfl,e,rfl⟩))
   go_ret2;exact⟨rfl,Q01.o.trans (y1i _)⟩
 ·rw[if_pos he0];have he':((r02:Int)==0)=false:=by simpa using he0
  have he2:((r02:Int) !=0)=true:=by simpa using he0
  clear he0;go_enter func146,ntmps146;go_wp2_with (first
  |(go_at_call 180;refine(GM.o.at_ _).mono ?_;rintro _ _ ⟨rfl,e,rfl⟩)
  |(go_at_call 181;refine(KT.o _ _).mono ?_;rintro _ _ ⟨rfl,rfl⟩)
  |(go_at_call 182;refine(KB.o _ _).mono ?_;rintro _ _ ⟨rfl,rfl⟩)
  |(go_at_call 146;with_reducible refine(KE0.o.at_ _).mono ?_;rintro _ _ ⟨rfl,e,rfl⟩))
  go_ret2;exact⟨rfl,Q01.o.trans (y1i _)⟩
theorem j9o(B m:Nat)(env:ByteArray→Option Int)(x:X):MayX x→VX x→z5y B m env x:=by
 induction x using X.ind with
 |h x ih=>
  intro hm hv;have hm':=(MayX_iff.1 hm).2;have hv':=(VX_iff.1 hv).2.2.2;have IH:∀y,y∈x.l→z5y B m env y:=fun y hy=>ih y hy (hm' y hy) (hv' y hy)
  by_cases h1:x.op=1∧x.w=0
  ·exact j9m B m env x h1.1 h1.2 IH hm hv
  ·by_cases h2:x.op=2
   ·exact j5o B m env x h2 IH hm hv
   ·by_cases h3:opK x.op x.n
    ·rcases h3 with h3|h3|h3
     ·exact j9n B m env x h3.1 h3.2 IH hm hv
     ·exact j9l B m env x h3.1 h3.2 IH hm hv
     ·exact j5p B m env x h3 IH hm hv
    ·exact k3u B m env x h1 h2 h3 IH hm hv
end Go.Proofs.YtlfmlodanoolhaaGreatDoor
