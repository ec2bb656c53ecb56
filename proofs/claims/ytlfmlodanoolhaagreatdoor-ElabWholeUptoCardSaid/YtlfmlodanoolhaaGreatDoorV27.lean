import Derived.Laws.ShiftsVarLaws
import Derived.Lib.MinMax
import Derived.Test.YtlfmlodanoolhaaGreatDoorV13
import Derived.Test.YtlfmlodanoolhaaGreatDoorV2
import Derived.Test.YtlfmlodanoolhaaGreatDoorV9
set_option linter.all false
set_option maxRecDepth 200000
set_option maxHeartbeats 0
namespace Go.Proofs.YtlfmlodanoolhaaGreatDoor
open Go Go.RowKit Go.Proofs.Tryz
attribute [local go_sem] bc
theorem dC(b:Bool)(w:World):Calls Tryz.prog 182 #[.bool b] w λe a=>e=.returned (.int .i64 (cv b))/\a=w:=by
 go_in
 cases b
 ·go_wp2
  go_ret;exact⟨rfl,rfl⟩
 ·go_wp2
  go_ret;exact⟨rfl,rfl⟩
theorem AY(z:Int)(w:World):Calls Tryz.prog 213 #[.int .i64 z] w λe f=>e=.returned (.bool (decide (bU z)))/\f=w:=by
 by_cases c:0<=z
 ·by_cases a:z<=2147483647
  ·rw[decide_eq_true (show bU z from⟨c,a⟩)]
   go_in
   go_wp2
   go_ret;exact⟨rfl,rfl⟩
  ·rw[decide_eq_false (λb:bU z=>a b.2)];have d:decide (z<=2147483647)=false:=by simpa using a
   clear a
   go_in
   go_wp2
   go_ret;exact⟨rfl,rfl⟩
 ·rw[decide_eq_false (λb:bU z=>c b.1)];have d:z<0:=by omega
  clear c
  go_in
  go_wp2
  go_ret;exact⟨rfl,rfl⟩
theorem gK(z:Int)(w:World):Calls Tryz.prog 181 #[.int .i64 z] w λe c=>e=.returned (.tuple #[.int .i64 (cO z).1,.int .i64 (cO z).2])/\c=w:=by
 have b:=Hd (λw=>AY z w);by_cases a:bU z
 ·rw[show cO z=(z,0) from if_pos a];rw[decide_eq_true a] at b;clear a
  go_in
  go_wp2_with (go_at_call 213;refine(b.o _).mono ?_;rintro _ _ ⟨rfl,rfl⟩)
  go_ret2;exact⟨rfl,rfl⟩
 ·rw[show cO z=(0,62) from if_neg a];rw[decide_eq_false a] at b;clear a
  go_in
  go_wp2_with (go_at_call 213;refine(b.o _).mono ?_;rintro _ _ ⟨rfl,rfl⟩)
  go_ret2;exact⟨rfl,rfl⟩
def fnV(f:Nat):Value:=.func (.func f) #[] #[]
theorem bj(n:Int):MapKept.IsKey (.int .i64) (.int .i64 n):=rfl
def gE(n:Int):Option Nat:=if n=14 then some 200 else if n=15 then some 201 else if n=16 then some 202 else if n=17 then some 203 else if n=18 then some 204 else if n=19 then some 205 else if n=20 then some 206 else if n=21 then some 207 else if n=22 then some 208 else if n=23 then some 209 else if n=24 then some 210 else if n=25 then some 211 else if n=26 then some 212 else none
def cW(n:Int):Value:=match gE n with|some f=>fnV f|none=>.nilFunc
noncomputable def kn:List (Value×Value):=bw (bw (bw (bw (bw (bw (bw (bw (bw (bw (bw (bw (bw [] (.int .i64 14) (fnV 200)) (.int .i64 15) (fnV 201)) (.int .i64 16) (fnV 202)) (.int .i64 17) (fnV 203)) (.int .i64 18) (fnV 204)) (.int .i64 19) (fnV 205)) (.int .i64 20) (fnV 206)) (.int .i64 21) (fnV 207)) (.int .i64 22) (fnV 208)) (.int .i64 23) (fnV 209)) (.int .i64 24) (fnV 210)) (.int .i64 25) (fnV 211)) (.int .i64 26) (fnV 212)
theorem vY(n:Int):(bd kn (.int .i64 n)).getD .nilFunc=cW n:=by
 unfold kn;simp only[ge,Value.int.injEq,true_and];unfold cW gE;by_cases o:n=26
 ·subst o;simp[bd]
 rw[if_neg (λe:(26:Int)=n=>o e.symm)];by_cases m:n=25
 ·subst m;simp[bd]
 rw[if_neg (λe:(25:Int)=n=>m e.symm)];by_cases l:n=24
 ·subst l;simp[bd]
 rw[if_neg (λe:(24:Int)=n=>l e.symm)];by_cases k:n=23
 ·subst k;simp[bd]
 rw[if_neg (λe:(23:Int)=n=>k e.symm)];by_cases j:n=22
 ·subst j;simp[bd]
 rw[if_neg (λe:(22:Int)=n=>j e.symm)];by_cases i:n=21
 ·subst i;simp[bd]
 rw[if_neg (λe:(21:Int)=n=>i e.symm)];by_cases h:n=20
 ·subst h;simp[bd]
 rw[if_neg (λe:(20:Int)=n=>h e.symm)];by_cases g:n=19
 ·subst g;simp[bd]
 rw[if_neg (λe:(19:Int)=n=>g e.symm)];by_cases f:n=18
 ·subst f;simp[bd]
 rw[if_neg (λe:(18:Int)=n=>f e.symm)];by_cases d:n=17
 ·subst d;simp[bd]
 rw[if_neg (λe:(17:Int)=n=>d e.symm)];by_cases c:n=16
 ·subst c;simp[bd]
 rw[if_neg (λe:(16:Int)=n=>c e.symm)];by_cases b:n=15
 ·subst b;simp[bd]
 rw[if_neg (λe:(15:Int)=n=>b e.symm)];by_cases a:n=14
 ·subst a;simp[bd]
 rw[if_neg (λe:(14:Int)=n=>a e.symm)];simp[bd,a,b,c,d,f,g,h,i,j,k,l,m,o]
theorem hX(n:Int)(w:World):Calls Tryz.prog 180 #[.int .i64 n] w λe e5=>e=.returned (cW n)/\Ext w e5:=by
 have b:Tryz.prog.underlying 250=some (.map 3 228):=underlying250;have a:Tryz.prog.underlying 3=some (.int .i64):=underlying3;have c5:∀w:World,(zeroValue 228).run Tryz.prog w=.ok .nilFunc w:=λ_=>by kernel_rfl
 obtain⟨c,u⟩:∃c,c=w.alloc (.map #[] 0):=⟨_,rfl⟩;have c7:MV c w.heap.size []:=by rw[u];exact MV.new w
 have M:∀d,d∈([]:List (Value×Value))->MapKept.IsKey (.int .i64) d.1:=λd d0=>by cases d0
 have x:Below w.heap.size w c:=by rw[u];exact aE _ _
 have e4:w.heap.size<=c.heap.size:=x.size;obtain⟨d1,u1,Z⟩:=c7.update b a (bj 14) M (fnV 200);have N:=cK (v:=fnV 200) M (bj 14);obtain⟨f,y⟩:∃f,f=aH c w.heap.size d1:=⟨_,rfl⟩;rw[<-y] at u1 Z;have b2:Below w.heap.size w f:=by rw[y];exact x.trans (dj (ac _) x.size)
 obtain⟨d6,u2,a4⟩:=Z.update b a (bj 15) N (fnV 201);have R:=cK (v:=fnV 201) N (bj 15);obtain⟨k,D⟩:∃k,k=aH f w.heap.size d6:=⟨_,rfl⟩;rw[<-D] at u2 a4;have b6:Below w.heap.size w k:=by rw[D];exact b2.trans (dj (ac _) b2.size)
 obtain⟨d7,u3,a5⟩:=a4.update b a (bj 16) R (fnV 202);have S:=cK (v:=fnV 202) R (bj 16);obtain⟨l,E⟩:∃l,l=aH k w.heap.size d7:=⟨_,rfl⟩;rw[<-E] at u3 a5;have b7:Below w.heap.size w l:=by rw[E];exact b6.trans (dj (ac _) b6.size)
 obtain⟨d8,u4,a6⟩:=a5.update b a (bj 17) S (fnV 203);have T:=cK (v:=fnV 203) S (bj 17);obtain⟨m,F⟩:∃m,m=aH l w.heap.size d8:=⟨_,rfl⟩;rw[<-F] at u4 a6;have b8:Below w.heap.size w m:=by rw[F];exact b7.trans (dj (ac _) b7.size)
 obtain⟨d9,u5,a7⟩:=a6.update b a (bj 18) T (fnV 204);have U:=cK (v:=fnV 204) T (bj 18);obtain⟨p,G⟩:∃p,p=aH m w.heap.size d9:=⟨_,rfl⟩;rw[<-G] at u5 a7;have b9:Below w.heap.size w p:=by rw[G];exact b8.trans (dj (ac _) b8.size)
 obtain⟨e0,u6,a8⟩:=a7.update b a (bj 19) U (fnV 205);have V:=cK (v:=fnV 205) U (bj 19);obtain⟨q,H⟩:∃q,q=aH p w.heap.size e0:=⟨_,rfl⟩;rw[<-H] at u6 a8;have c0:Below w.heap.size w q:=by rw[H];exact b9.trans (dj (ac _) b9.size)
 obtain⟨e1,u7,a9⟩:=a8.update b a (bj 20) V (fnV 206);have W:=cK (v:=fnV 206) V (bj 20);obtain⟨r,I⟩:∃r,r=aH q w.heap.size e1:=⟨_,rfl⟩;rw[<-I] at u7 a9;have c1:Below w.heap.size w r:=by rw[I];exact c0.trans (dj (ac _) c0.size)
 obtain⟨e2,u8,b0⟩:=a9.update b a (bj 21) W (fnV 207);have X:=cK (v:=fnV 207) W (bj 21);obtain⟨s,J⟩:∃s,s=aH r w.heap.size e2:=⟨_,rfl⟩;rw[<-J] at u8 b0;have c2:Below w.heap.size w s:=by rw[J];exact c1.trans (dj (ac _) c1.size)
 obtain⟨e3,u9,b1⟩:=b0.update b a (bj 22) X (fnV 208);have Y:=cK (v:=fnV 208) X (bj 22);obtain⟨t,K⟩:∃t,t=aH s w.heap.size e3:=⟨_,rfl⟩;rw[<-K] at u9 b1;have c3:Below w.heap.size w t:=by rw[K];exact c2.trans (dj (ac _) c2.size)
 obtain⟨d2,u10,a0⟩:=b1.update b a (bj 23) Y (fnV 209);have O:=cK (v:=fnV 209) Y (bj 23);obtain⟨g,z⟩:∃g,g=aH t w.heap.size d2:=⟨_,rfl⟩;rw[<-z] at u10 a0;have b3:Below w.heap.size w g:=by rw[z];exact c3.trans (dj (ac _) c3.size)
 obtain⟨d3,u11,a1⟩:=a0.update b a (bj 24) O (fnV 210);have P:=cK (v:=fnV 210) O (bj 24);obtain⟨h,A⟩:∃h,h=aH g w.heap.size d3:=⟨_,rfl⟩;rw[<-A] at u11 a1;have b4:Below w.heap.size w h:=by rw[A];exact b3.trans (dj (ac _) b3.size)
 obtain⟨d4,u12,a2⟩:=a1.update b a (bj 25) P (fnV 211);have Q:=cK (v:=fnV 211) P (bj 25);obtain⟨i,B⟩:∃i,i=aH h w.heap.size d4:=⟨_,rfl⟩;rw[<-B] at u12 a2;have b5:Below w.heap.size w i:=by rw[B];exact b4.trans (dj (ac _) b4.size)
 obtain⟨d5,u13,a3⟩:=a2.update b a (bj 26) Q (fnV 212);have c6:=cK (v:=fnV 212) Q (bj 26);obtain⟨j,C⟩:∃j,j=aH i w.heap.size d5:=⟨_,rfl⟩;rw[<-C] at u13 a3;have c8:Below w.heap.size w j:=by rw[C];exact b5.trans (dj (ac _) b5.size)
 have L:=(show MV j w.heap.size kn from a3).lookup b a (bj n) (show∀d,d∈kn->MapKept.IsKey (.int .i64) d.1 from c6) (c5 _) false;rw[vY] at L;simp only[Bool.false_eq_true,if_false] at L;have e6:=u.symm;have c9:=Hd c8;unfold fnV at u1 u2 u3 u4 u5 u6 u7 u8 u9 u10 u11 u12 u13;clear c5 b a c7 M x Z N b2 a4 R b6 a5 S b7 a6 T b8 a7 U b9 a8 V c0 a9 W c1 b0 X c2 b1 Y c3 a0 O b3 a1 P b4 a2 Q b5 a3 c6 c8 u y D E F G H I J K z A B C e4;obtain⟨v,c4⟩:∃v,v=cW n:=⟨_,rfl⟩;rw[<-c4] at L⊢;clear c4;have e7:=@run_makeMap Tryz.prog
 go_in
 go_wp2
 go_ret;exact⟨rfl,c9.o⟩
theorem sX{a b:Int}(ha:0<=a)(d:a<=2147483647)(c:0<=b)(e:b<=2147483647):0<=a*b/\a*b<=4611686014132420609:=by
 refine⟨Int.mul_nonneg ha c,?_⟩;have:=Int.mul_le_mul d e c (by decide:(0:Int)<=2147483647);simpa using this
theorem ze(a b:Int)(w:World)(ha:0<=a)(d:a<=2147483647)(f:0<=b)(g:b<=2147483647):Calls Tryz.prog 200 #[.int .i64 a,.int .i64 b] w λe c=>e=.returned (.int .i64 (bO 14 a b))/\c=w:=by
 rw[show bO 14 a b=a+b from rfl]
 go_in
 go_wp2
 go_ret;exact⟨rfl,rfl⟩
theorem zf(a b:Int)(w:World)(ha:0<=a)(d:a<=2147483647)(f:0<=b)(g:b<=2147483647):Calls Tryz.prog 201 #[.int .i64 a,.int .i64 b] w λe c=>e=.returned (.int .i64 (bO 15 a b))/\c=w:=by
 rw[show bO 15 a b=a - b from rfl]
 go_in
 go_wp2
 go_ret;exact⟨rfl,rfl⟩
theorem zg(a b:Int)(w:World)(ha:0<=a)(c:a<=2147483647)(d:0<=b)(f:b<=2147483647):Calls Tryz.prog 202 #[.int .i64 a,.int .i64 b] w λe g=>e=.returned (.int .i64 (bO 16 a b))/\g=w:=by
 rw[show bO 16 a b=a*b from rfl];obtain⟨h,i⟩:=sX ha c d f
 go_in
 go_wp2
 go_ret;exact⟨rfl,rfl⟩
theorem zj(a b:Int)(w:World)(ha:0<=a)(f:a<=2147483647)(g:0<=b)(h:b<=2147483647):Calls Tryz.prog 205 #[.int .i64 a,.int .i64 b] w λe d=>e=.returned (.int .i64 (bO 19 a b))/\d=w:=by
 rw[show bO 19 a b=cv (a==b) from rfl];have c:=Hd (λw=>dC (a==b) w)
 go_in
 go_wp2_with (go_at_call 182;refine(c.o _).mono ?_;rintro _ _ ⟨rfl,rfl⟩)
 go_ret;exact⟨rfl,rfl⟩
theorem zk(a b:Int)(w:World)(ha:0<=a)(f:a<=2147483647)(g:0<=b)(h:b<=2147483647):Calls Tryz.prog 206 #[.int .i64 a,.int .i64 b] w λe d=>e=.returned (.int .i64 (bO 20 a b))/\d=w:=by
 rw[show bO 20 a b=cv (a !=b) from rfl];have c:=Hd (λw=>dC (a !=b) w)
 go_in
 go_wp2_with (go_at_call 182;refine(c.o _).mono ?_;rintro _ _ ⟨rfl,rfl⟩)
 go_ret;exact⟨rfl,rfl⟩
theorem zl(a b:Int)(w:World)(ha:0<=a)(f:a<=2147483647)(g:0<=b)(h:b<=2147483647):Calls Tryz.prog 207 #[.int .i64 a,.int .i64 b] w λe d=>e=.returned (.int .i64 (bO 21 a b))/\d=w:=by
 rw[show bO 21 a b=cv (decide (a<b)) from rfl];have c:=Hd (λw=>dC (decide (a<b)) w)
 go_in
 go_wp2_with (go_at_call 182;refine(c.o _).mono ?_;rintro _ _ ⟨rfl,rfl⟩)
 go_ret;exact⟨rfl,rfl⟩
theorem zm(a b:Int)(w:World)(ha:0<=a)(f:a<=2147483647)(g:0<=b)(h:b<=2147483647):Calls Tryz.prog 208 #[.int .i64 a,.int .i64 b] w λe d=>e=.returned (.int .i64 (bO 22 a b))/\d=w:=by
 rw[show bO 22 a b=cv (decide (a<=b)) from rfl];have c:=Hd (λw=>dC (decide (a<=b)) w)
 go_in
 go_wp2_with (go_at_call 182;refine(c.o _).mono ?_;rintro _ _ ⟨rfl,rfl⟩)
 go_ret;exact⟨rfl,rfl⟩
theorem zn(a b:Int)(w:World)(ha:0<=a)(f:a<=2147483647)(g:0<=b)(h:b<=2147483647):Calls Tryz.prog 209 #[.int .i64 a,.int .i64 b] w λe d=>e=.returned (.int .i64 (bO 23 a b))/\d=w:=by
 rw[show bO 23 a b=cv (decide (b<a)) from rfl];have c:=Hd (λw=>dC (decide (b<a)) w)
 go_in
 go_wp2_with (go_at_call 182;refine(c.o _).mono ?_;rintro _ _ ⟨rfl,rfl⟩)
 go_ret;exact⟨rfl,rfl⟩
theorem zo(a b:Int)(w:World)(ha:0<=a)(f:a<=2147483647)(g:0<=b)(h:b<=2147483647):Calls Tryz.prog 210 #[.int .i64 a,.int .i64 b] w λe d=>e=.returned (.int .i64 (bO 24 a b))/\d=w:=by
 rw[show bO 24 a b=cv (decide (b<=a)) from rfl];have c:=Hd (λw=>dC (decide (b<=a)) w)
 go_in
 go_wp2_with (go_at_call 182;refine(c.o _).mono ?_;rintro _ _ ⟨rfl,rfl⟩)
 go_ret;exact⟨rfl,rfl⟩
theorem zp(a b:Int)(w:World)(ha:0<=a)(f:a<=2147483647)(g:0<=b)(h:b<=2147483647):Calls Tryz.prog 211 #[.int .i64 a,.int .i64 b] w λe d=>e=.returned (.int .i64 (bO 25 a b))/\d=w:=by
 rw[show bO 25 a b=cv (a !=0 && b !=0) from rfl];have c:=Hd (λb w=>dC b w);cases h1:(a !=0) with
 |true=>
  cases h2:(b !=0) with
  |true=>
   go_in
   go_wp2_with (go_at_call 182;refine(c.o _ _).mono ?_;rintro _ _ ⟨rfl,rfl⟩)
   go_ret;exact⟨rfl,rfl⟩
  |false=>
   go_in
   go_wp2_with (go_at_call 182;refine(c.o _ _).mono ?_;rintro _ _ ⟨rfl,rfl⟩)
   go_ret;exact⟨rfl,rfl⟩
 |false=>
  cases h2:(b !=0) with
  |true=>
   go_in
   go_wp2_with (go_at_call 182;refine(c.o _ _).mono ?_;rintro _ _ ⟨rfl,rfl⟩)
   go_ret;exact⟨rfl,rfl⟩
  |false=>
   go_in
   go_wp2_with (go_at_call 182;refine(c.o _ _).mono ?_;rintro _ _ ⟨rfl,rfl⟩)
   go_ret;exact⟨rfl,rfl⟩
theorem zq(a b:Int)(w:World)(ha:0<=a)(f:a<=2147483647)(g:0<=b)(h:b<=2147483647):Calls Tryz.prog 212 #[.int .i64 a,.int .i64 b] w λe d=>e=.returned (.int .i64 (bO 26 a b))/\d=w:=by
 rw[show bO 26 a b=cv (a !=0||b !=0) from rfl];have c:=Hd (λb w=>dC b w);cases h1:(a !=0) with
 |true=>
  cases h2:(b !=0) with
  |true=>
   go_in
   go_wp2_with (go_at_call 182;refine(c.o _ _).mono ?_;rintro _ _ ⟨rfl,rfl⟩)
   go_ret;exact⟨rfl,rfl⟩
  |false=>
   go_in
   go_wp2_with (go_at_call 182;refine(c.o _ _).mono ?_;rintro _ _ ⟨rfl,rfl⟩)
   go_ret;exact⟨rfl,rfl⟩
 |false=>
  cases h2:(b !=0) with
  |true=>
   go_in
   go_wp2_with (go_at_call 182;refine(c.o _ _).mono ?_;rintro _ _ ⟨rfl,rfl⟩)
   go_ret;exact⟨rfl,rfl⟩
  |false=>
   go_in
   go_wp2_with (go_at_call 182;refine(c.o _ _).mono ?_;rintro _ _ ⟨rfl,rfl⟩)
   go_ret;exact⟨rfl,rfl⟩
theorem zi(a b:Int)(w:World)(ha:0<=a)(d:a<=2147483647)(f:0<=b)(g:b<=2147483647):Calls Tryz.prog 204 #[.int .i64 a,.int .i64 b] w λe c=>e=.returned (.int .i64 (bO 18 a b))/\c=w:=by
 rw[show bO 18 a b=a / 2 ^ (min b 63).toNat from rfl];have h:0<=min b 63:=by omega
 have i:min b 63<=63:=by omega
 go_in
 go_wp2
 go_ret;exact⟨rfl,rfl⟩
theorem pF:∀a x:Nat,x<2 ^ a->x<2 ^ Lib.bitLenAux a x/\(x≠0->2 ^ Lib.bitLenAux a x<=2*x)
 |0,x,h=>by simp at h;subst h;simp[Lib.bitLenAux]
 |a+1,x,h=>by
  unfold Lib.bitLenAux;by_cases b:x=0
  ·rw[if_pos b];subst b;simp
  ·rw[if_neg b];obtain⟨d,f⟩:=pF a (x / 2) (by rw[Nat.pow_succ] at h;omega);have e:2 ^ (1+Lib.bitLenAux a (x / 2))=2*2 ^ Lib.bitLenAux a (x / 2):=by rw[Nat.add_comm,Nat.pow_succ];omega
   rw[e];refine⟨zO,λ_=>?_⟩;by_cases c:x / 2=0
   ·rw[c] at d⊢;have:Lib.bitLenAux a 0=0:=by cases a<;>simp[Lib.bitLenAux]
    rw[this];omega
   ·have:=f c;omega
theorem qX{a b:Int}(ha:0<a)(p:a<=2147483647)(j:0<=b):31<(Lib.bitLen a.toNat:Int)+b↔2147483647<a*2 ^ b.toNat:=by
 obtain⟨n,rfl⟩:=Int.eq_ofNat_of_zero_le (Int.le_of_lt ha);obtain⟨c,rfl⟩:=Int.eq_ofNat_of_zero_le j
 have k:n<2 ^ 64:=by have:(2:Nat) ^ 64=18446744073709551616:=by decide
                     omega
 obtain⟨h,d⟩:=pF 64 n k;have d:=d zO;simp only[Int.toNat_natCast]
 change 31<((Lib.bitLenAux 64 n:Nat):Int)+(c:Int)↔_
 generalize Lib.bitLenAux 64 n=L at*;have e:((n:Int)*2 ^ c)=((n*2 ^ c:Nat):Int):=by push_cast;rfl
 rw[e];have l:(2:Nat) ^ 31=2147483648:=by decide
 constructor
 ·intro g;have f:2 ^ 32<=2 ^ (L+c):=Nat.pow_le_pow_right zD zO;rw[Nat.pow_add] at f;have i:=Nat.mul_le_mul_right (2 ^ c) d;have m:(2:Nat) ^ 32=4294967296:=by decide
  have o:2*n*2 ^ c=2*(n*2 ^ c):=by rw[Nat.mul_assoc]
  omega
 ·intro g;apply Decidable.byContradiction;intro q;have f:2 ^ (L+c)<=2 ^ 31:=Nat.pow_le_pow_right zD zO;rw[Nat.pow_add] at f;have i:n*2 ^ c<2 ^ L*2 ^ c:=Nat.mul_lt_mul_of_pos_right h (Nat.pow_pos zD);omega
theorem sh{a:Int}(ha:0<a)(d:a<=2147483647):(Lib.bitLen a.toNat:Int)<=31:=by
 have c:=(qX (b:=0) ha d zD).1;simp at c;omega
theorem zh(a b:Int)(w:World)(ha:0<=a)(i:a<=2147483647)(n:0<=b)(s:b<=2147483647):Calls Tryz.prog 203 #[.int .i64 a,.int .i64 b] w λe p=>e=.returned (.int .i64 (bO 17 a b))/\p=w:=by
 rw[show bO 17 a b=kD a b from rfl];by_cases f:a=0
 ·subst f;rw[show kD 0 b=0 from rfl];have h:=Hd True.intro
  go_in
  go_wp2
  go_ret;exact⟨rfl,rfl⟩
 ·have c:kD a b=if 31<=b\/2147483647<a*2 ^ b.toNat then -1 else a*2 ^ b.toNat:=if_neg f
  have q:((a:Int)==0)=false:=by simpa using f
  have j:0<a:=by omega
  have h:=Hd (λw=>Tryz.bits_Len a w ha zO);have g:=qX j i n;have t:=sh j i;have r:(0:Int)<=(Lib.bitLen a.toNat:Int):=by omega
  by_cases k:31<=b
  ·rw[if_pos (.inl k)] at c;rw[c];clear c g f
   go_in
   go_wp2_with (go_at_call 222;refine(h.o _).mono ?_;rintro _ _ ⟨rfl,rfl⟩)
   go_ret;exact⟨rfl,rfl⟩
  ·by_cases m:31<(Lib.bitLen a.toNat:Int)+b
   ·rw[if_pos (.inr (g.1 m))] at c;rw[c];clear c g f
    go_in
    go_wp2_with (go_at_call 222;refine(h.o _).mono ?_;rintro _ _ ⟨rfl,rfl⟩)
    go_ret;exact⟨rfl,rfl⟩
   ·have l:¬2147483647<a*2 ^ b.toNat:=λd=>m (g.2 d)
    rw[if_neg (by intro d;rcases d with d|d;exact k d;exact l d)] at c;rw[c];have u:0<=a*2 ^ b.toNat:=Int.mul_nonneg ha (Int.pow_nonneg zD);have v:a*2 ^ b.toNat<=2147483647:=by omega
    clear c g f l
    go_in
    go_wp2_with (go_at_call 222;refine(h.o _).mono ?_;rintro _ _ ⟨rfl,rfl⟩)
    go_ret;exact⟨rfl,rfl⟩
theorem Ap{n:Int}(h:14<=n/\n<=26):∃a,gE n=some a:=by
 have:n=14\/n=15\/n=16\/n=17\/n=18\/n=19\/n=20\/n=21\/n=22\/n=23\/n=24\/n=25\/n=26:=by omega
 rcases this with rfl|rfl|rfl|rfl|rfl|rfl|rfl|rfl|rfl|rfl|rfl|rfl|rfl<;>exact⟨_,rfl⟩
theorem ml{n:Int}(h:¬(14<=n/\n<=26)):gE n=none:=by
 unfold gE;rw[if_neg zO];rw[if_neg zO];rw[if_neg zO];rw[if_neg zO];rw[if_neg zO];rw[if_neg zO];rw[if_neg zO];rw[if_neg zO];rw[if_neg zO];rw[if_neg zO];rw[if_neg zO];rw[if_neg zO];rw[if_neg zO]
theorem ym{n:Int}{f:Nat}(h:gE n=some f)(a b:Int)(w:World)(ha:0<=a)(c:a<=2147483647)(d:0<=b)(g:b<=2147483647):Calls Tryz.prog f #[.int .i64 a,.int .i64 b] w λe j=>e=.returned (.int .i64 (bO n a b))/\j=w:=by
 by_cases i:14<=n/\n<=26
 ·have:n=14\/n=15\/n=16\/n=17\/n=18\/n=19\/n=20\/n=21\/n=22\/n=23\/n=24\/n=25\/n=26:=by omega
  rcases this with rfl|rfl|rfl|rfl|rfl|rfl|rfl|rfl|rfl|rfl|rfl|rfl|rfl
  ·have h:some 200=some f:=h;injection h with h;subst h;exact ze a b w ha c d g
  ·have h:some 201=some f:=h;injection h with h;subst h;exact zf a b w ha c d g
  ·have h:some 202=some f:=h;injection h with h;subst h;exact zg a b w ha c d g
  ·have h:some 203=some f:=h;injection h with h;subst h;exact zh a b w ha c d g
  ·have h:some 204=some f:=h;injection h with h;subst h;exact zi a b w ha c d g
  ·have h:some 205=some f:=h;injection h with h;subst h;exact zj a b w ha c d g
  ·have h:some 206=some f:=h;injection h with h;subst h;exact zk a b w ha c d g
  ·have h:some 207=some f:=h;injection h with h;subst h;exact zl a b w ha c d g
  ·have h:some 208=some f:=h;injection h with h;subst h;exact zm a b w ha c d g
  ·have h:some 209=some f:=h;injection h with h;subst h;exact zn a b w ha c d g
  ·have h:some 210=some f:=h;injection h with h;subst h;exact zo a b w ha c d g
  ·have h:some 211=some f:=h;injection h with h;subst h;exact zp a b w ha c d g
  ·have h:some 212=some f:=h;injection h with h;subst h;exact zq a b w ha c d g
 ·rw[ml i] at h;cases h
theorem BN{n:Int}{f:Nat}(h:gE n=some f):Enters Tryz.prog f:=by
 by_cases a:14<=n/\n<=26
 ·have:n=14\/n=15\/n=16\/n=17\/n=18\/n=19\/n=20\/n=21\/n=22\/n=23\/n=24\/n=25\/n=26:=by omega
  rcases this with rfl|rfl|rfl|rfl|rfl|rfl|rfl|rfl|rfl|rfl|rfl|rfl|rfl
  ·have h:some 200=some f:=h;injection h with h;subst h;exact⟨λ_ _=>by kernel_rfl⟩
  ·have h:some 201=some f:=h;injection h with h;subst h;exact⟨λ_ _=>by kernel_rfl⟩
  ·have h:some 202=some f:=h;injection h with h;subst h;exact⟨λ_ _=>by kernel_rfl⟩
  ·have h:some 203=some f:=h;injection h with h;subst h;exact⟨λ_ _=>by kernel_rfl⟩
  ·have h:some 204=some f:=h;injection h with h;subst h;exact⟨λ_ _=>by kernel_rfl⟩
  ·have h:some 205=some f:=h;injection h with h;subst h;exact⟨λ_ _=>by kernel_rfl⟩
  ·have h:some 206=some f:=h;injection h with h;subst h;exact⟨λ_ _=>by kernel_rfl⟩
  ·have h:some 207=some f:=h;injection h with h;subst h;exact⟨λ_ _=>by kernel_rfl⟩
  ·have h:some 208=some f:=h;injection h with h;subst h;exact⟨λ_ _=>by kernel_rfl⟩
  ·have h:some 209=some f:=h;injection h with h;subst h;exact⟨λ_ _=>by kernel_rfl⟩
  ·have h:some 210=some f:=h;injection h with h;subst h;exact⟨λ_ _=>by kernel_rfl⟩
  ·have h:some 211=some f:=h;injection h with h;subst h;exact⟨λ_ _=>by kernel_rfl⟩
  ·have h:some 212=some f:=h;injection h with h;subst h;exact⟨λ_ _=>by kernel_rfl⟩
 ·rw[ml a] at h;cases h
def EnvM(w:World)(m:Nat)(env:ByteArray->Option Int):Prop:=∃a,MV w m a/\(∀b,b∈a->MapKept.IsKey .string b.1)/\∀s:ByteArray,bd a (.string s)=(env s).map (Value.int .i64)
theorem EnvM.ext{w a:World}{m:Nat}{env:ByteArray->Option Int}(h:EnvM w m env)(f:Ext w a):EnvM a m env:=by
 obtain⟨b,c,d,e⟩:=h;exact⟨b,c.ext f,d,e⟩
theorem EnvM.look{w:World}{m:Nat}{env:ByteArray->Option Int}(h:EnvM w m env)(s:ByteArray):
 (Instr.lookup 93 (.map (some m)) (.string s) true).run Tryz.prog w=.ok (.tuple #[.int .i64 ((env s).getD 0),.bool (env s).isSome]) w:=by
 obtain⟨d,a,b,c⟩:=h;have:=a.lookup (et:=3) underlying93 underlying9 (k:=.string s) trivial b (z:=.int .i64 0) (by kernel_rfl) true;rw[this,c];cases env s<;>rfl
def cu(a:Int×Int):Value:=.tuple #[.int .i64 a.1,.int .i64 a.2]
theorem wT{v:Int}(h:0<=v):cO (min v 1099511627776)=cO v:=by
 by_cases a:v<=2147483647
 ·rw[show min v 1099511627776=v by omega]
 ·rw[show cO v=(0,62) from if_neg (λh:bU v=>a h.2)];exact if_neg (λh:bU _=>by have:=h.2;omega)
def dR(B m:Nat)(env:ByteArray->Option Int)(x:X):Prop:=∀(w:World) (a:List Value),RX w B x a->B<=w.heap.size->EnvM w m env->
 Calls Tryz.prog 146 #[.agg a.toArray,.map (some m)] w λe b=>e=.returned (cu (aN env x))/\Ext w b
theorem xV(B m:Nat)(env:ByteArray->Option Int)(x:X)(c:x.op=1)(h2:x.w=0)(p:∀i,i∈x.l->dR B m env i)(f:MayX x)(g:VX x):dR B m env x:=by
 intro w M b O z;have k:=Hd b;obtain⟨E,rfl,d⟩:=RX_iff.1 b;have Y:=d.oneCell;obtain⟨C,V,-,-⟩:=VX_iff.1 g;obtain⟨⟨A,-,-,-⟩,-⟩:=MayX_iff.1 f;have a:=fp env x;obtain⟨t,N,P,h,U,G,H,I,J,K,L⟩:=cA w (.int .i64 x.op) (.string x.name) (.int .i64 x.n) (.int .i64 x.w) (.int .u64 x.v) E 40;have j:=Hd (show ECalls Tryz.prog 180 #[.int .i64 x.n] t (cW x.n) from λD W=>hX x.n D);have r:=Hd (λ(F:Int) (w:World)=>gK F w);have q:=Hd (λ(u:Bool) (w:World)=>dC u w);have T:∀w:World,(binOp BinOp.neq 228 .nilFunc .nilFunc).run Tryz.prog w=.ok (.bool false) w:=λ_=>by kernel_rfl
 have Q:∀(y:Nat) (w:World),(binOp BinOp.neq 228 (.func (.func y) #[] #[]) .nilFunc).run Tryz.prog w=.ok (.bool true) w:=λ_ _=>by kernel_rfl
 have s:=Hd h;have a:aN env x=cO (min x.v 1099511627776):=by rw[a];unfold eG;rw[if_pos ⟨c,h2⟩,wT C]
 rw[a];have R:0<=min x.v 1099511627776:=by omega
 have S:min x.v 1099511627776<=1099511627776:=by omega
 unfold cu;clear a b d k f g A p z h;generalize x.op=op at*;generalize x.w=wd at*;subst c h2;generalize cW x.n=mv at*;go_enter func146,ntmps146
 go_wp2_with (first
  |(go_at_call 180;refine(j.o.at_ _).mono ?_;rintro _ _ ⟨rfl,e,rfl⟩)
  |(go_at_call 181;refine(r.o _ _).mono ?_;rintro _ _ ⟨rfl,rfl⟩)
  |(go_at_call 182;refine(q.o _ _).mono ?_;rintro _ _ ⟨rfl,rfl⟩))
 go_ret2;exact⟨rfl,s.o.trans (ag _)⟩
theorem Aj(B m:Nat)(env:ByteArray->Option Int)(x:X)(p:x.op=2)(z:∀u,u∈x.l->dR B m env u)(s:MayX x)(t:VX x):dR B m env x:=by
 intro w M d O q;have y:=Hd d;obtain⟨F,rfl,r⟩:=RX_iff.1 d;have W:=r.oneCell;obtain⟨T,U,-,-⟩:=VX_iff.1 t;obtain⟨⟨D,-,-,-⟩,-⟩:=MayX_iff.1 s;have a:=fp env x;obtain⟨k,N,P,f,S,G,H,I,J,K,L⟩:=cA w (.int .i64 x.op) (.string x.name) (.int .i64 x.n) (.int .i64 x.w) (.int .u64 x.v) F 40;have g:=Hd (show ECalls Tryz.prog 180 #[.int .i64 x.n] k (cW x.n) from λE V=>hX x.n E);have i:=Hd (λ(c:Int) (w:World)=>gK c w);have h:=Hd (λ(A:Bool) (w:World)=>dC A w);have R:∀w:World,(binOp BinOp.neq 228 .nilFunc .nilFunc).run Tryz.prog w=.ok (.bool false) w:=λ_=>by kernel_rfl
 have Q:∀(C:Nat) (w:World),(binOp BinOp.neq 228 (.func (.func C) #[] #[]) .nilFunc).run Tryz.prog w=.ok (.bool true) w:=λ_ _=>by kernel_rfl
 have j:=Hd f;have a:aN env x=jc (env x.name):=by rw[a];unfold eG;rw[if_neg zO,if_pos p]
 rw[a];have b:=λe:Later k=>(q.ext (f.trans e.ext)).look x.name
 unfold cu;clear a d r y s t D z q f;generalize x.op=op at*;subst p;generalize cW x.n=mv at*;cases hz:env x.name with
 |none=>
  rw[hz] at b;rw[show jc none=(0,60) from rfl];simp only[Option.getD_none,Option.isSome_none] at b;clear hz;go_enter func146,ntmps146;go_wp2_with (first
  |(go_at_call 180;refine(g.o.at_ _).mono ?_;rintro _ _ ⟨rfl,e,rfl⟩)
  |(go_at_call 181;refine(i.o _ _).mono ?_;rintro _ _ ⟨rfl,rfl⟩)
  |(go_at_call 182;refine(h.o _ _).mono ?_;rintro _ _ ⟨rfl,rfl⟩))
  go_ret2;exact⟨rfl,j.o.trans (ag _)⟩
 |some c=>
  rw[hz] at b;rw[show jc (some c)=cO c from rfl];simp only[Option.getD_some,Option.isSome_some] at b;clear hz;go_enter func146,ntmps146;go_wp2_with (first
  |(go_at_call 180;refine(g.o.at_ _).mono ?_;rintro _ _ ⟨rfl,e,rfl⟩)
  |(go_at_call 181;refine(i.o _ _).mono ?_;rintro _ _ ⟨rfl,rfl⟩)
  |(go_at_call 182;refine(h.o _ _).mono ?_;rintro _ _ ⟨rfl,rfl⟩))
  go_ret2;exact⟨rfl,j.o.trans (ag _)⟩
theorem vT(B m:Nat)(env:ByteArray->Option Int)(x:X)(j:¬(x.op=1/\x.w=0))(h2:x.op≠2)(h3:¬opK x.op x.n)(E:∀C,C∈x.l->dR B m env C)(u:MayX x)(z:VX x):dR B m env x:=by
 intro w V k Y I;have D:=Hd k;obtain⟨N,rfl,t⟩:=RX_iff.1 k;have a7:=t.oneCell;obtain⟨a4,a5,-,-⟩:=VX_iff.1 z;obtain⟨⟨L,-,-,-⟩,-⟩:=MayX_iff.1 u;have f:=fp env x;obtain⟨F,W,Z,A,a3,P,Q,R,S,T,U⟩:=cA w (.int .i64 x.op) (.string x.name) (.int .i64 x.n) (.int .i64 x.w) (.int .u64 x.v) N 40;have g:=Hd (show ECalls Tryz.prog 180 #[.int .i64 x.n] F (cW x.n) from λM a6=>hX x.n M);have r:=Hd (λ(O:Int) (w:World)=>gK O w);have q:=Hd (λ(G:Bool) (w:World)=>dC G w);have a2:∀w:World,(binOp BinOp.neq 228 .nilFunc .nilFunc).run Tryz.prog w=.ok (.bool false) w:=λ_=>by kernel_rfl
 have a1:∀(H:Nat) (w:World),(binOp BinOp.neq 228 (.func (.func H) #[] #[]) .nilFunc).run Tryz.prog w=.ok (.bool true) w:=λ_ _=>by kernel_rfl
 have s:=Hd A;have f:aN env x=(0,61):=by rw[f];unfold eG;rw[if_neg j,if_neg h2,if_neg h3]
 rw[f];unfold cu;have p:x.op=6->cW x.n=.nilFunc:=λa=>by
  unfold cW;rw[ml (λy=>h3 (.inr (.inl ⟨a,y.1,y.2⟩)))]
 have J:((x.op:Int)==2)=false:=by simpa using h2
 have K:((x.op:Int)==7)=false:=by simpa using(λa:x.op=7=>h3 (.inr (.inr a)))
 have c:((x.op:Int)==5)=false\/((x.n:Int)==6)=false:=by
  by_cases a:x.op=5
  ·right;simpa using(λi:x.n=6=>h3 (.inl ⟨a,i⟩))
  ·left;simpa using a
 have b:((x.op:Int)==1)=false\/((x.w:Int)==0)=false:=by
  by_cases a:x.op=1
  ·right;simpa using(λi:x.w=0=>j ⟨a,i⟩)
  ·left;simpa using a
 have h:=Hd (aq c b);clear f k t D u z L E I A j h2 h3 c b;by_cases d:x.op=6
 ·rw[p d] at g;clear p h J K;generalize x.op=op at*;subst d;go_enter func146,ntmps146;go_wp2_with (first
  |(go_at_call 180;refine(g.o.at_ _).mono ?_;rintro _ _ ⟨rfl,e,rfl⟩)
  |(go_at_call 181;refine(r.o _ _).mono ?_;rintro _ _ ⟨rfl,rfl⟩)
  |(go_at_call 182;refine(q.o _ _).mono ?_;rintro _ _ ⟨rfl,rfl⟩))
  all_goals
   go_ret2;exact⟨rfl,s.o.trans (ag _)⟩
 ·have a0:((x.op:Int)==6)=false:=by simpa using d
  clear d p;generalize cW x.n=mv at*;obtain⟨c,b⟩:=h.o;rcases c with c|c<;>rcases b with b|b
  all_goals
   clear h;go_enter func146,ntmps146;go_wp2_with (first
  |(go_at_call 180;refine(g.o.at_ _).mono ?_;rintro _ _ ⟨rfl,e,rfl⟩)
  |(go_at_call 181;refine(r.o _ _).mono ?_;rintro _ _ ⟨rfl,rfl⟩)
  |(go_at_call 182;refine(q.o _ _).mono ?_;rintro _ _ ⟨rfl,rfl⟩))
   all_goals
    go_ret2;exact⟨rfl,s.o.trans (ag _)⟩
theorem xU(B m:Nat)(env:ByteArray->Option Int)(x:X)(g:x.op=5)(h2:x.n=6)(p:∀K,K∈x.l->dR B m env K)(G:MayX x)(J:VX x):dR B m env x:=by
 intro w a8 h y A;have L:=Hd h;obtain⟨W,rfl,D⟩:=RX_iff.1 h;have c0:=D.oneCell;obtain⟨b7,b8,-,-⟩:=VX_iff.1 J;obtain⟨⟨H,-,-,-⟩,-⟩:=MayX_iff.1 G;have c:=fp env x;obtain⟨u,a9,b0,a,b6,a1,a2,a3,a4,a5,a6⟩:=cA w (.int .i64 x.op) (.string x.name) (.int .i64 x.n) (.int .i64 x.w) (.int .u64 x.v) W 40;have k:=Hd (show ECalls Tryz.prog 180 #[.int .i64 x.n] u (cW x.n) from λj d=>hX x.n j);have s:=Hd (λ(Y:Int) (w:World)=>gK Y w);have r:=Hd (λ(M:Bool) (w:World)=>dC M w);have b5:∀w:World,(binOp BinOp.neq 228 .nilFunc .nilFunc).run Tryz.prog w=.ok (.bool false) w:=λ_=>by kernel_rfl
 have b4:∀(T:Nat) (w:World),(binOp BinOp.neq 228 (.func (.func T) #[] #[]) .nilFunc).run Tryz.prog w=.ok (.bool true) w:=λ_ _=>by kernel_rfl
 have t:=Hd a;have F:x.l.length=1:=by unfold eg at H;omega
 obtain⟨Z,a7,rfl,V,I⟩:=D;have E:0<x.l.length:=by omega
 have q:=p x.l[0] (an E);obtain⟨a0,b9,u00,u01,u02,u03,u04,u05,U,b1,C,z,-,-,-,-,-,-⟩:=I.open6 E;have f:=Hd (show ECalls Tryz.prog 146 #[.agg #[u00,u01,u02,u03,u04,u05],.map (some m)] u (cu (aN env x.l[0])) from λj d=>q j _ (C.ext (a.trans d) y) (ad (ad y a.size) d.size) (A.ext (a.trans d)));obtain⟨N,O,P,Q,R,S⟩:=(z.ext a).later6;clear q C z;have c:aN env x=if(aN env x.l[0]).2≠0 then((0:Int),(aN env x.l[0]).2) else(cv ((aN env x.l[0]).1==0),(0:Int)):=by
  rw[c];unfold eG;rw[if_neg zO,if_neg zO,if_pos (.inl ⟨g,h2⟩),if_pos g];simp[F]
 rw[c];generalize aN env x.l[0]=r0 at*;obtain⟨c1,i⟩:=r0;subst U;unfold cu at*;simp only at f⊢;clear c h L G J H p A a I F V;generalize x.op=op at*;generalize x.n=nn at*;subst g h2;generalize cW 6=mv at*;simp only[Nat.zero_mul,Nat.one_mul,Nat.add_zero,Nat.reduceMul,Nat.reduceAdd,Nat.add_assoc] at N O P Q R S;by_cases b:i=0
 ·subst b;rw[if_neg zS];go_enter func146,ntmps146;go_wp2_with (first
  |(go_at_call 180;refine(k.o.at_ _).mono ?_;rintro _ _ ⟨rfl,e,rfl⟩)
  |(go_at_call 181;refine(s.o _ _).mono ?_;rintro _ _ ⟨rfl,rfl⟩)
  |(go_at_call 182;refine(r.o _ _).mono ?_;rintro _ _ ⟨rfl,rfl⟩)
  |(go_at_call 146;with_reducible refine(f.o.at_ _).mono ?_;rintro _ _ ⟨rfl,e,rfl⟩))
  go_ret2;exact⟨rfl,t.o.trans (ag _)⟩
 ·rw[if_pos b];have b2:((i:Int)==0)=false:=by simpa using b
  have b3:((i:Int) !=0)=true:=by simpa using b
  clear b;go_enter func146,ntmps146;go_wp2_with (first
  |(go_at_call 180;refine(k.o.at_ _).mono ?_;rintro _ _ ⟨rfl,e,rfl⟩)
  |(go_at_call 181;refine(s.o _ _).mono ?_;rintro _ _ ⟨rfl,rfl⟩)
  |(go_at_call 182;refine(r.o _ _).mono ?_;rintro _ _ ⟨rfl,rfl⟩)
  |(go_at_call 146;with_reducible refine(f.o.at_ _).mono ?_;rintro _ _ ⟨rfl,e,rfl⟩))
  go_ret2;exact⟨rfl,t.o.trans (ag _)⟩
theorem Ai(B m:Nat)(env:ByteArray->Option Int)(x:X)(y:x.op=7)(i:∀a4,a4∈x.l->dR B m env a4)(Z:MayX x)(a1:VX x):dR B m env x:=by
 intro w e2 z g k;have a5:=Hd z;obtain⟨d2,rfl,R⟩:=RX_iff.1 z;have f6:=R.oneCell;obtain⟨f3,f4,-,-⟩:=VX_iff.1 a1;obtain⟨⟨a0,-,-,-⟩,-⟩:=MayX_iff.1 Z;have p:=fp env x;obtain⟨d,e3,e4,a,f2,d5,d6,d7,d8,d9,e0⟩:=cA w (.int .i64 x.op) (.string x.name) (.int .i64 x.n) (.int .i64 x.w) (.int .u64 x.v) d2 40;have r:=Hd (show ECalls Tryz.prog 180 #[.int .i64 x.n] d (cW x.n) from λc b=>hX x.n c);have t:=Hd (λ(d3:Int) (w:World)=>gK d3 w);have s:=Hd (λ(a6:Bool) (w:World)=>dC a6 w);have f1:∀w:World,(binOp BinOp.neq 228 .nilFunc .nilFunc).run Tryz.prog w=.ok (.bool false) w:=λ_=>by kernel_rfl
 have f0:∀(c7:Nat) (w:World),(binOp BinOp.neq 228 (.func (.func c7) #[] #[]) .nilFunc).run Tryz.prog w=.ok (.bool true) w:=λ_ _=>by kernel_rfl
 have u:=Hd a;have A:x.l.length=3:=by unfold eg at a0;omega
 obtain⟨d4,e1,rfl,c9,q⟩:=R;have U:0<x.l.length:=by omega
 have D:=i x.l[0] (an U);obtain⟨K,a2,u00,u01,u02,u03,u04,u05,c8,e5,O,L,-,-,-,-,-,-⟩:=q.open6 U;have j:=Hd (show ECalls Tryz.prog 146 #[.agg #[u00,u01,u02,u03,u04,u05],.map (some m)] d (cu (aN env x.l[0])) from λc b=>D c _ (O.ext (a.trans b) g) (ad (ad g a.size) b.size) (k.ext (a.trans b)));obtain⟨a9,b0,b1,b2,b3,b4⟩:=(L.ext a).later6;clear D O L;have V:1<x.l.length:=by omega
 have E:=i x.l[1] (an V);obtain⟨a7,d0,u10,u11,u12,u13,u14,u15,S,e6,P,M,-,-,-,-,-,-⟩:=q.open6 V;have I:=Hd (show ECalls Tryz.prog 146 #[.agg #[u10,u11,u12,u13,u14,u15],.map (some m)] d (cu (aN env x.l[1])) from λc b=>E c _ (P.ext (a.trans b) g) (ad (ad g a.size) b.size) (k.ext (a.trans b)));obtain⟨b5,b6,b7,b8,b9,c0⟩:=(M.ext a).later6;clear E P M;have Y:2<x.l.length:=by omega
 have F:=i x.l[2] (an Y);obtain⟨a8,d1,u20,u21,u22,u23,u24,u25,T,e7,Q,N,-,-,-,-,-,-⟩:=q.open6 Y;have J:=Hd (show ECalls Tryz.prog 146 #[.agg #[u20,u21,u22,u23,u24,u25],.map (some m)] d (cu (aN env x.l[2])) from λc b=>F c _ (Q.ext (a.trans b) g) (ad (ad g a.size) b.size) (k.ext (a.trans b)));obtain⟨c1,c2,c3,c4,c5,c6⟩:=(N.ext a).later6;clear F Q N;have G:=Hd (show ECalls Tryz.prog 182 #[.bool false] d (.int .i64 0) from ECalls.still λc _=>dC false c);have H:=Hd (show ECalls Tryz.prog 182 #[.bool true] d (.int .i64 1) from ECalls.still λc _=>dC true c);have p:aN env x=if(aN env x.l[0]).2≠0 then((0:Int),(aN env x.l[0]).2) else if(aN env x.l[0]).1=0 then aN env x.l[2] else aN env x.l[1]:=by
  rw[p];unfold eG;rw[if_neg zO,if_neg zO,if_pos (.inr (.inr y)),if_neg (show¬x.op=5 by omega),if_pos y];by_cases f:(aN env x.l[0]).1=0
  ·simp[A,f]
  ·simp[A,f]
 rw[p];generalize aN env x.l[0]=r0 at*;generalize aN env x.l[1]=r1 at*;generalize aN env x.l[2]=r2 at*;obtain⟨a3,C⟩:=r0;obtain⟨f7,f8⟩:=r1;obtain⟨f9,g0⟩:=r2;subst c8;obtain⟨rfl,rfl⟩:K=a7/\a2=d0:=by simpa using S
 obtain⟨rfl,rfl⟩:K=a8/\a2=d1:=by simpa using T
 unfold cu at*;simp only at j I J⊢;clear p z a5 Z a1 a0 i k a q A c9 S T;generalize x.op=op at*;subst y;generalize cW x.n=mv at*;simp only[Nat.zero_mul,Nat.one_mul,Nat.add_zero,Nat.reduceMul,Nat.reduceAdd,Nat.add_assoc] at a9 b0 b1 b2 b3 b4 b5 b6 b7 b8 b9 c0 c1 c2 c3 c4 c5 c6;by_cases h:C=0
 ·subst h;rw[if_neg zS];by_cases f:a3=0
  ·subst f;simp only[if_true];go_enter func146,ntmps146;go_wp2_with (first
  |(go_at_call 180;refine(r.o.at_ _).mono ?_;rintro _ _ ⟨rfl,e,rfl⟩)
  |(go_at_call 181;refine(t.o _ _).mono ?_;rintro _ _ ⟨rfl,rfl⟩)
  |(go_at_call 182;refine(s.o _ _).mono ?_;rintro _ _ ⟨rfl,rfl⟩)
  |(go_at_call 146;with_reducible refine(j.o.at_ _).mono ?_;rintro _ _ ⟨rfl,e,rfl⟩))
   refine dM (W:=d) (by kernel_rfl) (by kernel_rfl) (ag _) ?_
   repeat (go_big_quiet_step (first
    |(go_at_call 182;with_reducible exact G.o.at_ _)|(go_at_call 182;with_reducible exact H.o.at_ _)
    |(go_at_call 146;exact J.o.at_ _)))
   refine wpQuiet_nil ?_;rintro _ ⟨e,rfl⟩;go_wp2_with fail
   go_ret2;exact⟨rfl,u.o.trans (ag _)⟩
  ·rw[if_neg f];have f5:((a3:Int)==0)=false:=by simpa using f
   clear f;go_enter func146,ntmps146;go_wp2_with (first
  |(go_at_call 180;refine(r.o.at_ _).mono ?_;rintro _ _ ⟨rfl,e,rfl⟩)
  |(go_at_call 181;refine(t.o _ _).mono ?_;rintro _ _ ⟨rfl,rfl⟩)
  |(go_at_call 182;refine(s.o _ _).mono ?_;rintro _ _ ⟨rfl,rfl⟩)
  |(go_at_call 146;with_reducible refine(j.o.at_ _).mono ?_;rintro _ _ ⟨rfl,e,rfl⟩))
   refine dM (W:=d) (by kernel_rfl) (by kernel_rfl) (ag _) ?_
   repeat (go_big_quiet_step (first
    |(go_at_call 182;with_reducible exact G.o.at_ _)|(go_at_call 182;with_reducible exact H.o.at_ _)
    |(go_at_call 146;exact I.o.at_ _)))
   refine wpQuiet_nil ?_;rintro _ ⟨e,rfl⟩;go_wp2_with fail
   go_ret2;exact⟨rfl,u.o.trans (ag _)⟩
 ·rw[if_pos h];have e8:((C:Int)==0)=false:=by simpa using h
  have e9:((C:Int) !=0)=true:=by simpa using h
  clear h;go_enter func146,ntmps146;go_wp2_with (first
  |(go_at_call 180;refine(r.o.at_ _).mono ?_;rintro _ _ ⟨rfl,e,rfl⟩)
  |(go_at_call 181;refine(t.o _ _).mono ?_;rintro _ _ ⟨rfl,rfl⟩)
  |(go_at_call 182;refine(s.o _ _).mono ?_;rintro _ _ ⟨rfl,rfl⟩)
  |(go_at_call 146;with_reducible refine(j.o.at_ _).mono ?_;rintro _ _ ⟨rfl,e,rfl⟩))
  go_ret2;exact⟨rfl,u.o.trans (ag _)⟩
theorem xW(B m:Nat)(env:ByteArray->Option Int)(x:X)(N:x.op=6)(t:14<=x.n/\x.n<=26)(y:∀a4,a4∈x.l->dR B m env a4)(a0:MayX x)(a3:VX x):dR B m env x:=by
 intro w d5 F q E;have a5:=Hd F;obtain⟨c5,rfl,S⟩:=RX_iff.1 F;have f0:=S.oneCell;obtain⟨e6,e7,-,-⟩:=VX_iff.1 a3;obtain⟨⟨a2,-,-,-⟩,-⟩:=MayX_iff.1 a0;have r:=fp env x;obtain⟨A,d6,d7,a,e5,c8,c9,d0,d1,d2,d3⟩:=cA w (.int .i64 x.op) (.string x.name) (.int .i64 x.n) (.int .i64 x.w) (.int .u64 x.v) c5 40;have c:=Hd (show ECalls Tryz.prog 180 #[.int .i64 x.n] A (cW x.n) from λi b=>hX x.n i);have p:=Hd (λ(c6:Int) (w:World)=>gK c6 w);have j:=Hd (λ(f:Bool) (w:World)=>dC f w);have e4:∀w:World,(binOp BinOp.neq 228 .nilFunc .nilFunc).run Tryz.prog w=.ok (.bool false) w:=λ_=>by kernel_rfl
 have e3:∀(D:Nat) (w:World),(binOp BinOp.neq 228 (.func (.func D) #[] #[]) .nilFunc).run Tryz.prog w=.ok (.bool true) w:=λ_ _=>by kernel_rfl
 have z:=Hd a;have Z:x.l.length=2:=by unfold eg at a2;omega
 obtain⟨c7,d4,rfl,c2,G⟩:=S;have W:0<x.l.length:=by omega
 have J:=y x.l[0] (an W);obtain⟨a7,c3,u00,u01,u02,u03,u04,u05,c1,d8,Q,O,-,-,-,-,-,-⟩:=G.open6 W;have d:=Hd (show ECalls Tryz.prog 146 #[.agg #[u00,u01,u02,u03,u04,u05],.map (some m)] A (cu (aN env x.l[0])) from λi b=>J i _ (Q.ext (a.trans b) q) (ad (ad q a.size) b.size) (E.ext (a.trans b)));obtain⟨a9,b0,b1,b2,b3,b4⟩:=(O.ext a).later6;clear J Q O;have Y:1<x.l.length:=by omega
 have K:=y x.l[1] (an Y);obtain⟨a8,c4,u10,u11,u12,u13,u14,u15,T,d9,R,P,-,-,-,-,-,-⟩:=G.open6 Y;have k:=Hd (show ECalls Tryz.prog 146 #[.agg #[u10,u11,u12,u13,u14,u15],.map (some m)] A (cu (aN env x.l[1])) from λi b=>K i _ (R.ext (a.trans b) q) (ad (ad q a.size) b.size) (E.ext (a.trans b)));obtain⟨b5,b6,b7,b8,b9,c0⟩:=(P.ext a).later6;clear K R P;obtain⟨D,s⟩:=Ap t;have a1:cW x.n=.func (.func D) #[] #[]:=by unfold cW fnV;rw[s]
 have e0:=(BN s).o;have a6:=Hd (λ(C f:Int) (w:World) (L:0<=C/\C<=2147483647) (M:0<=f/\f<=2147483647)=>ym s C f w L.1 L.2 M.1 M.2);have U:=lx (env:=env) (x:=x.l[0]);have V:=lx (env:=env) (x:=x.l[1]);have r:aN env x=if(aN env x.l[0]).2≠0 then((0:Int),(aN env x.l[0]).2) else if(aN env x.l[1]).2≠0 then((0:Int),(aN env x.l[1]).2) else cO (bO x.n (aN env x.l[0]).1 (aN env x.l[1]).1):=by
  rw[r];unfold eG;rw[if_neg zO,if_neg zO,if_pos (.inr (.inl ⟨N,t.1,t.2⟩)),if_neg (show¬x.op=5 by omega),if_neg (show¬x.op=7 by omega)];simp[Z]
 rw[r];rw[a1] at c;generalize aN env x.l[0]=r0 at*;generalize aN env x.l[1]=r1 at*;obtain⟨f1,H⟩:=r0;obtain⟨f2,I⟩:=r1;subst c1;obtain⟨rfl,rfl⟩:a7=a8/\c3=c4:=by simpa using T
 have u:=Hd (aq U V);unfold cu at*;simp only at d k u⊢;clear r F a5 a0 a3 a2 y E a G Z c2 T s a1 t U V;generalize x.op=op at*;subst N;simp only[Nat.zero_mul,Nat.one_mul,Nat.add_zero,Nat.reduceMul,Nat.reduceAdd,Nat.add_assoc] at a9 b0 b1 b2 b3 b4 b5 b6 b7 b8 b9 c0;by_cases g:H=0
 ·subst g;rw[if_neg zS];by_cases h:I=0
  ·subst h;rw[if_neg zS];go_enter func146,ntmps146;go_wp2_with (first
  |(go_at_call 180;refine(c.o.at_ _).mono ?_;rintro _ _ ⟨rfl,e,rfl⟩)
  |(go_at_call 181;refine(p.o _ _).mono ?_;rintro _ _ ⟨rfl,rfl⟩)
  |(go_at_call 182;refine(j.o _ _).mono ?_;rintro _ _ ⟨rfl,rfl⟩)
  |(go_at_call 146;with_reducible refine(d.o.at_ _).mono ?_;rintro _ _ ⟨rfl,e,rfl⟩)
  |(go_at_call 146;with_reducible refine(k.o.at_ _).mono ?_;rintro _ _ ⟨rfl,e,rfl⟩))
   refine(a6.o _ _ _ u.o.1 u.o.2).mono ?_;rintro _ _ ⟨rfl,rfl⟩;go_wp2_with (first
  |(go_at_call 180;refine(c.o.at_ _).mono ?_;rintro _ _ ⟨rfl,e,rfl⟩)
  |(go_at_call 181;refine(p.o _ _).mono ?_;rintro _ _ ⟨rfl,rfl⟩)
  |(go_at_call 182;refine(j.o _ _).mono ?_;rintro _ _ ⟨rfl,rfl⟩)
  |(go_at_call 146;with_reducible refine(d.o.at_ _).mono ?_;rintro _ _ ⟨rfl,e,rfl⟩)
  |(go_at_call 146;with_reducible refine(k.o.at_ _).mono ?_;rintro _ _ ⟨rfl,e,rfl⟩))
   go_ret2;exact⟨rfl,z.o.trans (ag _)⟩
  ·rw[if_pos h];have e8:((I:Int)==0)=false:=by simpa using h
   have e9:((I:Int) !=0)=true:=by simpa using h
   clear h;go_enter func146,ntmps146;go_wp2_with (first
  |(go_at_call 180;refine(c.o.at_ _).mono ?_;rintro _ _ ⟨rfl,e,rfl⟩)
  |(go_at_call 181;refine(p.o _ _).mono ?_;rintro _ _ ⟨rfl,rfl⟩)
  |(go_at_call 182;refine(j.o _ _).mono ?_;rintro _ _ ⟨rfl,rfl⟩)
  |(go_at_call 146;with_reducible refine(d.o.at_ _).mono ?_;rintro _ _ ⟨rfl,e,rfl⟩)
  |(go_at_call 146;with_reducible refine(k.o.at_ _).mono ?_;rintro _ _ ⟨rfl,e,rfl⟩))
   go_ret2;exact⟨rfl,z.o.trans (ag _)⟩
 ·rw[if_pos g];have e1:((H:Int)==0)=false:=by simpa using g
  have e2:((H:Int) !=0)=true:=by simpa using g
  clear g;go_enter func146,ntmps146;go_wp2_with (first
  |(go_at_call 180;refine(c.o.at_ _).mono ?_;rintro _ _ ⟨rfl,e,rfl⟩)
  |(go_at_call 181;refine(p.o _ _).mono ?_;rintro _ _ ⟨rfl,rfl⟩)
  |(go_at_call 182;refine(j.o _ _).mono ?_;rintro _ _ ⟨rfl,rfl⟩)
  |(go_at_call 146;with_reducible refine(d.o.at_ _).mono ?_;rintro _ _ ⟨rfl,e,rfl⟩))
  go_ret2;exact⟨rfl,z.o.trans (ag _)⟩
theorem xT(B m:Nat)(env:ByteArray->Option Int)(x:X):MayX x->VX x->dR B m env x:=by
 induction x using X.ind with
 |h x ih=>
  intro b c;have j:=(MayX_iff.1 b).2;have k:=(VX_iff.1 c).2.2.2;have d:∀e,e∈x.l->dR B m env e:=λe g=>ih e g (j e g) (k e g)
  by_cases f:x.op=1/\x.w=0
  ·exact xV B m env x f.1 f.2 d b c
  ·by_cases i:x.op=2
   ·exact Aj B m env x i d b c
   ·by_cases a:opK x.op x.n
    ·rcases a with a|a|a
     ·exact xU B m env x a.1 a.2 d b c
     ·exact xW B m env x a.1 a.2 d b c
     ·exact Ai B m env x a d b c
    ·exact vT B m env x f i a d b c
