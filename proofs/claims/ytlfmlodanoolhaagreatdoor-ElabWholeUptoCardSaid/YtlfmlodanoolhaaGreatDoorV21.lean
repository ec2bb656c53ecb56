import Derived.Test.YtlfmlodanoolhaaGreatDoorV20
set_option linter.all false
set_option maxRecDepth 200000
set_option maxHeartbeats 0
namespace Go.Proofs.YtlfmlodanoolhaaGreatDoor
open Go Go.RowKit Go.Proofs.Tryz
attribute [local go_sem] bc
def fJ(a:SRow)(x:Itm):Prop:=cV (a.name=true) x.name/\cV (a.of=true) x.of/\(x.x.length:Int)=a.x/\(x.op=4->fy x.x)/\
 (a.s=true\/x.s.length=0)/\(a.l=true\/x.l.length=0)/\(a.els=true\/x.els.length=0)/\(a.bind=true\/x.params.length=0/\x.binds.length=0)
theorem wE{x:Itm}(k:Nat)(b:SRow)(a:shapeRows[k]? =some b)(e:1<=k)(f:k<=10)(d:x.op=k):fH x↔fJ b x:=by
 unfold fH fJ mL;rw[d];have c:k=1\/k=2\/k=3\/k=4\/k=5\/k=6\/k=7\/k=8\/k=9\/k=10:=by omega
 rcases c with rfl|rfl|rfl|rfl|rfl|rfl|rfl|rfl|rfl|rfl
 all_goals
  simp only[shapeRows,List.getElem?_cons_succ,List.getElem?_cons_zero,Option.some.injEq] at a;subst a;simp;try omega
theorem wB{x:Itm}(c:x.op<1\/10<x.op):¬fH x:=by
 rintro⟨a,b,_⟩;omega
theorem xG(op:Int)(j:op<1\/10<op)(a b c d f g h i:Value)(C:a.oneCell'=true)(D:b.oneCell'=true)(E:c.oneCell'=true)(F:d.oneCell'=true)(G:f.oneCell'=true)(H:g.oneCell'=true)(I:h.oneCell'=true)(J:i.oneCell'=true)(w:World):
 Calls Tryz.prog 140 #[.agg #[.int .i64 op,a,b,c,d,f,g,h,i]] w λe m=>e=.returned (.bool false)/\Ext w m:=by
 obtain⟨n,y,A,k,B,o,p,q,r,s,t,u,v,x⟩:=jb w (.int .i64 op) a b c d f g h i 37;by_cases l:op<1
 ·clear j
  go_in
  go_wp2_with fail
  go_ret;exact⟨rfl,k.trans (ag _)⟩
 ·have z:11<=op:=by omega
  have l:1<=op:=by omega
  clear j
  go_in
  go_wp2_with fail
  go_ret;exact⟨rfl,k.trans (ag _)⟩
def pB(B:Nat)(x:Itm):Prop:=∀(w:World) (a:List Value),Tabs w->RI w B x a->B<=w.heap.size->
 Calls Tryz.prog 140 #[.agg a.toArray] w λe b=>e=.returned (.bool (yes (MayI x)))/\Ext w b
theorem lN(B:Nat)(l:List Itm)(h:∀a,a∈l->pB B a)(j:l.length<=1000000000)(w:World)(v:Value)(g:Tabs w)(f:Sl (RI w B) w B 9 l v)(d:B<=w.heap.size):
 Calls Tryz.prog 139 #[v,.func (.func 140) #[] #[]] w λe b=>e=.returned (.bool (yes (∀a,a∈l->MayI a)))/\Ext w b:=
 zu _ Bw MayI B l w (λa n b c m k i=>h a n b c (g.ext m) k i) v f d j
theorem lM(B:Nat)(l:List Bnd)(n:aa au l<=65536)(k:∀a,a∈l->VB a)(w:World)(v:Value)(h:Tabs w)(g:Sl (RB w B) w B 7 l v)(f:B<=w.heap.size):
 Calls Tryz.prog 136 #[v,.func (.func 137) #[] #[]] w λe b=>e=.returned (.bool (yes (∀a,a∈l->cq a)))/\Ext w b:=
 zt _ Bv cq B l w (λa c b d m j i=>xE B a b d (h.ext m) j i (by have:=ay au l a c;omega) (k a c)) v g f (by have:=aw au l du;omega)
theorem xJ(B:Nat)(l:List Prt)(n:aa aJ l<=65536)(k:∀a,a∈l->VP a)(w:World)(v:Value)(h:Tabs w)(g:Sl (RP w B) w B 8 l v)(f:B<=w.heap.size):
 Calls Tryz.prog 138 #[v,.func (.func 133) #[] #[]] w λe b=>e=.returned (.bool (yes (∀a,a∈l->fV a)))/\Ext w b:=
 zw _ Bz fV B l w (λa c b d m j i=>xI B a b d (h.ext m) j i (by have:=ay aJ l a c;omega) (k a c)) v g f (by have:=aw aJ l gQ;omega)
def dP(b1 b2:Bool)(b:Nat)(a:SRow)(cS cL cE cB:Bool)(ba bs bL be bp bb:Bool):Bool:=
 b1 && (b2 && (((b:Int)==a.x) && ((a.s||!cS) && ((a.l||!cL) && ((a.els||!cE) && ((a.bind||!cB) && (ba && (bs && (bL && (be && (bp && bb)))))))))))
theorem zX(k:Nat)(i:SRow)(E:shapeRows[k]? =some i)(g2:1<=k)(g3:k<=10)(g1:k≠4)(G of:ByteArray)(H I J K L M:Option Addr)(u v x y z A:Nat)(j sl g f h bl:Nat)(g4:h+bl<=1000000000)
 (b1 b2 ba bs bL be bp bb:Bool) (W:World) (a9:Tabs W)
 (l:ECalls Tryz.prog 174 #[.string G,.bool i.name] W (.bool b1)) (m:ECalls Tryz.prog 174 #[.string of,.bool i.of] W (.bool b2))
 (t:ECalls Tryz.prog 173 #[.slice H j u,.func (.func 135) #[] #[]] W (.bool ba))
 (s:ECalls Tryz.prog 176 #[.slice I sl v,.func (.func 177) #[] #[]] W (.bool bs))
 (q:ECalls Tryz.prog 139 #[.slice J g x,.func (.func 140) #[] #[]] W (.bool bL))
 (p:ECalls Tryz.prog 139 #[.slice K f y,.func (.func 140) #[] #[]] W (.bool be))
 (r:ECalls Tryz.prog 136 #[.slice L h z,.func (.func 137) #[] #[]] W (.bool bp))
 (n:ECalls Tryz.prog 136 #[.slice M bl A,.func (.func 137) #[] #[]] W (.bool bb)):
 Calls Tryz.prog 140 #[.agg #[.int .i64 k,.string G,.string of,.slice H j u,.slice I sl v,.slice J g x,.slice K f y,.slice L h z,.slice M bl A]] W
  λe f7=>e=.returned (.bool (dP b1 b2 j i (decide (0<sl)) (decide (0<g)) (decide (0<f)) (decide ((0:Int)<(h:Int)+bl)) ba bs bL be bp bb))/\Ext W f7:=by
 obtain⟨b8,b9,c1,c0,b7,b5,b4⟩:=i;obtain⟨a7,D⟩:∃d,decide (0<sl)=d:=⟨_,rfl⟩;obtain⟨a6,C⟩:∃d,decide (0<g)=d:=⟨_,rfl⟩;obtain⟨a5,B⟩:∃d,decide (0<f)=d:=⟨_,rfl⟩;obtain⟨c6,b0⟩:∃d,decide ((0:Int)<(h:Int)+bl)=d:=⟨_,rfl⟩;have e7:decide ((0:Int)<(sl:Int))=a7:=by rw[<-D];simp
 have e6:decide ((0:Int)<(g:Int))=a6:=by rw[<-C];simp
 have e5:decide ((0:Int)<(f:Int))=a5:=by rw[<-B];simp
 obtain⟨b6,F⟩:∃b6,b6=dP b1 b2 j ⟨b8,b9,c1,c0,b7,b5,b4⟩ a7 a6 a5 c6 ba bs bL be bp bb:=⟨_,rfl⟩;rw[D,C,B,b0,<-F];have U:=Hd F;clear F;obtain⟨N,O,P,Q,R,S,T⟩:=Cells.later7 (a9.shapes k _ E);have e8:=Hd E;clear E a9;have e4:((k:Int)==4)=false:=beq_eq_false_iff_ne.2 zO;obtain⟨f8,a8,e2,c,e9,V,X,Y,Z,a0,a1,a2,a3,a4⟩:=jb W (.int .i64 k) (.string G) (.string of) (.slice H j u) (.slice I sl v) (.slice J g x) (.slice K f y) (.slice L h z) (.slice M bl A) 37;have N:=am N c;have O:=am O c;have P:=am P c;have Q:=am Q c;have R:=am R c;have S:=am S c;have T:=am T c;obtain⟨f9,g0,e3,b3,f0,c7,c8,c9,d0,d1,d2,d3⟩:=kl a8.w (.bool b8) (.bool b9) (.int .i64 c1) (.bool c0) (.bool b7) (.bool b5) (.bool b4) 221;have a:=a8.ext.trans b3;have c3:=am V a;have c4:=am X a;have c5:=am Y a;have f1:=am Z a;have f2:=am a0 a;have f3:=am a1 a;have f4:=am a2 a;have f5:=am a3 a;have f6:=am a4 a;have b:=c.trans a;have l:=Hd (l.later b);have m:=Hd (m.later b);have t:=Hd (t.later b);have s:=Hd (s.later b);have q:=Hd (q.later b);have p:=Hd (p.later b);have r:=Hd (r.later b);have n:=Hd (n.later b)
 rename_i d4 d5 e1 e0 d8 d7 d9 d6
 clear d4 d5 e1 e0 d8 d7 d9 d6 c b3 a e9 f0 X Y Z a0 a1 a2 a3 a4
 go_in
 go_wp2_with (first
  |(go_at_call 174;with_reducible refine(l.o.at_ _).mono ?_;rintro _ _ ⟨rfl,e,rfl⟩)
  |(go_at_call 174;with_reducible refine(m.o.at_ _).mono ?_;rintro _ _ ⟨rfl,e,rfl⟩)
  |(go_at_call 173;with_reducible refine(t.o.at_ _).mono ?_;rintro _ _ ⟨rfl,e,rfl⟩)
  |(go_at_call 176;with_reducible refine(s.o.at_ _).mono ?_;rintro _ _ ⟨rfl,e,rfl⟩)
  |(go_at_call 139;with_reducible refine(q.o.at_ _).mono ?_;rintro _ _ ⟨rfl,e,rfl⟩)
  |(go_at_call 139;with_reducible refine(p.o.at_ _).mono ?_;rintro _ _ ⟨rfl,e,rfl⟩)
  |(go_at_call 136;with_reducible refine(r.o.at_ _).mono ?_;rintro _ _ ⟨rfl,e,rfl⟩)
  |(go_at_call 136;with_reducible refine(n.o.at_ _).mono ?_;rintro _ _ ⟨rfl,e,rfl⟩))
 all_goals
  go_ret;refine⟨?_,b.trans (ag _)⟩;rw[U.o];refine congrArg (λc2=>Ending.returned (Value.bool c2)) ?_;clear D C B b0 e7 e6 e5;clear U l m t s q p r n V c3 c4 c5 c7 c8 c9 d0 d1 d2 d3 f1 f2 f3 f4 f5 f6 e2 e3 e8 N O P Q R S T b e4;unfold dP
  simp_all
  try omega
