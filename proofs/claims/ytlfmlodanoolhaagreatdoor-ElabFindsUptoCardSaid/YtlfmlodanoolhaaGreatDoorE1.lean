import Derived.WalkKit
import Derived.Deep.Draws
import Derived.BigQuiet
set_option linter.all false
set_option maxRecDepth 200000
set_option maxHeartbeats 32000000
namespace Go.Proofs.YtlfmlodanoolhaaGreatDoor
open Go Go.RowKit
inductive X where
 |mk (op:Int) (name:ByteArray) (n w v:Int) (l:List X)
inductive S where
 |mk (op:Int) (name:ByteArray) (x:List X) (l:List S)
structure Bnd where
 name:ByteArray
 x:X
inductive Itm where
 |mk (op:Int) (name:ByteArray) (of:ByteArray) (x:List X) (s:List S) (l els:List Itm) (params binds:List Bnd)
structure Prt where
 name:ByteArray
 o:Bool
 w:X
structure Mdl where
 name:ByteArray
 params:List Bnd
 ports:List Prt
 items:List Itm
def X.op:X→Int|.mk op _ _ _ _ _=>op
def X.name:X→ByteArray|.mk _ nm _ _ _ _=>nm
def X.n:X→Int|.mk _ _ n _ _ _=>n
def X.w:X→Int|.mk _ _ _ w _ _=>w
def X.v:X→Int|.mk _ _ _ _ v _=>v
def X.l:X→List X|.mk _ _ _ _ _ l=>l
def S.op:S→Int|.mk op _ _ _=>op
def S.name:S→ByteArray|.mk _ nm _ _=>nm
def S.x:S→List X|.mk _ _ x _=>x
def S.l:S→List S|.mk _ _ _ l=>l
def Itm.op:Itm→Int|.mk op _ _ _ _ _ _ _ _=>op
def Itm.name:Itm→ByteArray|.mk _ nm _ _ _ _ _ _ _=>nm
def Itm.of:Itm→ByteArray|.mk _ _ of _ _ _ _ _ _=>of
def Itm.x:Itm→List X|.mk _ _ _ x _ _ _ _ _=>x
def Itm.s:Itm→List S|.mk _ _ _ _ s _ _ _ _=>s
def Itm.l:Itm→List Itm|.mk _ _ _ _ _ l _ _ _=>l
def Itm.els:Itm→List Itm|.mk _ _ _ _ _ _ e _ _=>e
def Itm.params:Itm→List Bnd|.mk _ _ _ _ _ _ _ ps _=>ps
def Itm.binds:Itm→List Bnd|.mk _ _ _ _ _ _ _ _ bs=>bs
mutual
theorem X.ind{P:X→Prop}(h:∀x,(∀y,y∈x.l→P y)→P x):∀x,P x
 |.mk op nm n w v l=>h _ (X.indL h l)
theorem X.indL{P:X→Prop}(h:∀x,(∀y,y∈x.l→P y)→P x):∀(l:List X) (y:X),y∈l→P y
 |[],_,hy=>by cases hy
 |a::r,y,hy=>by
  cases hy with
  |head=>exact X.ind h a
  |tail _ ht=>exact X.indL h r y ht
 end
mutual
theorem S.ind{P:S→Prop}(h:∀x,(∀y,y∈x.l→P y)→P x):∀x,P x
 |.mk op nm x l=>h _ (S.indL h l)
theorem S.indL{P:S→Prop}(h:∀x,(∀y,y∈x.l→P y)→P x):∀(l:List S) (y:S),y∈l→P y
 |[],_,hy=>by cases hy
 |a::r,y,hy=>by
  cases hy with
  |head=>exact S.ind h a
  |tail _ ht=>exact S.indL h r y ht
 end
mutual
theorem Itm.ind{P:Itm→Prop}(h:∀x,(∀y,y∈x.l→P y)→(∀y,y∈x.els→P y)→P x):∀x,P x
 |.mk op nm of x s l els ps bs=>h _ (Itm.indL h l) (Itm.indL h els)
theorem Itm.indL{P:Itm→Prop}(h:∀x,(∀y,y∈x.l→P y)→(∀y,y∈x.els→P y)→P x):∀(l:List Itm) (y:Itm),y∈l→P y
 |[],_,hy=>by cases hy
 |a::r,y,hy=>by
  cases hy with
  |head=>exact Itm.ind h a
  |tail _ ht=>exact Itm.indL h r y ht
 end
theorem z3e{a b c:Prop}(h:a∨b)(f:b→c):a∨c:=h.elim Or.inl (fun x=>Or.inr (f x))
theorem Hd{p:Prop}(h:p):Hid p:=h
theorem _root_.Go.RowKit.Hid.o{p:Prop}(h:Hid p):p:=h
theorem hmf_(P:Program)(fn:Fn)(first cap:Array Value)(w:World):(Instr.makeFunc fn first cap).run P w=.ok (.func fn first cap) w:=rfl
def Ext(w w':World):Prop:=Below w.heap.size w w'
theorem Ext.refl(w:World):Ext w w:=Below.refl _ _
theorem Ext.size{w w':World}(h:Ext w w'):w.heap.size≤w'.heap.size:=Below.size h
theorem Ext.trans{a b c:World}(h:Ext a b)(k:Ext b c):Ext a c:=Below.trans h (Below.mono k h.size)
theorem Ext.alloc{a w:World}(h:Ext a w)(o:Obj):Ext a (w.alloc o):=Below.alloc h h.size o
theorem Ext.new(w:World)(o:Obj):Ext w (w.alloc o):=(Ext.refl w).alloc o
theorem Ext.drew{a w:World}(h:Ext a w):Ext a w.drew:=Below.drew h
theorem Ext.setCell{a w:World}(h:Ext a w){p:Addr}(hp:a.heap.size≤p.block)(u:Value):Ext a (w.setCell p u):=Below.setCell h hp u
theorem Ext.cell{a w:World}(h:Ext a w){p:Addr}(hp:p.block<a.heap.size):w.cell? p=a.cell? p:=Below.cell h hp
theorem Ext.frozen{a w:World}(h:Ext a w){p:Addr}(hp:p.block<a.heap.size):w.frozen? p=a.frozen? p:=Below.frozen h hp
theorem Ext.heap{a w:World}(h:Ext a w){b:Nat}(hb:b<a.heap.size):w.heap[b]? =a.heap[b]? :=h.block b hb
theorem Ext.grown{a w w':World}{row:Option Nat}(h:Ext a w)(hg:w.grownBy w' row)(hr:∀k,row=some k→a.heap.size≤k):Ext a w':=Below.grown h hg h.size hr
theorem Ext.at_{a w:World}(h:Ext a w){p:Addr}{v:Value}(hc:a.cell? p=some v):w.cell? p=some v:=by
 refine(h.cell ?_).trans hc;rcases Nat.lt_or_ge p.block a.heap.size with hlt|hge
 ·exact hlt
 ·rw[World.cell?,Array.getElem?_eq_none hge] at hc;cases hc
structure Later(W:World) where
 w:World
 ext:Ext W w
instance {W:World}:Nonempty (Later W):=⟨⟨W,Ext.refl W⟩⟩
theorem Later.mk_ex{W w:World}(h:Ext W w):∃e:Later W,w=e.w:=⟨⟨w,h⟩,rfl⟩
theorem Later.calls{P:Program}{f:FuncId}{args:Array Value}{W:World}{e:Later W}{v:Value}(h:Calls P f args e.w fun x w'=>x=.returned v∧Ext e.w w'):
 Calls P f args e.w fun x w''=>x=.returned v∧∃e':Later W,w''=e'.w:=
 h.mono fun _ _ ⟨hx,hw⟩=>⟨hx,Later.mk_ex (e.ext.trans hw)⟩
def Cells(w:World)(b o:Nat)(cs:List Value):Prop:=∀j v,cs[j]? =some v→w.cell? ⟨b,o+j,none⟩=some v
theorem Cells.ext{w w':World}{b o:Nat}{cs:List Value}(h:Cells w b o cs)(hx:Ext w w'):Cells w' b o cs:=fun j v hv=>hx.at_ (h j v hv)
def ElemAt(w:World)(B:Nat)(a:Option Addr)(sz k:Nat)(R:List Value→Prop):Prop:=
 ∃b o cs,a=some ⟨b,o,none⟩∧b<B∧cs.length=sz∧Cells w b (o+k*sz) cs∧(∀v,v∈cs→v.oneCell'=true)∧R cs
def Row{α:Type}(R:α→List Value→Prop)(w:World)(B sz:Nat)(l:List α)(a:Option Addr):Prop:=
 ∀k,(h:k<l.length)→ElemAt w B a sz k (R l[k])
def Sl{α:Type}(R:α→List Value→Prop)(w:World)(B sz:Nat)(l:List α)(v:Value):Prop:=
 ∃a cap,v=.slice a l.length cap∧l.length≤cap∧Row R w B sz l a
theorem ElemAt.keep{w w':World}{B:Nat}{a:Option Addr}{sz k:Nat}{R R':List Value→Prop}(h:ElemAt w B a sz k R)(hw:∀p:Addr,p.block<B→w'.cell? p=w.cell? p){B':Nat}(hB:B≤B')(hR:∀cs,R cs→R' cs):ElemAt w' B' a sz k R':=by
 obtain⟨b,o,cs,ha,hb,hl,hc,h1,hr⟩:=h;exact⟨b,o,cs,ha,by omega,hl,fun j v hv=>(hw _ hb).trans (hc j v hv),h1,hR _ hr⟩
theorem Row.keep{α:Type}{R R':α→List Value→Prop}{w w':World}{B sz:Nat}{l:List α}{a:Option Addr}(h:Row R w B sz l a)(hw:∀p:Addr,p.block<B→w'.cell? p=w.cell? p){B':Nat}(hB:B≤B')
 (hR:∀y,y∈l→∀cs,R y cs→R' y cs):Row R' w' B' sz l a:=
 fun k hk=>(h k hk).keep hw hB (hR _ (List.getElem_mem hk))
theorem Sl.keep{α:Type}{R R':α→List Value→Prop}{w w':World}{B sz:Nat}{l:List α}{v:Value}(h:Sl R w B sz l v)(hw:∀p:Addr,p.block<B→w'.cell? p=w.cell? p){B':Nat}(hB:B≤B')
 (hR:∀y,y∈l→∀cs,R y cs→R' y cs):Sl R' w' B' sz l v:=by
 obtain⟨a,cap,hv,hc,hr⟩:=h;exact⟨a,cap,hv,hc,hr.keep hw hB hR⟩
theorem Sl.nil{α:Type}{R:α→List Value→Prop}{w:World}{B sz:Nat}:Sl R w B sz [] (.slice none 0 0):=⟨none,0,rfl,Nat.le_refl _,fun k hk=>absurd hk (by simp)⟩
theorem Sl.oneCell{α:Type}{R:α→List Value→Prop}{w:World}{B sz:Nat}{l:List α}{v:Value}(h:Sl R w B sz l v):v.oneCell'=true:=by
 obtain⟨a,cap,rfl,_,_⟩:=h;rfl
def RX(w:World)(B:Nat):X→List Value→Prop
 |.mk op nm n wd v l,cs=>∃a cap,cs=[.int .i64 op,.string nm,.int .i64 n,.int .i64 wd,.int .u64 v,.slice a l.length cap]∧l.length≤cap∧
   ∀k,(h:k<l.length)→ElemAt w B a 6 k (fun c=>RX w B l[k] c)
termination_by x=>SizeOf.sizeOf x
decreasing_by
 have:=List.sizeOf_lt_of_mem (List.getElem_mem h);simp only[X.mk.sizeOf_spec];omega
theorem RX_iff{w:World}{B:Nat}{x:X}{cs:List Value}:
 RX w B x cs↔∃v,cs=[.int .i64 x.op,.string x.name,.int .i64 x.n,.int .i64 x.w,.int .u64 x.v,v]∧Sl (RX w B) w B 6 x.l v:=by
 obtain⟨op,nm,n,wd,v,l⟩:=x;rw[RX];constructor
 ·rintro⟨a,cap,h1,h2,h3⟩;exact⟨_,h1,a,cap,rfl,h2,h3⟩
 ·rintro⟨_,h1,a,cap,rfl,h2,h3⟩;exact⟨a,cap,h1,h2,h3⟩
theorem RX.keep{w w':World}{B B':Nat}(hw:∀p:Addr,p.block<B→w'.cell? p=w.cell? p)(hB:B≤B')(x:X):∀cs,RX w B x cs→RX w' B' x cs:=by
 induction x using X.ind with
 |h x ih=>
  intro cs h;obtain⟨v,rfl,hr⟩:=RX_iff.1 h;exact RX_iff.2 ⟨v,rfl,hr.keep hw hB ih⟩
def RS(w:World)(B:Nat):S→List Value→Prop
 |.mk op nm x l,cs=>∃vx,Sl (RX w B) w B 6 x vx∧∃a cap,cs=[.int .i64 op,.string nm,vx,.slice a l.length cap]∧l.length≤cap∧
   ∀k,(h:k<l.length)→ElemAt w B a 4 k (fun c=>RS w B l[k] c)
termination_by x=>SizeOf.sizeOf x
decreasing_by
 have:=List.sizeOf_lt_of_mem (List.getElem_mem h);simp only[S.mk.sizeOf_spec];omega
theorem RS_iff{w:World}{B:Nat}{x:S}{cs:List Value}:
 RS w B x cs↔∃v2 v3,cs=[.int .i64 x.op,.string x.name,v2,v3]∧Sl (RX w B) w B 6 x.x v2∧Sl (RS w B) w B 4 x.l v3:=by
 obtain⟨op,nm,x,l⟩:=x;rw[RS];constructor
 ·rintro⟨vx,h0,a,cap,h1,h2,h3⟩;exact⟨_,_,h1,h0,a,cap,rfl,h2,h3⟩
 ·rintro⟨_,_,h1,h0,a,cap,rfl,h2,h3⟩;exact⟨_,h0,a,cap,h1,h2,h3⟩
theorem RS.keep{w w':World}{B B':Nat}(hw:∀p:Addr,p.block<B→w'.cell? p=w.cell? p)(hB:B≤B')(x:S):∀cs,RS w B x cs→RS w' B' x cs:=by
 induction x using S.ind with
 |h x ih=>
  intro cs h;obtain⟨v2,v3,rfl,h2,h3⟩:=RS_iff.1 h;exact RS_iff.2 ⟨v2,v3,rfl,h2.keep hw hB (fun y _=>RX.keep hw hB y),h3.keep hw hB ih⟩
def RB(w:World)(B:Nat)(x:Bnd)(cs:List Value):Prop:=∃c,cs=.string x.name::c∧RX w B x.x c
theorem RB.keep{w w':World}{B B':Nat}(hw:∀p:Addr,p.block<B→w'.cell? p=w.cell? p)(hB:B≤B')(x:Bnd):∀cs,RB w B x cs→RB w' B' x cs:=by
 rintro cs ⟨c,rfl,h⟩;exact⟨c,rfl,RX.keep hw hB _ _ h⟩
def RP(w:World)(B:Nat)(x:Prt)(cs:List Value):Prop:=∃c,cs=.string x.name::.bool x.o::c∧RX w B x.w c
theorem RP.keep{w w':World}{B B':Nat}(hw:∀p:Addr,p.block<B→w'.cell? p=w.cell? p)(hB:B≤B')(x:Prt):∀cs,RP w B x cs→RP w' B' x cs:=by
 rintro cs ⟨c,rfl,h⟩;exact⟨c,rfl,RX.keep hw hB _ _ h⟩
def RI(w:World)(B:Nat):Itm→List Value→Prop
 |.mk op nm of x s l els ps bs,cs=>∃vx vs vp vb,Sl (RX w B) w B 6 x vx∧Sl (RS w B) w B 4 s vs∧Sl (RB w B) w B 7 ps vp∧Sl (RB w B) w B 7 bs vb∧
  ∃a cap a' cap',cs=[.int .i64 op,.string nm,.string of,vx,vs,.slice a l.length cap,.slice a' els.length cap',vp,vb]∧l.length≤cap∧els.length≤cap'∧
   (∀k,(h:k<l.length)→ElemAt w B a 9 k (fun c=>RI w B l[k] c))∧(∀k,(h:k<els.length)→ElemAt w B a' 9 k (fun c=>RI w B els[k] c))
termination_by x=>SizeOf.sizeOf x
decreasing_by
 ·have:=List.sizeOf_lt_of_mem (List.getElem_mem h);simp only[Itm.mk.sizeOf_spec];omega
 ·have:=List.sizeOf_lt_of_mem (List.getElem_mem h);simp only[Itm.mk.sizeOf_spec];omega
theorem RI_iff{w:World}{B:Nat}{x:Itm}{cs:List Value}:
 RI w B x cs↔∃v3 v4 v5 v6 v7 v8,cs=[.int .i64 x.op,.string x.name,.string x.of,v3,v4,v5,v6,v7,v8]∧Sl (RX w B) w B 6 x.x v3∧Sl (RS w B) w B 4 x.s v4∧Sl (RI w B) w B 9 x.l v5∧Sl (RI w B) w B 9 x.els v6∧
  Sl (RB w B) w B 7 x.params v7∧Sl (RB w B) w B 7 x.binds v8:=by
 obtain⟨op,nm,of,x,s,l,els,ps,bs⟩:=x;rw[RI];constructor
 ·rintro⟨vx,vs,vp,vb,h1,h2,h3,h4,a,cap,a',cap',h5,h6,h7,h8,h9⟩;exact⟨_,_,_,_,_,_,h5,h1,h2,⟨a,cap,rfl,h6,h8⟩,⟨a',cap',rfl,h7,h9⟩,h3,h4⟩
 ·rintro⟨_,_,_,_,_,_,h5,h1,h2,⟨a,cap,rfl,h6,h8⟩,⟨a',cap',rfl,h7,h9⟩,h3,h4⟩;exact⟨_,_,_,_,h1,h2,h3,h4,a,cap,a',cap',h5,h6,h7,h8,h9⟩
theorem RI.keep{w w':World}{B B':Nat}(hw:∀p:Addr,p.block<B→w'.cell? p=w.cell? p)(hB:B≤B')(x:Itm):∀cs,RI w B x cs→RI w' B' x cs:=by
 induction x using Itm.ind with
 |h x ih1 ih2=>
  intro cs h;obtain⟨v3,v4,v5,v6,v7,v8,rfl,h3,h4,h5,h6,h7,h8⟩:=RI_iff.1 h
  exact RI_iff.2 ⟨v3,v4,v5,v6,v7,v8,rfl,h3.keep hw hB (fun y _=>RX.keep hw hB y),h4.keep hw hB (fun y _=>RS.keep hw hB y),h5.keep hw hB ih1,h6.keep hw hB ih2,
   h7.keep hw hB (fun y _=>RB.keep hw hB y),h8.keep hw hB (fun y _=>RB.keep hw hB y)⟩
def RM(w:World)(B:Nat)(x:Mdl)(cs:List Value):Prop:=
 ∃v1 v2 v3,cs=[.string x.name,v1,v2,v3]∧Sl (RB w B) w B 7 x.params v1∧Sl (RP w B) w B 8 x.ports v2∧Sl (RI w B) w B 9 x.items v3
theorem RM.keep{w w':World}{B B':Nat}(hw:∀p:Addr,p.block<B→w'.cell? p=w.cell? p)(hB:B≤B')(x:Mdl):∀cs,RM w B x cs→RM w' B' x cs:=by
 rintro cs ⟨v1,v2,v3,rfl,h1,h2,h3⟩;exact⟨v1,v2,v3,rfl,h1.keep hw hB (fun y _=>RB.keep hw hB y),h2.keep hw hB (fun y _=>RP.keep hw hB y),h3.keep hw hB (fun y _=>RI.keep hw hB y)⟩
theorem RX.ext{w w':World}{B:Nat}{x:X}{cs:List Value}(h:RX w B x cs)(hb:Ext w w')(hB:B≤w.heap.size):RX w' B x cs:=
 RX.keep (fun _ hp=>hb.cell (by omega)) (Nat.le_refl _) x cs h
theorem RX.more{w:World}{B B':Nat}{x:X}{cs:List Value}(h:RX w B x cs)(hB:B≤B'):RX w B' x cs:=
 RX.keep (fun _ _=>rfl) hB x cs h
theorem Sl.extRX{w w':World}{B sz:Nat}{l:List X}{v:Value}(h:Sl (RX w B) w B sz l v)(hb:Ext w w')(hB:B≤w.heap.size):Sl (RX w' B) w' B sz l v:=
 h.keep (fun _ hp=>hb.cell (by omega)) (Nat.le_refl _) (fun _ _ _ hr=>hr.ext hb hB)
theorem RS.ext{w w':World}{B:Nat}{x:S}{cs:List Value}(h:RS w B x cs)(hb:Ext w w')(hB:B≤w.heap.size):RS w' B x cs:=
 RS.keep (fun _ hp=>hb.cell (by omega)) (Nat.le_refl _) x cs h
theorem Sl.extRS{w w':World}{B sz:Nat}{l:List S}{v:Value}(h:Sl (RS w B) w B sz l v)(hb:Ext w w')(hB:B≤w.heap.size):Sl (RS w' B) w' B sz l v:=
 h.keep (fun _ hp=>hb.cell (by omega)) (Nat.le_refl _) (fun _ _ _ hr=>hr.ext hb hB)
theorem RB.ext{w w':World}{B:Nat}{x:Bnd}{cs:List Value}(h:RB w B x cs)(hb:Ext w w')(hB:B≤w.heap.size):RB w' B x cs:=
 RB.keep (fun _ hp=>hb.cell (by omega)) (Nat.le_refl _) x cs h
theorem Sl.extRB{w w':World}{B sz:Nat}{l:List Bnd}{v:Value}(h:Sl (RB w B) w B sz l v)(hb:Ext w w')(hB:B≤w.heap.size):Sl (RB w' B) w' B sz l v:=
 h.keep (fun _ hp=>hb.cell (by omega)) (Nat.le_refl _) (fun _ _ _ hr=>hr.ext hb hB)
theorem RP.ext{w w':World}{B:Nat}{x:Prt}{cs:List Value}(h:RP w B x cs)(hb:Ext w w')(hB:B≤w.heap.size):RP w' B x cs:=
 RP.keep (fun _ hp=>hb.cell (by omega)) (Nat.le_refl _) x cs h
theorem Sl.extRP{w w':World}{B sz:Nat}{l:List Prt}{v:Value}(h:Sl (RP w B) w B sz l v)(hb:Ext w w')(hB:B≤w.heap.size):Sl (RP w' B) w' B sz l v:=
 h.keep (fun _ hp=>hb.cell (by omega)) (Nat.le_refl _) (fun _ _ _ hr=>hr.ext hb hB)
theorem RI.ext{w w':World}{B:Nat}{x:Itm}{cs:List Value}(h:RI w B x cs)(hb:Ext w w')(hB:B≤w.heap.size):RI w' B x cs:=
 RI.keep (fun _ hp=>hb.cell (by omega)) (Nat.le_refl _) x cs h
theorem Sl.extRI{w w':World}{B sz:Nat}{l:List Itm}{v:Value}(h:Sl (RI w B) w B sz l v)(hb:Ext w w')(hB:B≤w.heap.size):Sl (RI w' B) w' B sz l v:=
 h.keep (fun _ hp=>hb.cell (by omega)) (Nat.le_refl _) (fun _ _ _ hr=>hr.ext hb hB)
theorem RM.ext{w w':World}{B:Nat}{x:Mdl}{cs:List Value}(h:RM w B x cs)(hb:Ext w w')(hB:B≤w.heap.size):RM w' B x cs:=
 RM.keep (fun _ hp=>hb.cell (by omega)) (Nat.le_refl _) x cs h
theorem RM.more{w:World}{B B':Nat}{x:Mdl}{cs:List Value}(h:RM w B x cs)(hB:B≤B'):RM w B' x cs:=
 RM.keep (fun _ _=>rfl) hB x cs h
theorem Sl.extRM{w w':World}{B sz:Nat}{l:List Mdl}{v:Value}(h:Sl (RM w B) w B sz l v)(hb:Ext w w')(hB:B≤w.heap.size):Sl (RM w' B) w' B sz l v:=
 h.keep (fun _ hp=>hb.cell (by omega)) (Nat.le_refl _) (fun _ _ _ hr=>hr.ext hb hB)
theorem Sl.moreRM{w:World}{B B' sz:Nat}{l:List Mdl}{v:Value}(h:Sl (RM w B) w B sz l v)(hB:B≤B'):Sl (RM w B') w B' sz l v:=
 h.keep (fun _ _=>rfl) hB (fun _ _ _ hr=>hr.more hB)
def Blk(w:World)(g:Nat)(t:TypeId)(cs:List Value):Prop:=w.heap[g]? =some (.cells cs.toArray t (0,0))
theorem Blk.cell{w:World}{g:Nat}{t:TypeId}{cs:List Value}(h:Blk w g t cs)(i:Nat):w.cell? ⟨g,i,none⟩=cs[i]? :=by
 unfold Blk at h;simp[World.cell?,h]
theorem Blk.frozen{w:World}{g:Nat}{t:TypeId}{cs:List Value}(h:Blk w g t cs)(i:Nat):w.frozen? ⟨g,i,none⟩=false:=by
 unfold Blk at h;simp[World.frozen?,h]
theorem Blk.lt{w:World}{g:Nat}{t:TypeId}{cs:List Value}(h:Blk w g t cs):g<w.heap.size:=by
 rcases Nat.lt_or_ge g w.heap.size with hlt|hge
 ·exact hlt
 ·unfold Blk at h;rw[Array.getElem?_eq_none hge] at h;cases h
theorem Blk.ext{w w':World}{g:Nat}{t:TypeId}{cs:List Value}(h:Blk w g t cs)(hx:Ext w w'):Blk w' g t cs:=(hx.heap h.lt).trans h
theorem Blk.new(w:World)(t:TypeId)(cs:List Value):Blk (w.alloc (.cells cs.toArray t)) w.heap.size t cs:=by
 show(w.heap.push _)[w.heap.size]? =_;simp
theorem Blk.set_{w:World}{g:Nat}{t:TypeId}{cs:List Value}(h:Blk w g t cs)(i:Nat)(u:Value):Blk (w.setCell ⟨g,i,none⟩ u) g t (cs.set i u):=by
 unfold Blk at h⊢;simp[World.setCell,Array.getElem?_modify,h]
theorem Blk.far{w:World}{g:Nat}{t:TypeId}{cs:List Value}(h:Blk w g t cs){p:Addr}(hp:g≠p.block)(u:Value):Blk (w.setCell p u) g t cs:=(Below.heap_setCell w p u g hp).trans h
theorem Blk.alloc{w:World}{g:Nat}{t:TypeId}{cs:List Value}(h:Blk w g t cs)(o:Obj):Blk (w.alloc o) g t cs:=h.ext (Ext.new w o)
theorem Blk.cells{w:World}{g:Nat}{t:TypeId}{cs:List Value}(h:Blk w g t cs):Cells w g 0 cs:=fun j v hv=>by rw[Nat.zero_add,h.cell j];exact hv
theorem Blk.get1{w:World}{g:Nat}{t:TypeId}{v0:Value}(h:Blk w g t [v0]):w.cell? ⟨g,0,none⟩=some v0:=h.cell 0
theorem Blk.free1{w:World}{g:Nat}{t:TypeId}{v0:Value}(h:Blk w g t [v0]):w.frozen? ⟨g,0,none⟩=false:=h.frozen 0
theorem Blk.later1{w:World}{g:Nat}{t:TypeId}{v0:Value}(h:Blk w g t [v0]):(∀e:Later w,e.w.cell? ⟨g,0,none⟩=some v0):=fun e=>(h.ext e.ext).cell 0
theorem Blk.laterFree1{w:World}{g:Nat}{t:TypeId}{v0:Value}(h:Blk w g t [v0]):(∀e:Later w,e.w.frozen? ⟨g,0,none⟩=false):=fun e=>(h.ext e.ext).frozen 0
theorem Blk.store1{w:World}{g:Nat}{t:TypeId}{v0:Value}(u0:Value)(h:Blk w g t [v0]):Blk (w.setCell ⟨g,0,none⟩ u0) g t [u0]:=by simpa using(h.set_ 0 u0)
theorem z4w(w:World)(v0:Value)(t:TypeId):∃W1,W1=w.alloc (.cells #[v0] t)∧Ext w W1∧Blk W1 w.heap.size t [v0]:=⟨_,rfl,Ext.new _ _,Blk.new _ _ _⟩
theorem Cells.get2{w:World}{b o:Nat}{v0 v1:Value}(h:Cells w b o [v0,v1]):w.cell? ⟨b,o,none⟩=some v0∧w.cell? ⟨b,o+1,none⟩=some v1:=⟨h 0 _ rfl,h 1 _ rfl⟩
theorem Row.open2{α:Type}{R:α→List Value→Prop}{w:World}{B:Nat}{l:List α}{a:Option Addr}{k:Nat}(h:Row R w B 2 l a)(hk:k<l.length):
 ∃b o v0 v1,a=some ⟨b,o,none⟩∧b<B∧R l[k] [v0,v1]∧Cells w b (o+k*2) [v0,v1]∧v0.oneCell'=true∧v1.oneCell'=true:=by
 obtain⟨b,o,cs,ha,hb,hl,hc,h1,hr⟩:=h k hk;match cs,hl with
 |[v0,v1],_=>exact⟨b,o,_,_,ha,hb,hr,hc,h1 _ (by simp),h1 _ (by simp)⟩
theorem Blk.get2{w:World}{g:Nat}{t:TypeId}{v0 v1:Value}(h:Blk w g t [v0,v1]):w.cell? ⟨g,0,none⟩=some v0∧w.cell? ⟨g,1,none⟩=some v1:=⟨h.cell 0,h.cell 1⟩
theorem Blk.free2{w:World}{g:Nat}{t:TypeId}{v0 v1:Value}(h:Blk w g t [v0,v1]):w.frozen? ⟨g,0,none⟩=false∧w.frozen? ⟨g,1,none⟩=false:=⟨h.frozen 0,h.frozen 1⟩
theorem Blk.later2{w:World}{g:Nat}{t:TypeId}{v0 v1:Value}(h:Blk w g t [v0,v1]):(∀e:Later w,e.w.cell? ⟨g,0,none⟩=some v0)∧(∀e:Later w,e.w.cell? ⟨g,1,none⟩=some v1):=⟨fun e=>(h.ext e.ext).cell 0,fun e=>(h.ext e.ext).cell 1⟩
theorem Blk.laterFree2{w:World}{g:Nat}{t:TypeId}{v0 v1:Value}(h:Blk w g t [v0,v1]):(∀e:Later w,e.w.frozen? ⟨g,0,none⟩=false)∧(∀e:Later w,e.w.frozen? ⟨g,1,none⟩=false):=⟨fun e=>(h.ext e.ext).frozen 0,fun e=>(h.ext e.ext).frozen 1⟩
theorem Blk.store2{w:World}{g:Nat}{t:TypeId}{v0 v1:Value}(u0 u1:Value)(h:Blk w g t [v0,v1]):Blk ((w.setCell ⟨g,0,none⟩ u0).setCell ⟨g,1,none⟩ u1) g t [u0,u1]:=by simpa using((h.set_ 0 u0).set_ 1 u1)
theorem q7l(w:World)(v0 v1:Value)(t:TypeId):∃W1,W1=w.alloc (.cells #[v0,v1] t)∧Ext w W1∧Blk W1 w.heap.size t [v0,v1]:=⟨_,rfl,Ext.new _ _,Blk.new _ _ _⟩
theorem Blk.get3{w:World}{g:Nat}{t:TypeId}{v0 v1 v2:Value}(h:Blk w g t [v0,v1,v2]):w.cell? ⟨g,0,none⟩=some v0∧w.cell? ⟨g,1,none⟩=some v1∧w.cell? ⟨g,2,none⟩=some v2:=⟨h.cell 0,h.cell 1,h.cell 2⟩
theorem Blk.free3{w:World}{g:Nat}{t:TypeId}{v0 v1 v2:Value}(h:Blk w g t [v0,v1,v2]):w.frozen? ⟨g,0,none⟩=false∧w.frozen? ⟨g,1,none⟩=false∧w.frozen? ⟨g,2,none⟩=false:=⟨h.frozen 0,h.frozen 1,h.frozen 2⟩
theorem Blk.later3{w:World}{g:Nat}{t:TypeId}{v0 v1 v2:Value}(h:Blk w g t [v0,v1,v2]):(∀e:Later w,e.w.cell? ⟨g,0,none⟩=some v0)∧(∀e:Later w,e.w.cell? ⟨g,1,none⟩=some v1)∧(∀e:Later w,e.w.cell? ⟨g,2,none⟩=some v2):=⟨fun e=>(h.ext e.ext).cell 0,fun e=>(h.ext e.ext).cell 1,fun e=>(h.ext e.ext).cell 2⟩
theorem Blk.store3{w:World}{g:Nat}{t:TypeId}{v0 v1 v2:Value}(u0 u1 u2:Value)(h:Blk w g t [v0,v1,v2]):Blk (((w.setCell ⟨g,0,none⟩ u0).setCell ⟨g,1,none⟩ u1).setCell ⟨g,2,none⟩ u2) g t [u0,u1,u2]:=by simpa using(((h.set_ 0 u0).set_ 1 u1).set_ 2 u2)
theorem k1n(w:World)(v0 v1 v2:Value)(t:TypeId):∃W1,W1=w.alloc (.cells #[v0,v1,v2] t)∧Ext w W1∧Blk W1 w.heap.size t [v0,v1,v2]:=⟨_,rfl,Ext.new _ _,Blk.new _ _ _⟩
theorem Cells.get4{w:World}{b o:Nat}{v0 v1 v2 v3:Value}(h:Cells w b o [v0,v1,v2,v3]):w.cell? ⟨b,o,none⟩=some v0∧w.cell? ⟨b,o+1,none⟩=some v1∧w.cell? ⟨b,o+2,none⟩=some v2∧w.cell? ⟨b,o+3,none⟩=some v3:=⟨h 0 _ rfl,h 1 _ rfl,h 2 _ rfl,h 3 _ rfl⟩
theorem Row.open4{α:Type}{R:α→List Value→Prop}{w:World}{B:Nat}{l:List α}{a:Option Addr}{k:Nat}(h:Row R w B 4 l a)(hk:k<l.length):
 ∃b o v0 v1 v2 v3,a=some ⟨b,o,none⟩∧b<B∧R l[k] [v0,v1,v2,v3]∧Cells w b (o+k*4) [v0,v1,v2,v3]∧v0.oneCell'=true∧v1.oneCell'=true∧v2.oneCell'=true∧v3.oneCell'=true:=by
 obtain⟨b,o,cs,ha,hb,hl,hc,h1,hr⟩:=h k hk;match cs,hl with
 |[v0,v1,v2,v3],_=>exact⟨b,o,_,_,_,_,ha,hb,hr,hc,h1 _ (by simp),h1 _ (by simp),h1 _ (by simp),h1 _ (by simp)⟩
theorem Blk.get4{w:World}{g:Nat}{t:TypeId}{v0 v1 v2 v3:Value}(h:Blk w g t [v0,v1,v2,v3]):w.cell? ⟨g,0,none⟩=some v0∧w.cell? ⟨g,1,none⟩=some v1∧w.cell? ⟨g,2,none⟩=some v2∧w.cell? ⟨g,3,none⟩=some v3:=⟨h.cell 0,h.cell 1,h.cell 2,h.cell 3⟩
theorem Blk.free4{w:World}{g:Nat}{t:TypeId}{v0 v1 v2 v3:Value}(h:Blk w g t [v0,v1,v2,v3]):w.frozen? ⟨g,0,none⟩=false∧w.frozen? ⟨g,1,none⟩=false∧w.frozen? ⟨g,2,none⟩=false∧w.frozen? ⟨g,3,none⟩=false:=⟨h.frozen 0,h.frozen 1,h.frozen 2,h.frozen 3⟩
theorem Blk.later4{w:World}{g:Nat}{t:TypeId}{v0 v1 v2 v3:Value}(h:Blk w g t [v0,v1,v2,v3]):(∀e:Later w,e.w.cell? ⟨g,0,none⟩=some v0)∧(∀e:Later w,e.w.cell? ⟨g,1,none⟩=some v1)∧(∀e:Later w,e.w.cell? ⟨g,2,none⟩=some v2)∧(∀e:Later w,e.w.cell? ⟨g,3,none⟩=some v3):=⟨fun e=>(h.ext e.ext).cell 0,fun e=>(h.ext e.ext).cell 1,fun e=>(h.ext e.ext).cell 2,fun e=>(h.ext e.ext).cell 3⟩
theorem Blk.store4{w:World}{g:Nat}{t:TypeId}{v0 v1 v2 v3:Value}(u0 u1 u2 u3:Value)(h:Blk w g t [v0,v1,v2,v3]):Blk ((((w.setCell ⟨g,0,none⟩ u0).setCell ⟨g,1,none⟩ u1).setCell ⟨g,2,none⟩ u2).setCell ⟨g,3,none⟩ u3) g t [u0,u1,u2,u3]:=by simpa using((((h.set_ 0 u0).set_ 1 u1).set_ 2 u2).set_ 3 u3)
theorem q2d(w:World)(v0 v1 v2 v3:Value)(t:TypeId):∃W1,W1=w.alloc (.cells #[v0,v1,v2,v3] t)∧Ext w W1∧Blk W1 w.heap.size t [v0,v1,v2,v3]:=⟨_,rfl,Ext.new _ _,Blk.new _ _ _⟩
theorem Cells.later5{w:World}{b o:Nat}{v0 v1 v2 v3 v4:Value}(h:Cells w b o [v0,v1,v2,v3,v4]):(∀e:Later w,e.w.cell? ⟨b,o,none⟩=some v0)∧(∀e:Later w,e.w.cell? ⟨b,o+1,none⟩=some v1)∧(∀e:Later w,e.w.cell? ⟨b,o+2,none⟩=some v2)∧(∀e:Later w,e.w.cell? ⟨b,o+3,none⟩=some v3)∧(∀e:Later w,e.w.cell? ⟨b,o+4,none⟩=some v4):=⟨fun e=>e.ext.at_ (h 0 _ rfl),fun e=>e.ext.at_ (h 1 _ rfl),fun e=>e.ext.at_ (h 2 _ rfl),fun e=>e.ext.at_ (h 3 _ rfl),fun e=>e.ext.at_ (h 4 _ rfl)⟩
theorem Cells.get6{w:World}{b o:Nat}{v0 v1 v2 v3 v4 v5:Value}(h:Cells w b o [v0,v1,v2,v3,v4,v5]):w.cell? ⟨b,o,none⟩=some v0∧w.cell? ⟨b,o+1,none⟩=some v1∧w.cell? ⟨b,o+2,none⟩=some v2∧w.cell? ⟨b,o+3,none⟩=some v3∧w.cell? ⟨b,o+4,none⟩=some v4∧w.cell? ⟨b,o+5,none⟩=some v5:=⟨h 0 _ rfl,h 1 _ rfl,h 2 _ rfl,h 3 _ rfl,h 4 _ rfl,h 5 _ rfl⟩
theorem Cells.later6{w:World}{b o:Nat}{v0 v1 v2 v3 v4 v5:Value}(h:Cells w b o [v0,v1,v2,v3,v4,v5]):(∀e:Later w,e.w.cell? ⟨b,o,none⟩=some v0)∧(∀e:Later w,e.w.cell? ⟨b,o+1,none⟩=some v1)∧(∀e:Later w,e.w.cell? ⟨b,o+2,none⟩=some v2)∧(∀e:Later w,e.w.cell? ⟨b,o+3,none⟩=some v3)∧(∀e:Later w,e.w.cell? ⟨b,o+4,none⟩=some v4)∧(∀e:Later w,e.w.cell? ⟨b,o+5,none⟩=some v5):=⟨fun e=>e.ext.at_ (h 0 _ rfl),fun e=>e.ext.at_ (h 1 _ rfl),fun e=>e.ext.at_ (h 2 _ rfl),fun e=>e.ext.at_ (h 3 _ rfl),fun e=>e.ext.at_ (h 4 _ rfl),fun e=>e.ext.at_ (h 5 _ rfl)⟩
theorem Row.open6{α:Type}{R:α→List Value→Prop}{w:World}{B:Nat}{l:List α}{a:Option Addr}{k:Nat}(h:Row R w B 6 l a)(hk:k<l.length):
 ∃b o v0 v1 v2 v3 v4 v5,a=some ⟨b,o,none⟩∧b<B∧R l[k] [v0,v1,v2,v3,v4,v5]∧Cells w b (o+k*6) [v0,v1,v2,v3,v4,v5]∧v0.oneCell'=true∧v1.oneCell'=true∧v2.oneCell'=true∧v3.oneCell'=true∧v4.oneCell'=true∧v5.oneCell'=true:=by
 obtain⟨b,o,cs,ha,hb,hl,hc,h1,hr⟩:=h k hk;match cs,hl with
 |[v0,v1,v2,v3,v4,v5],_=>exact⟨b,o,_,_,_,_,_,_,ha,hb,hr,hc,h1 _ (by simp),h1 _ (by simp),h1 _ (by simp),h1 _ (by simp),h1 _ (by simp),h1 _ (by simp)⟩
theorem Blk.get6{w:World}{g:Nat}{t:TypeId}{v0 v1 v2 v3 v4 v5:Value}(h:Blk w g t [v0,v1,v2,v3,v4,v5]):w.cell? ⟨g,0,none⟩=some v0∧w.cell? ⟨g,1,none⟩=some v1∧w.cell? ⟨g,2,none⟩=some v2∧w.cell? ⟨g,3,none⟩=some v3∧w.cell? ⟨g,4,none⟩=some v4∧w.cell? ⟨g,5,none⟩=some v5:=⟨h.cell 0,h.cell 1,h.cell 2,h.cell 3,h.cell 4,h.cell 5⟩
theorem Blk.free6{w:World}{g:Nat}{t:TypeId}{v0 v1 v2 v3 v4 v5:Value}(h:Blk w g t [v0,v1,v2,v3,v4,v5]):w.frozen? ⟨g,0,none⟩=false∧w.frozen? ⟨g,1,none⟩=false∧w.frozen? ⟨g,2,none⟩=false∧w.frozen? ⟨g,3,none⟩=false∧w.frozen? ⟨g,4,none⟩=false∧w.frozen? ⟨g,5,none⟩=false:=⟨h.frozen 0,h.frozen 1,h.frozen 2,h.frozen 3,h.frozen 4,h.frozen 5⟩
theorem Blk.later6{w:World}{g:Nat}{t:TypeId}{v0 v1 v2 v3 v4 v5:Value}(h:Blk w g t [v0,v1,v2,v3,v4,v5]):(∀e:Later w,e.w.cell? ⟨g,0,none⟩=some v0)∧(∀e:Later w,e.w.cell? ⟨g,1,none⟩=some v1)∧(∀e:Later w,e.w.cell? ⟨g,2,none⟩=some v2)∧(∀e:Later w,e.w.cell? ⟨g,3,none⟩=some v3)∧(∀e:Later w,e.w.cell? ⟨g,4,none⟩=some v4)∧(∀e:Later w,e.w.cell? ⟨g,5,none⟩=some v5):=⟨fun e=>(h.ext e.ext).cell 0,fun e=>(h.ext e.ext).cell 1,fun e=>(h.ext e.ext).cell 2,fun e=>(h.ext e.ext).cell 3,fun e=>(h.ext e.ext).cell 4,fun e=>(h.ext e.ext).cell 5⟩
theorem Blk.store6{w:World}{g:Nat}{t:TypeId}{v0 v1 v2 v3 v4 v5:Value}(u0 u1 u2 u3 u4 u5:Value)(h:Blk w g t [v0,v1,v2,v3,v4,v5]):Blk ((((((w.setCell ⟨g,0,none⟩ u0).setCell ⟨g,1,none⟩ u1).setCell ⟨g,2,none⟩ u2).setCell ⟨g,3,none⟩ u3).setCell ⟨g,4,none⟩ u4).setCell ⟨g,5,none⟩ u5) g t [u0,u1,u2,u3,u4,u5]:=by simpa using((((((h.set_ 0 u0).set_ 1 u1).set_ 2 u2).set_ 3 u3).set_ 4 u4).set_ 5 u5)
theorem z6v(w:World)(v0 v1 v2 v3 v4 v5:Value)(t:TypeId):∃W1,W1=w.alloc (.cells #[v0,v1,v2,v3,v4,v5] t)∧Ext w W1∧Blk W1 w.heap.size t [v0,v1,v2,v3,v4,v5]:=⟨_,rfl,Ext.new _ _,Blk.new _ _ _⟩
theorem Cells.get7{w:World}{b o:Nat}{v0 v1 v2 v3 v4 v5 v6:Value}(h:Cells w b o [v0,v1,v2,v3,v4,v5,v6]):w.cell? ⟨b,o,none⟩=some v0∧w.cell? ⟨b,o+1,none⟩=some v1∧w.cell? ⟨b,o+2,none⟩=some v2∧w.cell? ⟨b,o+3,none⟩=some v3∧w.cell? ⟨b,o+4,none⟩=some v4∧w.cell? ⟨b,o+5,none⟩=some v5∧w.cell? ⟨b,o+6,none⟩=some v6:=⟨h 0 _ rfl,h 1 _ rfl,h 2 _ rfl,h 3 _ rfl,h 4 _ rfl,h 5 _ rfl,h 6 _ rfl⟩
theorem Cells.later7{w:World}{b o:Nat}{v0 v1 v2 v3 v4 v5 v6:Value}(h:Cells w b o [v0,v1,v2,v3,v4,v5,v6]):(∀e:Later w,e.w.cell? ⟨b,o,none⟩=some v0)∧(∀e:Later w,e.w.cell? ⟨b,o+1,none⟩=some v1)∧(∀e:Later w,e.w.cell? ⟨b,o+2,none⟩=some v2)∧(∀e:Later w,e.w.cell? ⟨b,o+3,none⟩=some v3)∧(∀e:Later w,e.w.cell? ⟨b,o+4,none⟩=some v4)∧(∀e:Later w,e.w.cell? ⟨b,o+5,none⟩=some v5)∧(∀e:Later w,e.w.cell? ⟨b,o+6,none⟩=some v6):=⟨fun e=>e.ext.at_ (h 0 _ rfl),fun e=>e.ext.at_ (h 1 _ rfl),fun e=>e.ext.at_ (h 2 _ rfl),fun e=>e.ext.at_ (h 3 _ rfl),fun e=>e.ext.at_ (h 4 _ rfl),fun e=>e.ext.at_ (h 5 _ rfl),fun e=>e.ext.at_ (h 6 _ rfl)⟩
theorem Row.open7{α:Type}{R:α→List Value→Prop}{w:World}{B:Nat}{l:List α}{a:Option Addr}{k:Nat}(h:Row R w B 7 l a)(hk:k<l.length):
 ∃b o v0 v1 v2 v3 v4 v5 v6,a=some ⟨b,o,none⟩∧b<B∧R l[k] [v0,v1,v2,v3,v4,v5,v6]∧Cells w b (o+k*7) [v0,v1,v2,v3,v4,v5,v6]∧v0.oneCell'=true∧v1.oneCell'=true∧v2.oneCell'=true∧v3.oneCell'=true∧v4.oneCell'=true∧v5.oneCell'=true∧v6.oneCell'=true:=by
 obtain⟨b,o,cs,ha,hb,hl,hc,h1,hr⟩:=h k hk;match cs,hl with
 |[v0,v1,v2,v3,v4,v5,v6],_=>exact⟨b,o,_,_,_,_,_,_,_,ha,hb,hr,hc,h1 _ (by simp),h1 _ (by simp),h1 _ (by simp),h1 _ (by simp),h1 _ (by simp),h1 _ (by simp),h1 _ (by simp)⟩
theorem Blk.get7{w:World}{g:Nat}{t:TypeId}{v0 v1 v2 v3 v4 v5 v6:Value}(h:Blk w g t [v0,v1,v2,v3,v4,v5,v6]):w.cell? ⟨g,0,none⟩=some v0∧w.cell? ⟨g,1,none⟩=some v1∧w.cell? ⟨g,2,none⟩=some v2∧w.cell? ⟨g,3,none⟩=some v3∧w.cell? ⟨g,4,none⟩=some v4∧w.cell? ⟨g,5,none⟩=some v5∧w.cell? ⟨g,6,none⟩=some v6:=⟨h.cell 0,h.cell 1,h.cell 2,h.cell 3,h.cell 4,h.cell 5,h.cell 6⟩
theorem Blk.free7{w:World}{g:Nat}{t:TypeId}{v0 v1 v2 v3 v4 v5 v6:Value}(h:Blk w g t [v0,v1,v2,v3,v4,v5,v6]):w.frozen? ⟨g,0,none⟩=false∧w.frozen? ⟨g,1,none⟩=false∧w.frozen? ⟨g,2,none⟩=false∧w.frozen? ⟨g,3,none⟩=false∧w.frozen? ⟨g,4,none⟩=false∧w.frozen? ⟨g,5,none⟩=false∧w.frozen? ⟨g,6,none⟩=false:=⟨h.frozen 0,h.frozen 1,h.frozen 2,h.frozen 3,h.frozen 4,h.frozen 5,h.frozen 6⟩
theorem Blk.later7{w:World}{g:Nat}{t:TypeId}{v0 v1 v2 v3 v4 v5 v6:Value}(h:Blk w g t [v0,v1,v2,v3,v4,v5,v6]):(∀e:Later w,e.w.cell? ⟨g,0,none⟩=some v0)∧(∀e:Later w,e.w.cell? ⟨g,1,none⟩=some v1)∧(∀e:Later w,e.w.cell? ⟨g,2,none⟩=some v2)∧(∀e:Later w,e.w.cell? ⟨g,3,none⟩=some v3)∧(∀e:Later w,e.w.cell? ⟨g,4,none⟩=some v4)∧(∀e:Later w,e.w.cell? ⟨g,5,none⟩=some v5)∧(∀e:Later w,e.w.cell? ⟨g,6,none⟩=some v6):=⟨fun e=>(h.ext e.ext).cell 0,fun e=>(h.ext e.ext).cell 1,fun e=>(h.ext e.ext).cell 2,fun e=>(h.ext e.ext).cell 3,fun e=>(h.ext e.ext).cell 4,fun e=>(h.ext e.ext).cell 5,fun e=>(h.ext e.ext).cell 6⟩
theorem Blk.store7{w:World}{g:Nat}{t:TypeId}{v0 v1 v2 v3 v4 v5 v6:Value}(u0 u1 u2 u3 u4 u5 u6:Value)(h:Blk w g t [v0,v1,v2,v3,v4,v5,v6]):Blk (((((((w.setCell ⟨g,0,none⟩ u0).setCell ⟨g,1,none⟩ u1).setCell ⟨g,2,none⟩ u2).setCell ⟨g,3,none⟩ u3).setCell ⟨g,4,none⟩ u4).setCell ⟨g,5,none⟩ u5).setCell ⟨g,6,none⟩ u6) g t [u0,u1,u2,u3,u4,u5,u6]:=by simpa using(((((((h.set_ 0 u0).set_ 1 u1).set_ 2 u2).set_ 3 u3).set_ 4 u4).set_ 5 u5).set_ 6 u6)
theorem k5c(w:World)(v0 v1 v2 v3 v4 v5 v6:Value)(t:TypeId):∃W1,W1=w.alloc (.cells #[v0,v1,v2,v3,v4,v5,v6] t)∧Ext w W1∧Blk W1 w.heap.size t [v0,v1,v2,v3,v4,v5,v6]:=⟨_,rfl,Ext.new _ _,Blk.new _ _ _⟩
theorem Cells.get8{w:World}{b o:Nat}{v0 v1 v2 v3 v4 v5 v6 v7:Value}(h:Cells w b o [v0,v1,v2,v3,v4,v5,v6,v7]):w.cell? ⟨b,o,none⟩=some v0∧w.cell? ⟨b,o+1,none⟩=some v1∧w.cell? ⟨b,o+2,none⟩=some v2∧w.cell? ⟨b,o+3,none⟩=some v3∧w.cell? ⟨b,o+4,none⟩=some v4∧w.cell? ⟨b,o+5,none⟩=some v5∧w.cell? ⟨b,o+6,none⟩=some v6∧w.cell? ⟨b,o+7,none⟩=some v7:=⟨h 0 _ rfl,h 1 _ rfl,h 2 _ rfl,h 3 _ rfl,h 4 _ rfl,h 5 _ rfl,h 6 _ rfl,h 7 _ rfl⟩
theorem Row.open8{α:Type}{R:α→List Value→Prop}{w:World}{B:Nat}{l:List α}{a:Option Addr}{k:Nat}(h:Row R w B 8 l a)(hk:k<l.length):
 ∃b o v0 v1 v2 v3 v4 v5 v6 v7,a=some ⟨b,o,none⟩∧b<B∧R l[k] [v0,v1,v2,v3,v4,v5,v6,v7]∧Cells w b (o+k*8) [v0,v1,v2,v3,v4,v5,v6,v7]∧v0.oneCell'=true∧v1.oneCell'=true∧v2.oneCell'=true∧v3.oneCell'=true∧v4.oneCell'=true∧v5.oneCell'=true∧v6.oneCell'=true∧v7.oneCell'=true:=by
 obtain⟨b,o,cs,ha,hb,hl,hc,h1,hr⟩:=h k hk;match cs,hl with
 |[v0,v1,v2,v3,v4,v5,v6,v7],_=>exact⟨b,o,_,_,_,_,_,_,_,_,ha,hb,hr,hc,h1 _ (by simp),h1 _ (by simp),h1 _ (by simp),h1 _ (by simp),h1 _ (by simp),h1 _ (by simp),h1 _ (by simp),h1 _ (by simp)⟩
theorem Blk.get8{w:World}{g:Nat}{t:TypeId}{v0 v1 v2 v3 v4 v5 v6 v7:Value}(h:Blk w g t [v0,v1,v2,v3,v4,v5,v6,v7]):w.cell? ⟨g,0,none⟩=some v0∧w.cell? ⟨g,1,none⟩=some v1∧w.cell? ⟨g,2,none⟩=some v2∧w.cell? ⟨g,3,none⟩=some v3∧w.cell? ⟨g,4,none⟩=some v4∧w.cell? ⟨g,5,none⟩=some v5∧w.cell? ⟨g,6,none⟩=some v6∧w.cell? ⟨g,7,none⟩=some v7:=⟨h.cell 0,h.cell 1,h.cell 2,h.cell 3,h.cell 4,h.cell 5,h.cell 6,h.cell 7⟩
theorem Blk.free8{w:World}{g:Nat}{t:TypeId}{v0 v1 v2 v3 v4 v5 v6 v7:Value}(h:Blk w g t [v0,v1,v2,v3,v4,v5,v6,v7]):w.frozen? ⟨g,0,none⟩=false∧w.frozen? ⟨g,1,none⟩=false∧w.frozen? ⟨g,2,none⟩=false∧w.frozen? ⟨g,3,none⟩=false∧w.frozen? ⟨g,4,none⟩=false∧w.frozen? ⟨g,5,none⟩=false∧w.frozen? ⟨g,6,none⟩=false∧w.frozen? ⟨g,7,none⟩=false:=⟨h.frozen 0,h.frozen 1,h.frozen 2,h.frozen 3,h.frozen 4,h.frozen 5,h.frozen 6,h.frozen 7⟩
theorem Blk.later8{w:World}{g:Nat}{t:TypeId}{v0 v1 v2 v3 v4 v5 v6 v7:Value}(h:Blk w g t [v0,v1,v2,v3,v4,v5,v6,v7]):(∀e:Later w,e.w.cell? ⟨g,0,none⟩=some v0)∧(∀e:Later w,e.w.cell? ⟨g,1,none⟩=some v1)∧(∀e:Later w,e.w.cell? ⟨g,2,none⟩=some v2)∧(∀e:Later w,e.w.cell? ⟨g,3,none⟩=some v3)∧(∀e:Later w,e.w.cell? ⟨g,4,none⟩=some v4)∧(∀e:Later w,e.w.cell? ⟨g,5,none⟩=some v5)∧(∀e:Later w,e.w.cell? ⟨g,6,none⟩=some v6)∧(∀e:Later w,e.w.cell? ⟨g,7,none⟩=some v7):=⟨fun e=>(h.ext e.ext).cell 0,fun e=>(h.ext e.ext).cell 1,fun e=>(h.ext e.ext).cell 2,fun e=>(h.ext e.ext).cell 3,fun e=>(h.ext e.ext).cell 4,fun e=>(h.ext e.ext).cell 5,fun e=>(h.ext e.ext).cell 6,fun e=>(h.ext e.ext).cell 7⟩
theorem Blk.store8{w:World}{g:Nat}{t:TypeId}{v0 v1 v2 v3 v4 v5 v6 v7:Value}(u0 u1 u2 u3 u4 u5 u6 u7:Value)(h:Blk w g t [v0,v1,v2,v3,v4,v5,v6,v7]):Blk ((((((((w.setCell ⟨g,0,none⟩ u0).setCell ⟨g,1,none⟩ u1).setCell ⟨g,2,none⟩ u2).setCell ⟨g,3,none⟩ u3).setCell ⟨g,4,none⟩ u4).setCell ⟨g,5,none⟩ u5).setCell ⟨g,6,none⟩ u6).setCell ⟨g,7,none⟩ u7) g t [u0,u1,u2,u3,u4,u5,u6,u7]:=by simpa using((((((((h.set_ 0 u0).set_ 1 u1).set_ 2 u2).set_ 3 u3).set_ 4 u4).set_ 5 u5).set_ 6 u6).set_ 7 u7)
theorem q7r(w:World)(v0 v1 v2 v3 v4 v5 v6 v7:Value)(t:TypeId):∃W1,W1=w.alloc (.cells #[v0,v1,v2,v3,v4,v5,v6,v7] t)∧Ext w W1∧Blk W1 w.heap.size t [v0,v1,v2,v3,v4,v5,v6,v7]:=⟨_,rfl,Ext.new _ _,Blk.new _ _ _⟩
theorem Cells.get9{w:World}{b o:Nat}{v0 v1 v2 v3 v4 v5 v6 v7 v8:Value}(h:Cells w b o [v0,v1,v2,v3,v4,v5,v6,v7,v8]):w.cell? ⟨b,o,none⟩=some v0∧w.cell? ⟨b,o+1,none⟩=some v1∧w.cell? ⟨b,o+2,none⟩=some v2∧w.cell? ⟨b,o+3,none⟩=some v3∧w.cell? ⟨b,o+4,none⟩=some v4∧w.cell? ⟨b,o+5,none⟩=some v5∧w.cell? ⟨b,o+6,none⟩=some v6∧w.cell? ⟨b,o+7,none⟩=some v7∧w.cell? ⟨b,o+8,none⟩=some v8:=⟨h 0 _ rfl,h 1 _ rfl,h 2 _ rfl,h 3 _ rfl,h 4 _ rfl,h 5 _ rfl,h 6 _ rfl,h 7 _ rfl,h 8 _ rfl⟩
theorem Row.open9{α:Type}{R:α→List Value→Prop}{w:World}{B:Nat}{l:List α}{a:Option Addr}{k:Nat}(h:Row R w B 9 l a)(hk:k<l.length):
 ∃b o v0 v1 v2 v3 v4 v5 v6 v7 v8,a=some ⟨b,o,none⟩∧b<B∧R l[k] [v0,v1,v2,v3,v4,v5,v6,v7,v8]∧Cells w b (o+k*9) [v0,v1,v2,v3,v4,v5,v6,v7,v8]∧v0.oneCell'=true∧v1.oneCell'=true∧v2.oneCell'=true∧v3.oneCell'=true∧v4.oneCell'=true∧v5.oneCell'=true∧v6.oneCell'=true∧v7.oneCell'=true∧v8.oneCell'=true:=by
 obtain⟨b,o,cs,ha,hb,hl,hc,h1,hr⟩:=h k hk;match cs,hl with
 |[v0,v1,v2,v3,v4,v5,v6,v7,v8],_=>exact⟨b,o,_,_,_,_,_,_,_,_,_,ha,hb,hr,hc,h1 _ (by simp),h1 _ (by simp),h1 _ (by simp),h1 _ (by simp),h1 _ (by simp),h1 _ (by simp),h1 _ (by simp),h1 _ (by simp),h1 _ (by simp)⟩
theorem Blk.get9{w:World}{g:Nat}{t:TypeId}{v0 v1 v2 v3 v4 v5 v6 v7 v8:Value}(h:Blk w g t [v0,v1,v2,v3,v4,v5,v6,v7,v8]):w.cell? ⟨g,0,none⟩=some v0∧w.cell? ⟨g,1,none⟩=some v1∧w.cell? ⟨g,2,none⟩=some v2∧w.cell? ⟨g,3,none⟩=some v3∧w.cell? ⟨g,4,none⟩=some v4∧w.cell? ⟨g,5,none⟩=some v5∧w.cell? ⟨g,6,none⟩=some v6∧w.cell? ⟨g,7,none⟩=some v7∧w.cell? ⟨g,8,none⟩=some v8:=⟨h.cell 0,h.cell 1,h.cell 2,h.cell 3,h.cell 4,h.cell 5,h.cell 6,h.cell 7,h.cell 8⟩
theorem Blk.free9{w:World}{g:Nat}{t:TypeId}{v0 v1 v2 v3 v4 v5 v6 v7 v8:Value}(h:Blk w g t [v0,v1,v2,v3,v4,v5,v6,v7,v8]):w.frozen? ⟨g,0,none⟩=false∧w.frozen? ⟨g,1,none⟩=false∧w.frozen? ⟨g,2,none⟩=false∧w.frozen? ⟨g,3,none⟩=false∧w.frozen? ⟨g,4,none⟩=false∧w.frozen? ⟨g,5,none⟩=false∧w.frozen? ⟨g,6,none⟩=false∧w.frozen? ⟨g,7,none⟩=false∧w.frozen? ⟨g,8,none⟩=false:=⟨h.frozen 0,h.frozen 1,h.frozen 2,h.frozen 3,h.frozen 4,h.frozen 5,h.frozen 6,h.frozen 7,h.frozen 8⟩
theorem Blk.later9{w:World}{g:Nat}{t:TypeId}{v0 v1 v2 v3 v4 v5 v6 v7 v8:Value}(h:Blk w g t [v0,v1,v2,v3,v4,v5,v6,v7,v8]):(∀e:Later w,e.w.cell? ⟨g,0,none⟩=some v0)∧(∀e:Later w,e.w.cell? ⟨g,1,none⟩=some v1)∧(∀e:Later w,e.w.cell? ⟨g,2,none⟩=some v2)∧(∀e:Later w,e.w.cell? ⟨g,3,none⟩=some v3)∧(∀e:Later w,e.w.cell? ⟨g,4,none⟩=some v4)∧(∀e:Later w,e.w.cell? ⟨g,5,none⟩=some v5)∧(∀e:Later w,e.w.cell? ⟨g,6,none⟩=some v6)∧(∀e:Later w,e.w.cell? ⟨g,7,none⟩=some v7)∧(∀e:Later w,e.w.cell? ⟨g,8,none⟩=some v8):=⟨fun e=>(h.ext e.ext).cell 0,fun e=>(h.ext e.ext).cell 1,fun e=>(h.ext e.ext).cell 2,fun e=>(h.ext e.ext).cell 3,fun e=>(h.ext e.ext).cell 4,fun e=>(h.ext e.ext).cell 5,fun e=>(h.ext e.ext).cell 6,fun e=>(h.ext e.ext).cell 7,fun e=>(h.ext e.ext).cell 8⟩
theorem Blk.store9{w:World}{g:Nat}{t:TypeId}{v0 v1 v2 v3 v4 v5 v6 v7 v8:Value}(u0 u1 u2 u3 u4 u5 u6 u7 u8:Value)(h:Blk w g t [v0,v1,v2,v3,v4,v5,v6,v7,v8]):Blk (((((((((w.setCell ⟨g,0,none⟩ u0).setCell ⟨g,1,none⟩ u1).setCell ⟨g,2,none⟩ u2).setCell ⟨g,3,none⟩ u3).setCell ⟨g,4,none⟩ u4).setCell ⟨g,5,none⟩ u5).setCell ⟨g,6,none⟩ u6).setCell ⟨g,7,none⟩ u7).setCell ⟨g,8,none⟩ u8) g t [u0,u1,u2,u3,u4,u5,u6,u7,u8]:=by simpa using(((((((((h.set_ 0 u0).set_ 1 u1).set_ 2 u2).set_ 3 u3).set_ 4 u4).set_ 5 u5).set_ 6 u6).set_ 7 u7).set_ 8 u8)
theorem q0y(w:World)(v0 v1 v2 v3 v4 v5 v6 v7 v8:Value)(t:TypeId):∃W1,W1=w.alloc (.cells #[v0,v1,v2,v3,v4,v5,v6,v7,v8] t)∧Ext w W1∧Blk W1 w.heap.size t [v0,v1,v2,v3,v4,v5,v6,v7,v8]:=⟨_,rfl,Ext.new _ _,Blk.new _ _ _⟩
theorem z3i{w W1:World}{o:Obj}(h:W1=w.alloc o):W1.heap.size=w.heap.size+1:=by rw[h];simp
structure Enters(P:Program)(f:FuncId):Prop where
 o:∀(args:Array Value) (w:World),(callFunc f args).run P w=.ok (.enter f args) w
theorem z0f{P:Program}{w:World}{a:Addr}{v:Value}{m:Mode}(h:v.oneCell'=true):(store a v m).run P w=stored P w a v m:=run_store P w a v m h
theorem z1a{P:Program}{id:Nat}{Q:Exit→Act→World→Prop}{a:Act}{w W:World}{l:List Oper}(hm:P.follows .mixedOrders=true)(hB:Region.lexB .any l.toArray=true)(hw:Ext W w)
 (h:wpQuiet P l.toArray (fun w'=>∃e:Later W,w'=e.w) (fun a'=>∀w',(∃e:Later W,w'=e.w)→Q .normal a' w') l a):(Code.region id l.toArray true).wp P Q a w:=
 wp_region_quiet (C:=fun w'=>∃e:Later W,w'=e.w) hm hB (Later.mk_ex hw.drew) (by simpa using h)
def y1g:=@Ext.refl
def y1h:=@Later.mk_ex
def y1i:=@Later.ext
def y1j:=@Nat.le_refl
def y1k:=@Nat.le_trans
def y1l:=@List.getElem_mem
def y1m:=@Nat.lt_of_lt_of_le
def y1n:=@Array.getElem?_eq_some_iff
def y1o:=@List.getElem?_eq_getElem
def y1p:=@Nat.zero_le
def y1q:=@List.eq_nil_of_length_eq_zero
def y1r:=@List.mem_cons_of_mem
def y1s:=@List.mem_cons_self
def y1t:=@List.getElem?_eq_some_iff
def y1v:=@Ext.new
def y1w:=@Blk.new
def y1x:=@And.intro
def y2a:=@Later.calls
def y2b:=@World.cell?_of_block
def y2c:=@Sl.nil
def y2d:=@List.mem_singleton
def y2e:=@List.mem_append
def y2f:=@List.mem_map
end Go.Proofs.YtlfmlodanoolhaaGreatDoor
