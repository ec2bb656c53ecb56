import Derived.ProofKit
import Derived.OpenShut
import Derived.ReadAgain
import Derived.Deep.DeepHandedRow
import Derived.Lib.LaidTab
import Derived.Shelf.Vars
import Derived.Test.YtlfmlodanoolhaaGreatDoorE15
set_option linter.all false
set_option maxRecDepth 200000
set_option maxHeartbeats 32000000
namespace Go.Proofs.YtlfmlodanoolhaaGreatDoor
open Go Go.RowKit Go.Proofs.Tryz
attribute [local go_sem] z0f
structure KRow where
 named:Bool
 min:Int
 max:Int
 lo:Int
 hi:Int
structure SRow where
 name:Bool
 of:Bool
 x:Int
 s:Bool
 l:Bool
 els:Bool
 bind:Bool
def kindRows:List KRow:=[⟨false,0,0,0,0⟩,⟨false,0,0,0,0⟩,⟨true,0,0,0,0⟩,⟨true,2,2,0,0⟩,⟨true,1,1,0,0⟩,⟨false,1,1,1,6⟩,⟨false,2,2,11,26⟩,⟨false,3,3,0,0⟩,⟨false,1,65536,0,0⟩,⟨false,2,2,0,0⟩,⟨false,2,2,31,33⟩]
def shapeRows:List SRow:=[⟨false,false,0,false,false,false,false⟩,⟨true,false,1,false,false,false,false⟩,⟨true,false,1,false,false,false,false⟩,⟨true,false,2,false,false,false,false⟩,⟨false,false,2,false,false,false,false⟩,⟨false,false,0,true,false,false,false⟩,⟨false,false,0,true,false,false,false⟩,⟨true,true,0,false,false,false,true⟩,⟨false,false,1,false,true,true,false⟩,⟨true,true,2,false,true,false,false⟩,⟨true,false,1,false,false,false,false⟩]
def KRow.vals(r:KRow):List Value:=[.bool r.named,.int .i64 r.min,.int .i64 r.max,.int .i64 r.lo,.int .i64 r.hi]
def SRow.vals(r:SRow):List Value:=[.bool r.name,.bool r.of,.int .i64 r.x,.bool r.s,.bool r.l,.bool r.els,.bool r.bind]
structure Tabs(w:World):Prop where
 lib:LibOk w
 kinds:∀(i:Nat) (r:KRow),kindRows[i]? =some r→Cells w 1 (i*5) r.vals
 shapes:∀(i:Nat) (r:SRow),shapeRows[i]? =some r→Cells w 0 (i*7) r.vals
theorem Tabs.ext{w w':World}(h:Tabs w)(hx:Ext w w'):Tabs w':=⟨h.lib.ext hx,fun i r hr=>(h.kinds i r hr).ext hx,fun i r hr=>(h.shapes i r hr).ext hx⟩
theorem z6w{α:Type}{P:α→Prop}{l:List α}{k:Nat}(hk:k<l.length)(h:∀y,y∈l.take k→P y)(hy:P l[k]):∀y,y∈l.take (k+1)→P y:=by
 intro y hm;rw[List.take_succ_eq_append_getElem hk,List.mem_append] at hm;rcases hm with hm|hm
 ·exact h y hm
 ·simp at hm;subst hm;exact hy
theorem j4o(f:Nat)(hcall:Enters Tryz.prog f)(P:X→Prop)(B:Nat)(l:List X)(w:World)(hf:∀x,x∈l→∀(w':World) (cs:List Value),Ext w w'→RX w' B x cs→B≤w'.heap.size→
 Calls Tryz.prog f #[.agg cs.toArray] w' fun e w''=>e=.returned (.bool (yes (P x)))∧Ext w' w'')
 (v:Value) (hS:Sl (RX w B) w B 6 l v) (hB:B≤w.heap.size) (hsz:l.length≤1000000000):
 Calls Tryz.prog 173 #[v,.func (.func f) #[] #[]] w fun e w'=>e=.returned (.bool (yes (∀x,x∈l→P x)))∧Ext w w':=by
 obtain⟨a,cap,rfl,hcap,hrow⟩:=hS;have HF:=Hd hf;have hcf:=hcall.o;clear hf hcall;go_enter func173,ntmps173;go_wp2_with fail
 go_loopw [9] (fun i wr=>∃k:Nat,k≤l.length∧i=.int .i64 k∧(∀y,y∈l.take k→P y)∧Ext w wr) (fun i _=>l.length - (intOf i).toNat)
 case atStart=>exact⟨0,y1p _,rfl,fun y hy=>by simp at hy,y1g _⟩
 case round=>
  obtain⟨k,hk,rfl,hpre,hx⟩:=hrel;by_cases hlt:k<l.length
  ·have hfk:=Hd (HF.o l[k] (y1l hlt));obtain⟨b,o,v0,v1,v2,v3,v4,v5,rfl,hbB,hR,hC,o0,o1,o2,o3,o4,o5⟩:=hrow.open6 hlt;obtain⟨d0,d1,d2,d3,d4,d5⟩:=(hC.ext hx).get6;have hyes:=Hd (fun h=>z6w hlt hpre h);have hno:=Hd (fun(h:¬P l[k])=>yes_no.2 (fun(ha:∀x,x∈l→P x)=>h (ha _ (y1l hlt))));have hRx:=Hd (hR.ext hx hB);clear hC hrow hR hpre HF;generalize l[k]=y at*;obtain⟨W1,hW1,hx1,hb1⟩:=z6v wr v0 v1 v2 v3 v4 v5 40;have hV1:=hW1.symm;obtain⟨c0,c1,c2,c3,c4,c5⟩:=hb1.get6;have hxw:=hx.trans hx1;have hBw:B≤W1.heap.size:=by have:=hxw.size;omega
   have hBr:B≤wr.heap.size:=by have:=hx.size;omega
   clear hb1 hW1;go_wp2_with fail
   refine(hfk.o _ _ hxw (hRx.o.ext hx1 hBr) hBw).mono ?_;rintro e w1 ⟨rfl,hy⟩;have hx9:=hxw.trans hy;by_cases hq:P y
   ·rw[yes_iff.2 hq];have hn:=Hd (hyes.o hq);go_wp2_with fail
    go_roundw;case rel=>exact⟨k+1,by omega,by go_num,hn.o,hx9⟩
    case measure=>simp[intOf];omega
   ·rw[yes_no.2 hq];have hn:=Hd (hno.o hq);go_wp2_with fail
    go_ret;exact⟨by rw[hn.o];rfl,hx9⟩
  ·have:k=l.length:=by omega
   subst this;have hfull:=Hd (yes_iff.2 (show∀x,x∈l→P x by rw[List.take_length] at hpre;exact hpre));clear hpre;go_wp2_with fail
   go_ret;exact⟨by rw[hfull.o];rfl,hx⟩
theorem k5g(f:Nat)(hcall:Enters Tryz.prog f)(P:S→Prop)(B:Nat)(l:List S)(w:World)(hf:∀x,x∈l→∀(w':World) (cs:List Value),Ext w w'→RS w' B x cs→B≤w'.heap.size→
 Calls Tryz.prog f #[.agg cs.toArray] w' fun e w''=>e=.returned (.bool (yes (P x)))∧Ext w' w'')
 (v:Value) (hS:Sl (RS w B) w B 4 l v) (hB:B≤w.heap.size) (hsz:l.length≤1000000000):
 Calls Tryz.prog 176 #[v,.func (.func f) #[] #[]] w fun e w'=>e=.returned (.bool (yes (∀x,x∈l→P x)))∧Ext w w':=by
 obtain⟨a,cap,rfl,hcap,hrow⟩:=hS;have HF:=Hd hf;have hcf:=hcall.o;clear hf hcall;go_enter func176,ntmps176;go_wp2_with fail
 go_loopw [9] (fun i wr=>∃k:Nat,k≤l.length∧i=.int .i64 k∧(∀y,y∈l.take k→P y)∧Ext w wr) (fun i _=>l.length - (intOf i).toNat)
 case atStart=>exact⟨0,y1p _,rfl,fun y hy=>by simp at hy,y1g _⟩
 case round=>
  obtain⟨k,hk,rfl,hpre,hx⟩:=hrel;by_cases hlt:k<l.length
  ·have hfk:=Hd (HF.o l[k] (y1l hlt));obtain⟨b,o,v0,v1,v2,v3,rfl,hbB,hR,hC,o0,o1,o2,o3⟩:=hrow.open4 hlt;obtain⟨d0,d1,d2,d3⟩:=(hC.ext hx).get4;have hyes:=Hd (fun h=>z6w hlt hpre h);have hno:=Hd (fun(h:¬P l[k])=>yes_no.2 (fun(ha:∀x,x∈l→P x)=>h (ha _ (y1l hlt))));have hRx:=Hd (hR.ext hx hB);clear hC hrow hR hpre HF;generalize l[k]=y at*;obtain⟨W1,hW1,hx1,hb1⟩:=q2d wr v0 v1 v2 v3 177;have hV1:=hW1.symm;obtain⟨c0,c1,c2,c3⟩:=hb1.get4;have hxw:=hx.trans hx1;have hBw:B≤W1.heap.size:=by have:=hxw.size;omega
   have hBr:B≤wr.heap.size:=by have:=hx.size;omega
   clear hb1 hW1;go_wp2_with fail
   refine(hfk.o _ _ hxw (hRx.o.ext hx1 hBr) hBw).mono ?_;rintro e w1 ⟨rfl,hy⟩;have hx9:=hxw.trans hy;by_cases hq:P y
   ·rw[yes_iff.2 hq];have hn:=Hd (hyes.o hq);go_wp2_with fail
    go_roundw;case rel=>exact⟨k+1,by omega,by go_num,hn.o,hx9⟩
    case measure=>simp[intOf];omega
   ·rw[yes_no.2 hq];have hn:=Hd (hno.o hq);go_wp2_with fail
    go_ret;exact⟨by rw[hn.o];rfl,hx9⟩
  ·have:k=l.length:=by omega
   subst this;have hfull:=Hd (yes_iff.2 (show∀x,x∈l→P x by rw[List.take_length] at hpre;exact hpre));clear hpre;go_wp2_with fail
   go_ret;exact⟨by rw[hfull.o];rfl,hx⟩
theorem j6q(f:Nat)(hcall:Enters Tryz.prog f)(P:Bnd→Prop)(B:Nat)(l:List Bnd)(w:World)(hf:∀x,x∈l→∀(w':World) (cs:List Value),Ext w w'→RB w' B x cs→B≤w'.heap.size→
 Calls Tryz.prog f #[.agg cs.toArray] w' fun e w''=>e=.returned (.bool (yes (P x)))∧Ext w' w'')
 (v:Value) (hS:Sl (RB w B) w B 7 l v) (hB:B≤w.heap.size) (hsz:l.length≤1000000000):
 Calls Tryz.prog 136 #[v,.func (.func f) #[] #[]] w fun e w'=>e=.returned (.bool (yes (∀x,x∈l→P x)))∧Ext w w':=by
 obtain⟨a,cap,rfl,hcap,hrow⟩:=hS;have HF:=Hd hf;have hcf:=hcall.o;clear hf hcall;go_enter func136,ntmps136;go_wp2_with fail
 go_loopw [9] (fun i wr=>∃k:Nat,k≤l.length∧i=.int .i64 k∧(∀y,y∈l.take k→P y)∧Ext w wr) (fun i _=>l.length - (intOf i).toNat)
 case atStart=>exact⟨0,y1p _,rfl,fun y hy=>by simp at hy,y1g _⟩
 case round=>
  obtain⟨k,hk,rfl,hpre,hx⟩:=hrel;by_cases hlt:k<l.length
  ·have hfk:=Hd (HF.o l[k] (y1l hlt));obtain⟨b,o,v0,v1,v2,v3,v4,v5,v6,rfl,hbB,hR,hC,o0,o1,o2,o3,o4,o5,o6⟩:=hrow.open7 hlt;obtain⟨d0,d1,d2,d3,d4,d5,d6⟩:=(hC.ext hx).get7;have hyes:=Hd (fun h=>z6w hlt hpre h);have hno:=Hd (fun(h:¬P l[k])=>yes_no.2 (fun(ha:∀x,x∈l→P x)=>h (ha _ (y1l hlt))));have hRx:=Hd (hR.ext hx hB);clear hC hrow hR hpre HF;generalize l[k]=y at*;obtain⟨W1,hW1,hx1,hb1⟩:=k5c wr v0 v1 v2 v3 v4 v5 v6 45;have hV1:=hW1.symm;obtain⟨c0,c1,c2,c3,c4,c5,c6⟩:=hb1.get7;have hxw:=hx.trans hx1;have hBw:B≤W1.heap.size:=by have:=hxw.size;omega
   have hBr:B≤wr.heap.size:=by have:=hx.size;omega
   clear hb1 hW1;go_wp2_with fail
   refine(hfk.o _ _ hxw (hRx.o.ext hx1 hBr) hBw).mono ?_;rintro e w1 ⟨rfl,hy⟩;have hx9:=hxw.trans hy;by_cases hq:P y
   ·rw[yes_iff.2 hq];have hn:=Hd (hyes.o hq);go_wp2_with fail
    go_roundw;case rel=>exact⟨k+1,by omega,by go_num,hn.o,hx9⟩
    case measure=>simp[intOf];omega
   ·rw[yes_no.2 hq];have hn:=Hd (hno.o hq);go_wp2_with fail
    go_ret;exact⟨by rw[hn.o];rfl,hx9⟩
  ·have:k=l.length:=by omega
   subst this;have hfull:=Hd (yes_iff.2 (show∀x,x∈l→P x by rw[List.take_length] at hpre;exact hpre));clear hpre;go_wp2_with fail
   go_ret;exact⟨by rw[hfull.o];rfl,hx⟩
theorem j6n(f:Nat)(hcall:Enters Tryz.prog f)(P:Prt→Prop)(B:Nat)(l:List Prt)(w:World)(hf:∀x,x∈l→∀(w':World) (cs:List Value),Ext w w'→RP w' B x cs→B≤w'.heap.size→
 Calls Tryz.prog f #[.agg cs.toArray] w' fun e w''=>e=.returned (.bool (yes (P x)))∧Ext w' w'')
 (v:Value) (hS:Sl (RP w B) w B 8 l v) (hB:B≤w.heap.size) (hsz:l.length≤1000000000):
 Calls Tryz.prog 138 #[v,.func (.func f) #[] #[]] w fun e w'=>e=.returned (.bool (yes (∀x,x∈l→P x)))∧Ext w w':=by
 obtain⟨a,cap,rfl,hcap,hrow⟩:=hS;have HF:=Hd hf;have hcf:=hcall.o;clear hf hcall;go_enter func138,ntmps138;go_wp2_with fail
 go_loopw [9] (fun i wr=>∃k:Nat,k≤l.length∧i=.int .i64 k∧(∀y,y∈l.take k→P y)∧Ext w wr) (fun i _=>l.length - (intOf i).toNat)
 case atStart=>exact⟨0,y1p _,rfl,fun y hy=>by simp at hy,y1g _⟩
 case round=>
  obtain⟨k,hk,rfl,hpre,hx⟩:=hrel;by_cases hlt:k<l.length
  ·have hfk:=Hd (HF.o l[k] (y1l hlt));obtain⟨b,o,v0,v1,v2,v3,v4,v5,v6,v7,rfl,hbB,hR,hC,o0,o1,o2,o3,o4,o5,o6,o7⟩:=hrow.open8 hlt;obtain⟨d0,d1,d2,d3,d4,d5,d6,d7⟩:=(hC.ext hx).get8;have hyes:=Hd (fun h=>z6w hlt hpre h);have hno:=Hd (fun(h:¬P l[k])=>yes_no.2 (fun(ha:∀x,x∈l→P x)=>h (ha _ (y1l hlt))));have hRx:=Hd (hR.ext hx hB);clear hC hrow hR hpre HF;generalize l[k]=y at*;obtain⟨W1,hW1,hx1,hb1⟩:=q7r wr v0 v1 v2 v3 v4 v5 v6 v7 42;have hV1:=hW1.symm;obtain⟨c0,c1,c2,c3,c4,c5,c6,c7⟩:=hb1.get8;have hxw:=hx.trans hx1;have hBw:B≤W1.heap.size:=by have:=hxw.size;omega
   have hBr:B≤wr.heap.size:=by have:=hx.size;omega
   clear hb1 hW1;go_wp2_with fail
   refine(hfk.o _ _ hxw (hRx.o.ext hx1 hBr) hBw).mono ?_;rintro e w1 ⟨rfl,hy⟩;have hx9:=hxw.trans hy;by_cases hq:P y
   ·rw[yes_iff.2 hq];have hn:=Hd (hyes.o hq);go_wp2_with fail
    go_roundw;case rel=>exact⟨k+1,by omega,by go_num,hn.o,hx9⟩
    case measure=>simp[intOf];omega
   ·rw[yes_no.2 hq];have hn:=Hd (hno.o hq);go_wp2_with fail
    go_ret;exact⟨by rw[hn.o];rfl,hx9⟩
  ·have:k=l.length:=by omega
   subst this;have hfull:=Hd (yes_iff.2 (show∀x,x∈l→P x by rw[List.take_length] at hpre;exact hpre));clear hpre;go_wp2_with fail
   go_ret;exact⟨by rw[hfull.o];rfl,hx⟩
theorem j6p(f:Nat)(hcall:Enters Tryz.prog f)(P:Itm→Prop)(B:Nat)(l:List Itm)(w:World)(hf:∀x,x∈l→∀(w':World) (cs:List Value),Ext w w'→RI w' B x cs→B≤w'.heap.size→
 Calls Tryz.prog f #[.agg cs.toArray] w' fun e w''=>e=.returned (.bool (yes (P x)))∧Ext w' w'')
 (v:Value) (hS:Sl (RI w B) w B 9 l v) (hB:B≤w.heap.size) (hsz:l.length≤1000000000):
 Calls Tryz.prog 139 #[v,.func (.func f) #[] #[]] w fun e w'=>e=.returned (.bool (yes (∀x,x∈l→P x)))∧Ext w w':=by
 obtain⟨a,cap,rfl,hcap,hrow⟩:=hS;have HF:=Hd hf;have hcf:=hcall.o;clear hf hcall;go_enter func139,ntmps139;go_wp2_with fail
 go_loopw [9] (fun i wr=>∃k:Nat,k≤l.length∧i=.int .i64 k∧(∀y,y∈l.take k→P y)∧Ext w wr) (fun i _=>l.length - (intOf i).toNat)
 case atStart=>exact⟨0,y1p _,rfl,fun y hy=>by simp at hy,y1g _⟩
 case round=>
  obtain⟨k,hk,rfl,hpre,hx⟩:=hrel;by_cases hlt:k<l.length
  ·have hfk:=Hd (HF.o l[k] (y1l hlt));obtain⟨b,o,v0,v1,v2,v3,v4,v5,v6,v7,v8,rfl,hbB,hR,hC,o0,o1,o2,o3,o4,o5,o6,o7,o8⟩:=hrow.open9 hlt;obtain⟨d0,d1,d2,d3,d4,d5,d6,d7,d8⟩:=(hC.ext hx).get9;have hyes:=Hd (fun h=>z6w hlt hpre h);have hno:=Hd (fun(h:¬P l[k])=>yes_no.2 (fun(ha:∀x,x∈l→P x)=>h (ha _ (y1l hlt))));have hRx:=Hd (hR.ext hx hB);clear hC hrow hR hpre HF;generalize l[k]=y at*;obtain⟨W1,hW1,hx1,hb1⟩:=q0y wr v0 v1 v2 v3 v4 v5 v6 v7 v8 37;have hV1:=hW1.symm;obtain⟨c0,c1,c2,c3,c4,c5,c6,c7,c8⟩:=hb1.get9;have hxw:=hx.trans hx1;have hBw:B≤W1.heap.size:=by have:=hxw.size;omega
   have hBr:B≤wr.heap.size:=by have:=hx.size;omega
   clear hb1 hW1;go_wp2_with fail
   refine(hfk.o _ _ hxw (hRx.o.ext hx1 hBr) hBw).mono ?_;rintro e w1 ⟨rfl,hy⟩;have hx9:=hxw.trans hy;by_cases hq:P y
   ·rw[yes_iff.2 hq];have hn:=Hd (hyes.o hq);go_wp2_with fail
    go_roundw;case rel=>exact⟨k+1,by omega,by go_num,hn.o,hx9⟩
    case measure=>simp[intOf];omega
   ·rw[yes_no.2 hq];have hn:=Hd (hno.o hq);go_wp2_with fail
    go_ret;exact⟨by rw[hn.o];rfl,hx9⟩
  ·have:k=l.length:=by omega
   subst this;have hfull:=Hd (yes_iff.2 (show∀x,x∈l→P x by rw[List.take_length] at hpre;exact hpre));clear hpre;go_wp2_with fail
   go_ret;exact⟨by rw[hfull.o];rfl,hx⟩
theorem j6o(f:Nat)(hcall:Enters Tryz.prog f)(P:Mdl→Prop)(B:Nat)(l:List Mdl)(w:World)(hf:∀x,x∈l→∀(w':World) (cs:List Value),Ext w w'→RM w' B x cs→B≤w'.heap.size→
 Calls Tryz.prog f #[.agg cs.toArray] w' fun e w''=>e=.returned (.bool (yes (P x)))∧Ext w' w'')
 (v:Value) (hS:Sl (RM w B) w B 4 l v) (hB:B≤w.heap.size) (hsz:l.length≤1000000000):
 Calls Tryz.prog 90 #[v,.func (.func f) #[] #[]] w fun e w'=>e=.returned (.bool (yes (∀x,x∈l→P x)))∧Ext w w':=by
 obtain⟨a,cap,rfl,hcap,hrow⟩:=hS;have HF:=Hd hf;have hcf:=hcall.o;clear hf hcall;go_enter func90,ntmps90;go_wp2_with fail
 go_loopw [9] (fun i wr=>∃k:Nat,k≤l.length∧i=.int .i64 k∧(∀y,y∈l.take k→P y)∧Ext w wr) (fun i _=>l.length - (intOf i).toNat)
 case atStart=>exact⟨0,y1p _,rfl,fun y hy=>by simp at hy,y1g _⟩
 case round=>
  obtain⟨k,hk,rfl,hpre,hx⟩:=hrel;by_cases hlt:k<l.length
  ·have hfk:=Hd (HF.o l[k] (y1l hlt));obtain⟨b,o,v0,v1,v2,v3,rfl,hbB,hR,hC,o0,o1,o2,o3⟩:=hrow.open4 hlt;obtain⟨d0,d1,d2,d3⟩:=(hC.ext hx).get4;have hyes:=Hd (fun h=>z6w hlt hpre h);have hno:=Hd (fun(h:¬P l[k])=>yes_no.2 (fun(ha:∀x,x∈l→P x)=>h (ha _ (y1l hlt))));have hRx:=Hd (hR.ext hx hB);clear hC hrow hR hpre HF;generalize l[k]=y at*;obtain⟨W1,hW1,hx1,hb1⟩:=q2d wr v0 v1 v2 v3 30;have hV1:=hW1.symm;obtain⟨c0,c1,c2,c3⟩:=hb1.get4;have hxw:=hx.trans hx1;have hBw:B≤W1.heap.size:=by have:=hxw.size;omega
   have hBr:B≤wr.heap.size:=by have:=hx.size;omega
   clear hb1 hW1;go_wp2_with fail
   refine(hfk.o _ _ hxw (hRx.o.ext hx1 hBr) hBw).mono ?_;rintro e w1 ⟨rfl,hy⟩;have hx9:=hxw.trans hy;by_cases hq:P y
   ·rw[yes_iff.2 hq];have hn:=Hd (hyes.o hq);go_wp2_with fail
    go_roundw;case rel=>exact⟨k+1,by omega,by go_num,hn.o,hx9⟩
    case measure=>simp[intOf];omega
   ·rw[yes_no.2 hq];have hn:=Hd (hno.o hq);go_wp2_with fail
    go_ret;exact⟨by rw[hn.o];rfl,hx9⟩
  ·have:k=l.length:=by omega
   subst this;have hfull:=Hd (yes_iff.2 (show∀x,x∈l→P x by rw[List.take_length] at hpre;exact hpre));clear hpre;go_wp2_with fail
   go_ret;exact⟨by rw[hfull.o];rfl,hx⟩
def j8e(r:KRow)(n:Int)(len w v:Int)(s:ByteArray):Prop:=r.min≤len∧len≤r.max∧r.lo≤n∧n≤r.hi∧w=0∧v=0∧(r.named=true∧z2y s∨r.named=false∧s.size=0)
theorem k9k(k:Nat)(r:KRow)(hr0:kindRows[k]? =some r)(hk1:2≤k)(hk2:k≤10)(nm:ByteArray)(n wd xv:Int)(sa:Option Addr)(len:Nat)(cap:Nat)(hln:len≤1000000000)(hsz:nm.size<4294967281)(w:World)(hT:Tabs w):
 Calls Tryz.prog 172 #[.agg #[.int .i64 k,.string nm,.int .i64 n,.int .i64 wd,.int .u64 xv,.slice sa len cap]] w fun e w'=>e=.returned (.bool (yes (j8e r n len wd xv nm)))∧Ext w w':=by
 obtain⟨res,hres⟩:∃res,res=yes (j8e r n len wd xv nm):=⟨_,rfl⟩;rw[←hres];obtain⟨nmd,mn,mx,lo,hi⟩:=r;have R:=Hd hres;have TB:=Hd hT;clear hres;obtain⟨t0,t1,t2,t3,t4⟩:=Cells.later5 (hT.kinds k _ hr0);have hk:=Hd hr0;clear hr0 hT;obtain⟨W1,e1,hV1,hx1,hs1,c0,c1,c2,c3,c4,c5⟩:=z6b w (.int .i64 k) (.string nm) (.int .i64 n) (.int .i64 wd) (.int .u64 xv) (.slice sa len cap) 40;have t0:=z0k t0 hx1;have t1:=z0k t1 hx1;have t2:=z0k t2 hx1;have t3:=z0k t3 hx1;have t4:=z0k t4 hx1;obtain⟨W2,e2,hV2,hx2,hs2,d0,d1,d2,d3,d4⟩:=k9u e1.w (.bool nmd) (.int .i64 mn) (.int .i64 mx) (.int .i64 lo) (.int .i64 hi) 248;have hx12:=e1.ext.trans hx2;have b0:=z0k c0 hx12;have b1:=z0k c1 hx12;have b2:=z0k c2 hx12;have b3:=z0k c3 hx12;have b4:=z0k c4 hx12;have b5:=z0k c5 hx12;have hx02:=hx1.trans hx12;have G1:=Hd (show ECalls Tryz.prog 134 #[.string nm] W2 (.bool (z5t nm)) from fun w' hw=>z3x nm w' ((TB.o.ext (hx02.trans hw)).lib) hsz);clear hx1 hx2 hx12 hs1 hs2 TB;by_cases hN:z2y nm
 all_goals
  first|rw[nameOk_iff.2 hN] at G1|rw[z8i hN] at G1
  have qN:=Hd hN;clear hN;by_cases h0:nm.size=0
  all_goals
   first|have hem:=z3b h0|have hem:=z4a h0
   have q0:=Hd h0;clear h0;cases nmd
   all_goals
    go_enter func172,ntmps172;go_wp2_with (first|(go_at_call 134;refine(G1.o.at_ _).mono ?_;rintro _ _ ⟨rfl,e,rfl⟩))
    all_goals
     go_ret;refine⟨?_,hx02.trans (y1i _)⟩;rw[R.o];refine congrArg (fun b=>Ending.returned (Value.bool b)) ?_;rw[Bool.eq_iff_iff,yes_iff];unfold j8e;have h1:=qN.o;have h2:=q0.o;simp[h1,h2] at*;try omega
def z5s(n len w v:Int)(s:ByteArray):Prop:=len=0∧n=0∧s.size=0∧0≤w∧w≤64∧(w=0∨w=64∨v<2 ^ w.toNat)
inductive NumCase (wd xv:Int) (nm:ByteArray):Prop
 |name (h:nm.toList.isEmpty=false) (hr:∀n len,¬z5s n len wd xv nm)
 |low (h:nm.toList.isEmpty=true) (h1:decide (0≤wd)=false) (hr:∀n len,¬z5s n len wd xv nm)
 |high (h:nm.toList.isEmpty=true) (h1:0≤wd) (h2:decide (wd≤64)=false) (hr:∀n len,¬z5s n len wd xv nm)
 |zero (h:nm.toList.isEmpty=true) (h1:wd=0) (hr:∀n len,z5s n len wd xv nm↔len=0∧n=0)
 |full (h:nm.toList.isEmpty=true) (h1:wd=64) (hr:∀n len,z5s n len wd xv nm↔len=0∧n=0)
 |fits (h:nm.toList.isEmpty=true) (h1:0≤wd) (h2:wd≤64) (h3:(wd==0)=false) (h4:(wd==64)=false) (hp:((2:Int) ^ wd.toNat) % 18446744073709551616=2 ^ wd.toNat) (h5:xv<2 ^ wd.toNat) (hr:∀n len,z5s n len wd xv nm↔len=0∧n=0)
 |over (h:nm.toList.isEmpty=true) (h1:0≤wd) (h2:wd≤64) (h3:(wd==0)=false) (h4:(wd==64)=false) (hp:((2:Int) ^ wd.toNat) % 18446744073709551616=2 ^ wd.toNat) (h5:¬xv<2 ^ wd.toNat) (hr:∀n len,¬z5s n len wd xv nm)
theorem j0w(n:Nat)(h:n<64):((2:Int) ^ n) % 18446744073709551616=2 ^ n:=by
 have h1:(2:Nat) ^ n<2 ^ 64:=Nat.pow_lt_pow_right (by decide) h;have h2:(2:Nat) ^ 64=18446744073709551616:=by decide
 have h3:((2:Int) ^ n)=((2 ^ n:Nat):Int):=by simp
 rw[h3];rw[h2] at h1;generalize (2:Nat) ^ n=p at*;omega
theorem k6z(wd xv:Int)(nm:ByteArray):NumCase wd xv nm:=by
 by_cases h0:nm.size=0
 ·have hem:=z3b h0;by_cases h1:0≤wd
  ·by_cases h2:wd≤64
   ·by_cases h3:wd=0
    ·exact .zero hem h3 (fun n len=>by unfold z5s;omega)
    ·by_cases h4:wd=64
     ·exact .full hem h4 (fun n len=>by unfold z5s;omega)
     ·have hp:=j0w wd.toNat (by omega);by_cases h5:xv<2 ^ wd.toNat
      ·exact .fits hem h1 h2 (by simpa using h3) (by simpa using h4) hp h5 (fun n len=>by unfold z5s;constructor;exact fun h=>⟨h.1,h.2.1⟩;exact fun h=>⟨h.1,h.2,h0,h1,h2,.inr (.inr h5)⟩)
      ·exact .over hem h1 h2 (by simpa using h3) (by simpa using h4) hp h5 (fun n len h=>by
        rcases h.2.2.2.2.2 with h|h|h
        ·exact h3 h
        ·exact h4 h
        ·exact h5 h)
   ·exact .high hem h1 (by simpa using h2) (fun n len h=>h2 h.2.2.2.2.1)
  ·exact .low hem (by simpa using h1) (fun n len h=>h1 h.2.2.2.1)
 ·exact .name (z4a h0) (fun n len h=>h0 h.2.2.1)
theorem k9l(nm:ByteArray)(n wd xv:Int)(sa:Option Addr)(len:Nat)(cap:Nat)(hln:len≤1000000000)(w:World)(hT:Tabs w):
 Calls Tryz.prog 172 #[.agg #[.int .i64 1,.string nm,.int .i64 n,.int .i64 wd,.int .u64 xv,.slice sa len cap]] w fun e w'=>e=.returned (.bool (yes (z5s n len wd xv nm)))∧Ext w w':=by
 obtain⟨res,hres⟩:∃res,res=yes (z5s n len wd xv nm):=⟨_,rfl⟩;rw[←hres];have R:=Hd hres;clear hres
 obtain⟨nmd,mn,mx,lo,hi,hmn,hmx,hlo,hhi,hTk⟩:∃(nmd:Bool) (mn mx lo hi:Int),mn=0∧mx=0∧lo=0∧hi=0∧Cells w 1 (1*5) [.bool nmd,.int .i64 mn,.int .i64 mx,.int .i64 lo,.int .i64 hi]:=
  ⟨false,0,0,0,0,rfl,rfl,rfl,rfl,hT.kinds 1 _ rfl⟩
 have RW:=Hd (y1x hmn (y1x hmx (y1x hlo hhi)));clear hmn hmx hlo hhi;obtain⟨t0,t1,t2,t3,t4⟩:=Cells.later5 hTk;clear hT;obtain⟨W1,e1,hV1,hx1,hs1,c0,c1,c2,c3,c4,c5⟩:=z6b w (.int .i64 1) (.string nm) (.int .i64 n) (.int .i64 wd) (.int .u64 xv) (.slice sa len cap) 40;have t0:∀e:Later W1,e.w.cell? ⟨1,5,none⟩=some (.bool nmd):=z0k t0 hx1;have t1:∀e:Later W1,e.w.cell? ⟨1,6,none⟩=some (.int .i64 mn):=z0k t1 hx1;have t2:∀e:Later W1,e.w.cell? ⟨1,7,none⟩=some (.int .i64 mx):=z0k t2 hx1;have t3:∀e:Later W1,e.w.cell? ⟨1,8,none⟩=some (.int .i64 lo):=z0k t3 hx1;have t4:∀e:Later W1,e.w.cell? ⟨1,9,none⟩=some (.int .i64 hi):=z0k t4 hx1;obtain⟨W2,e2,hV2,hx2,hs2,d0,d1,d2,d3,d4⟩:=k9u e1.w (.bool nmd) (.int .i64 mn) (.int .i64 mx) (.int .i64 lo) (.int .i64 hi) 248;have hx12:=e1.ext.trans hx2;have b0:=z0k c0 hx12;have b1:=z0k c1 hx12;have b2:=z0k c2 hx12;have b3:=z0k c3 hx12;have b4:=z0k c4 hx12;have b5:=z0k c5 hx12;have hx02:=hx1.trans hx12;clear hx1 hx2 hx12 hs1 hs2;have NC:=k6z wd xv nm;cases NC;case name h hr=>
  have HR:=Hd hr;clear hr;go_enter func172,ntmps172;go_wp2_with fail
  all_goals
   first
    |go_ret
    |(refine z1a (W:=W2) (by kernel_rfl) (by kernel_rfl) (y1i _) ?_
      repeat (go_big_quiet_step (fail))
      refine wpQuiet_nil ?_;rintro _ ⟨e,rfl⟩;go_wp2_with fail
      go_ret)
  all_goals
   refine⟨?_,hx02.trans (y1i _)⟩;rw[R.o];refine congrArg (fun b=>Ending.returned (Value.bool b)) ?_;rw[Bool.eq_iff_iff,yes_iff];have hh:=HR.o n (len:Int);have q:=RW.o;simp[hh];try omega
 case low h h1 hr=>
  have HR:=Hd hr;clear hr;go_enter func172,ntmps172;go_wp2_with fail
  all_goals
   first
    |go_ret
    |(refine z1a (W:=W2) (by kernel_rfl) (by kernel_rfl) (y1i _) ?_
      repeat (go_big_quiet_step (fail))
      refine wpQuiet_nil ?_;rintro _ ⟨e,rfl⟩;go_wp2_with fail
      go_ret)
  all_goals
   refine⟨?_,hx02.trans (y1i _)⟩;rw[R.o];refine congrArg (fun b=>Ending.returned (Value.bool b)) ?_;rw[Bool.eq_iff_iff,yes_iff];have hh:=HR.o n (len:Int);have q:=RW.o;simp[hh];try omega
 case high h h1 h2 hr=>
  have HR:=Hd hr;clear hr;go_enter func172,ntmps172;go_wp2_with fail
  all_goals
   first
    |go_ret
    |(refine z1a (W:=W2) (by kernel_rfl) (by kernel_rfl) (y1i _) ?_
      repeat (go_big_quiet_step (fail))
      refine wpQuiet_nil ?_;rintro _ ⟨e,rfl⟩;go_wp2_with fail
      go_ret)
  all_goals
   refine⟨?_,hx02.trans (y1i _)⟩;rw[R.o];refine congrArg (fun b=>Ending.returned (Value.bool b)) ?_;rw[Bool.eq_iff_iff,yes_iff];have hh:=HR.o n (len:Int);have q:=RW.o;simp[hh];try omega
 case zero h h1 hr=>
  have HR:=Hd hr;clear hr;subst h1;go_enter func172,ntmps172;go_wp2_with fail
  all_goals
   first
    |go_ret
    |(refine z1a (W:=W2) (by kernel_rfl) (by kernel_rfl) (y1i _) ?_
      repeat (go_big_quiet_step (fail))
      refine wpQuiet_nil ?_;rintro _ ⟨e,rfl⟩;go_wp2_with fail
      go_ret)
  all_goals
   refine⟨?_,hx02.trans (y1i _)⟩;rw[R.o];refine congrArg (fun b=>Ending.returned (Value.bool b)) ?_;rw[Bool.eq_iff_iff,yes_iff];have hh:=HR.o n (len:Int);have q:=RW.o;simp[hh];try omega
 case full h h1 hr=>
  have HR:=Hd hr;clear hr;subst h1;go_enter func172,ntmps172;go_wp2_with fail
  all_goals
   first
    |go_ret
    |(refine z1a (W:=W2) (by kernel_rfl) (by kernel_rfl) (y1i _) ?_
      repeat (go_big_quiet_step (fail))
      refine wpQuiet_nil ?_;rintro _ ⟨e,rfl⟩;go_wp2_with fail
      go_ret)
  all_goals
   refine⟨?_,hx02.trans (y1i _)⟩;rw[R.o];refine congrArg (fun b=>Ending.returned (Value.bool b)) ?_;rw[Bool.eq_iff_iff,yes_iff];have hh:=HR.o n (len:Int);have q:=RW.o;simp[hh];try omega
 case fits h h1 h2 h3 h4 hp h5 hr=>
  have HR:=Hd hr;clear hr;go_enter func172,ntmps172;go_wp2_with fail
  all_goals
   first
    |go_ret
    |(refine z1a (W:=W2) (by kernel_rfl) (by kernel_rfl) (y1i _) ?_
      repeat (go_big_quiet_step (fail))
      refine wpQuiet_nil ?_;rintro _ ⟨e,rfl⟩;go_wp2_with fail
      go_ret)
  all_goals
   refine⟨?_,hx02.trans (y1i _)⟩;rw[R.o];refine congrArg (fun b=>Ending.returned (Value.bool b)) ?_;rw[Bool.eq_iff_iff,yes_iff];have hh:=HR.o n (len:Int);have q:=RW.o;simp[hh];try omega
 case over h h1 h2 h3 h4 hp h5 hr=>
  have HR:=Hd hr;clear hr;go_enter func172,ntmps172;go_wp2_with fail
  all_goals
   first
    |go_ret
    |(refine z1a (W:=W2) (by kernel_rfl) (by kernel_rfl) (y1i _) ?_
      repeat (go_big_quiet_step (fail))
      refine wpQuiet_nil ?_;rintro _ ⟨e,rfl⟩;go_wp2_with fail
      go_ret)
  all_goals
   refine⟨?_,hx02.trans (y1i _)⟩;rw[R.o];refine congrArg (fun b=>Ending.returned (Value.bool b)) ?_;rw[Bool.eq_iff_iff,yes_iff];have hh:=HR.o n (len:Int);have q:=RW.o;simp[hh];try omega
end Go.Proofs.YtlfmlodanoolhaaGreatDoor
namespace Go.Proofs.YtlfmlodanoolhaaGreatDoor
open Go Go.RowKit Go.ChangeShapes Go.WideShapes Go.Proofs.Tryz
theorem k9f{α:Type}{l:List α}(h:l.length=5):∃a b c d e,l=[a,b,c,d,e]:=by
 match l,h with
 |[a,b,c,d,e],_=>exact⟨_,_,_,_,_,rfl⟩
def KRow.data{H:Type}(r:KRow):DataW H:=.agg [.lit (.bool r.named),.lit (.int .i64 r.min),.lit (.int .i64 r.max),.lit (.int .i64 r.lo),.lit (.int .i64 r.hi)]
def SRow.data{H:Type}(r:SRow):DataW H:=.agg [.lit (.bool r.name),.lit (.bool r.of),.lit (.int .i64 r.x),.lit (.bool r.s),.lit (.bool r.l),.lit (.bool r.els),.lit (.bool r.bind)]
theorem j5n{H:Type}:(Rows.laid_filigree_ast_kinds:DataW H)=.agg (kindRows.map KRow.data):=rfl
theorem j1e{H:Type}:(Rows.laid_filigree_ast_shapes:DataW H)=.agg (shapeRows.map SRow.data):=rfl
theorem k5y:Tryz.prog.cellsOf 248=5:=by kernel_rfl
theorem k1k:Tryz.prog.cellsOf 221=7:=by kernel_rfl
section
variable {H : Type} {enc : TypeId × Value → H} {w : World} {spare : Nat → Bool} {held : Bool}
theorem z7j{fuel:Nat}{c:Value}{y:DataW H×List MemPlace}{b:Bool}(h:DataW.trod enc Tryz.prog w 0 spare held fuel 4 [c]=some y)(hy:y.1=.lit (.bool b)):c=.bool b:=by
 obtain⟨n,h1,h2⟩:=DataW.trod_bool underlying4 h;simp only[List.cons.injEq,and_true] at h1;subst h2;simp only[DataW.lit.injEq,Lit.bool.injEq] at hy;rw[h1,hy]
theorem q4n{fuel:Nat}{c:Value}{y:DataW H×List MemPlace}{z:Int}(h:DataW.trod enc Tryz.prog w 0 spare held fuel 3 [c]=some y)(hy:y.1=.lit (.int .i64 z)):c=.int .i64 z:=by
 obtain⟨n,h1,h2,h3⟩:=DataW.trod_int underlying3 h;simp only[List.cons.injEq,and_true] at h1;subst h2;simp only[DataW.lit.injEq,Lit.int.injEq,true_and] at hy;rw[h1,hy]
theorem k4f{fuel:Nat}{cs:List Value}{p:List MemPlace}{r:KRow}(h:DataW.trod enc Tryz.prog w 0 spare held fuel 248 cs=some (r.data,p)):cs=r.vals:=by
 obtain⟨xs,n,-,hx,hl,hlen,hf⟩:=DataW.trod_struct underlying248 h;obtain⟨c0,c1,c2,c3,c4,rfl⟩:=k9f (hl.trans k5y);obtain⟨y0,y1,y2,y3,y4,rfl⟩:=k9f hlen;have g0:=hf 0 _ rfl;have g1:=hf 1 _ rfl;have g2:=hf 2 _ rfl;have g3:=hf 3 _ rfl;have g4:=hf 4 _ rfl;clear hf;simp[k8d,k5z] at g0 g1 g2 g3 g4;have hd:=(Prod.mk.inj hx).1;simp only[KRow.data,List.map_cons,List.map_nil,DataW.agg.injEq,List.cons.injEq,and_true] at hd;obtain⟨e0,e1,e2,e3,e4⟩:=hd;rw[z7j g0 e0.symm,q4n g1 e1.symm,q4n g2 e2.symm,q4n g3 e3.symm,q4n g4 e4.symm];rfl
theorem k0l{fuel:Nat}{cs:List Value}{p:List MemPlace}{r:SRow}(h:DataW.trod enc Tryz.prog w 0 spare held fuel 221 cs=some (r.data,p)):cs=r.vals:=by
 obtain⟨xs,n,-,hx,hl,hlen,hf⟩:=DataW.trod_struct underlying221 h;obtain⟨c0,c1,c2,c3,c4,c5,c6,rfl⟩:=k9e (hl.trans k1k);obtain⟨y0,y1,y2,y3,y4,y5,y6,rfl⟩:=k9e hlen;have g0:=hf 0 _ rfl;have g1:=hf 1 _ rfl;have g2:=hf 2 _ rfl;have g3:=hf 3 _ rfl;have g4:=hf 4 _ rfl;have g5:=hf 5 _ rfl;have g6:=hf 6 _ rfl;clear hf;simp[k8d,k5z] at g0 g1 g2 g3 g4 g5 g6;have hd:=(Prod.mk.inj hx).1;simp only[SRow.data,List.map_cons,List.map_nil,DataW.agg.injEq,List.cons.injEq,and_true] at hd;obtain⟨e0,e1,e2,e3,e4,e5,e6⟩:=hd;rw[z7j g0 e0.symm,z7j g1 e1.symm,q4n g2 e2.symm,z7j g3 e3.symm,z7j g4 e4.symm,z7j g5 e5.symm,z7j g6 e6.symm];rfl
theorem q9k{α:Type}{data:α→DataW H}{vals:α→List Value}{n k:Nat}{t e:TypeId}(ht:Tryz.prog.underlying t=some (.array n e))(hk:Tryz.prog.cellsOf e=k)
 (hread:∀fuel cs p r,DataW.trod enc Tryz.prog w 0 spare held fuel e cs=some (data r,p)→cs=vals r) {rows:List α} {fuel:Nat} {cs:List Value} {p:List MemPlace}
 (h:DataW.trod enc Tryz.prog w 0 spare held fuel t cs=some (.agg (rows.map data),p)) (i:Nat) (r:α) (hr:rows[i]? =some r):(cs.drop (i*k)).take k=vals r:=by
 obtain⟨xs,m,_,hx,hl,hlen,hel⟩:=DataW.trod_array ht h;have hd:=(Prod.mk.inj hx).1;simp only[DataW.agg.injEq] at hd;have hxi:(xs.map (·.1))[i]? =some (data r):=by rw[←hd,List.getElem?_map,hr];rfl
 have hi:i<xs.length:=by
  have:=(y1t.1 hxi).1;simpa using this
 have h1:=hel i (by omega);rw[List.getElem?_eq_getElem hi] at h1;rw[List.getElem?_map,List.getElem?_eq_getElem hi] at hxi;simp only[Option.map_some,Option.some.injEq] at hxi;rw[hk] at h1;exact hread m _ (xs[i]).2 r (by rw[h1,←hxi])
end
theorem q0u{W:World}{g:Nat}{cs:Array Value}(hv:∀i,W.cell? ⟨g,i,none⟩=cs[i]?){i k:Nat}{vs:List Value}(h:(cs.toList.drop (i*k)).take k=vs):Cells W g (i*k) vs:=by
 intro j v hj;rw[hv];rw[←h,List.getElem?_take] at hj;split at hj
 ·rw[List.getElem?_drop] at hj;rw[←Array.getElem?_toList];exact hj
 ·cases hj
theorem gKinds : Tryz.prog.globalNamed "filigree/ast.kinds" = some 1 := by kernel_rfl
theorem gKindsT:(Tryz.prog.globals[1]?).map (·.type)=some 249:=by kernel_rfl
theorem gShapes : Tryz.prog.globalNamed "filigree/ast.shapes" = some 0 := by kernel_rfl
theorem gShapesT:(Tryz.prog.globals[0]?).map (·.type)=some 222:=by kernel_rfl
theorem k3t{W:World}(h:W.ShapedOpen Tryz.prog):LibOk W:=
 cell_of_shapedOpen_int (t:=3) (zero:=#[.int .i64 0]) h (of_decide_eq_true (by kernel_rfl)) (by kernel_rfl) rfl (by kernel_rfl) (by kernel_rfl) underlying3
theorem k7l:laidOutB Tryz.prog=true:=by kernel_rfl
theorem k9c:mapsRowed Tryz.prog=true:=by kernel_rfl
theorem full:∀t e,t<Tryz.prog.types.size→Tryz.prog.underlying t=some (.slice e)→0<Tryz.prog.cellsOf e:=slices_full_of Tryz.prog (by kernel_rfl)
theorem y0t{P:Program}{t:TypeId}(ht:P.underlying t=some .bool)(W':World){f:Func}(hr:f.resultTypes=#[t]):
 ∀(j:Nat) (t':TypeId) (r:Value),f.resultTypes[j]? =some t'→((Value.bool true).resultList f.resultTypes.size)[j]? =some r→Value.okWide P W' .any 0 t' r:=
 ok_one hr rfl (okWide_bool_mk ht true)
theorem q5g{P:Program}{H:Type}{enc:TypeId×Value→H}{W W':World}(hx:Ext W W'):∀{ts:List TypeId} {vs:List Value} {ds:List (DataW H)} {ps:List MemPlace},
 DataW.TrodAll enc P W 0 (fun _=>true) true ts vs ds ps→(∀p,p∈ps→p.block<W.heap.size)→DataW.TrodAll enc P W' 0 (fun _=>true) true ts vs ds ps
 |[],[],[],_,h,_=>h
 |_::_,_::_,_::_,_,⟨p,q,⟨n,h1⟩,h2,e⟩,hs=>
  ⟨p,q,⟨n,DataW.trod_carry n _ _ _ h1 fun x hm=>Below.same hx (hs x (by rw[e];exact List.mem_append_left _ hm))⟩,q5g hx h2 (fun x hm=>hs x (by rw[e];exact List.mem_append_right _ hm)),e⟩
theorem j8n{P:Program}{tb:TypeId}(htb:P.underlying tb=some .bool)(hlo:laidOutB P=true)(hmr:mapsRowed P=true)(hfu:∀t e,t<P.types.size→P.underlying t=some (.slice e)→0<P.cellsOf e)
 {H:Type} {enc:TypeId×Value→H} {f:Func} {s:ChangeSpec} {W W':World} {args:Array Value} {ds gs:List (DataW H)} {before:List MemPlace} (hv0:s.vars=[]) (hr:f.resultTypes=#[tb])
 (hp:∀t∈f.params.toList,t<P.types.size) (hW:DataW.Whole enc P f.params.toList s.vars false W args.toList ds gs before)
 (hfn:s.fn H (ds++gs)={results:=[.lit (.bool true)],args:=ds}) (hx:Ext W W'):s.post enc P f false true false false W args (.bool true) W':=by
 have hW0:=hW;have hlt:∀p,p∈before→p.block<W.heap.size:=fun p hp=>hW.lt p hp
 obtain⟨p,q,hA,hV,rfl,hfz,hnd⟩:=hW;rw[hv0] at hV;obtain⟨rfl,rfl⟩:=trodVars_none hV;rw[List.append_nil] at hW0 hlt hfz hnd;have hagain:=q5g hx hA hlt
 have hargs:∀sp:Nat→Bool,(∀x∈p,sp x.block=true)→DataW.TrodAll enc P W' 0 sp true f.params.toList args.toList ds p:=
  fun sp hsp=>DataW.TrodAll.respare (kids_rows hlo hmr) hfu hp hagain hsp
 have hres:∀(b:Nat) (sp:Nat→Bool) (hd:Bool),DataW.TrodAll enc P W' b sp hd f.resultTypes.toList ((Value.bool true).resultList f.resultTypes.size) [.lit (.bool true)] []:=by
  intro b sp hd;rw[hr];exact trodAll_mk1 (shut_bool htb true)
 have hvars:∀sp:Nat→Bool,DataW.TrodVars enc P W' sp s.vars [] []:=by
  intro sp;rw[hv0];exact rfl
 have hold:∀x∈p,(fun b=>decide (b<W.heap.size)) x.block=true:=fun x hm=>by simpa using hlt x hm
 refine⟨ds,[],p,[],p,[],hW0,?_,?_,?_,World.keptBut_mono (fun x hm=>⟨hm,Or.inr (by simpa using hm)⟩) (Below.frame hx (·∈p)),fun _=>?_⟩
 ·rw[hfn];exact hres _ _ _
 ·rw[hfn];exact hargs _ hold
 ·rw[hfn];exact hvars _
 ·refine⟨y0t htb W' hr,[.lit (.bool true)]++ds,[],([]++p)++[],⟨[]++p,[],?_,?_,rfl,?_,?_⟩,?_⟩
  ·exact trodAll_append (hargs _ (fun _ _=>rfl)) (hres _ _ _)
  ·exact hvars _
  ·intro b off hm;rw[hx.frozen (hlt _ (by simpa using hm))];exact hfz b off (by simpa using hm)
  ·intro ha;cases ha
  ·intro x hm _;simpa using hm
theorem k6r:ownKnob Tryz.prog.godebug=none:=by kernel_rfl
theorem k3e{P:Program}{H:Type}{enc:TypeId×Value→H}{W:World}{base:Nat}{ts:Array TypeId}{args:Array Value}{t:TypeId}{v:Value}{d:DataW H}{p:List MemPlace}{fs:Array Field}{sp:Nat→Bool}{held:Bool}
 (hval:∀(j:Nat) t v,ts[j]? =some t→args[j]? =some v→Value.okWide P W .any base t v) (j:Nat) (hp:ts[j]? =some t) (ha:args[j]? =some v) (ht:P.underlying t=some (.struct fs))
 (h:DataW.Trod enc P W 0 sp held t v d p):∃cs fuel,v=.agg cs∧DataW.trod enc P W 0 sp held fuel t cs.toList=some (d,p):=by
 obtain⟨cs,rfl,-⟩:=okWide_struct ht (hval j t v hp ha);obtain⟨fuel,hf⟩:=h;exact⟨cs,fuel,rfl,hf⟩
theorem k8h{P:Program}{H:Type}{enc:TypeId×Value→H}{W:World}{base:Nat}{ts:Array TypeId}{args:Array Value}{t:TypeId}{v:Value}{d:DataW H}{p:List MemPlace}{sp:Nat→Bool}{held:Bool}
 (hval:∀(j:Nat) t v,ts[j]? =some t→args[j]? =some v→Value.okWide P W .any base t v) (j:Nat) (hp:ts[j]? =some t) (ha:args[j]? =some v) (ht:P.underlying t=some .string)
 (h:DataW.Trod enc P W 0 sp held t v d p):∃s:ByteArray,v=.string s∧d=.lit (.string s.data.toList):=by
 have hv:=hval j t v hp ha;obtain⟨fuel,hf⟩:=h;obtain⟨s,hc,hx,-⟩:=DataW.trod_string ht hf;refine⟨s,?_,(Prod.mk.inj hx).1⟩;cases v<;>simp_all [Value.cells,Value.okWide,Cell.okWide,Cell.ok]
section
variable {H : Type} {enc : TypeId × Value → H} {W : World} {base : Nat} {ts : Array TypeId} {args : Array Value} {v : Value} {d : DataW H} {p : List MemPlace} {sp : Nat → Bool} {held : Bool}
theorem k3c(hval:∀(j:Nat) t v,ts[j]? =some t→args[j]? =some v→Value.okWide Tryz.prog W .any base t v)(j:Nat)(hp:ts[j]? =some 9)(ha:args[j]? =some v)
 (h:DataW.Trod enc Tryz.prog W 0 sp held 9 v d p) (hb:Rows.uptoBulk d≤1048576):
 ∃(s:ByteArray),v=.string s∧s.size≤1048576:=by
 obtain⟨s,rfl,rfl⟩:=k8h hval j hp ha underlying9 h;refine⟨s,rfl,?_⟩;simp[Rows.uptoBulk] at hb;omega
end
theorem j7v{H:Type}{ds:List (DataW H)}(h:Rows.uptoSmall H ds=true):Rows.uptoBulkAll ds≤1048576:=of_decide_eq_true h
def j9k:Array Value:=(kindRows.flatMap KRow.vals).toArray
def j4x:Array Value:=(shapeRows.flatMap SRow.vals).toArray
def q8x(cs:Array Value):Obj→Obj
 |.cells _ t frozen=>.cells cs t frozen
 |o=>o
theorem k3d{H:Type}{enc:TypeId×Value→H}{W:World}{base:Nat}{ts:Array TypeId}{args:Array Value}{v:Value}{d:DataW H}{p:List MemPlace}{sp:Nat→Bool}{held:Bool}
 (hval:∀(j:Nat) t v,ts[j]? =some t→args[j]? =some v→Value.okWide Tryz.prog W .any base t v) (j:Nat) (hp:ts[j]? =some 3) (ha:args[j]? =some v)
 (h:DataW.Trod enc Tryz.prog W 0 sp held 3 v d p):∃n:Int,v=.int .i64 n∧d=.lit (.int .i64 n):=by
 have hv:=hval j _ v hp ha;obtain⟨fuel,hf⟩:=h;obtain⟨n,hc,hx,-⟩:=DataW.trod_int underlying3 hf;refine⟨n,?_,(Prod.mk.inj hx).1⟩;cases v<;>simp_all [Value.cells,Value.okWide,Cell.okWide,Cell.ok]
end Go.Proofs.YtlfmlodanoolhaaGreatDoor
