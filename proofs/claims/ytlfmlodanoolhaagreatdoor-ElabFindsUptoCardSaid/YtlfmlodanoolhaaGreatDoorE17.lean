import Derived.Test.YtlfmlodanoolhaaGreatDoorE15
import Derived.Test.YtlfmlodanoolhaaGreatDoorE10
set_option linter.all false
set_option maxRecDepth 200000
set_option maxHeartbeats 32000000
namespace Go.Proofs.YtlfmlodanoolhaaGreatDoor
open Go Go.RowKit
attribute [local go_sem] z0f
theorem j8u(l:List S)(k:Nat)(h:k<l.length):q5l l k=l[k].op:=by
 unfold q5l;rw[List.getElem?_eq_getElem h]
theorem y0k{x:S}(h1:x.op≠1)(h2:x.op≠2)(h3:x.op≠3)(h5:x.op≠5)(h6:x.op≠6):MayS x↔(∀y,y∈x.x→MayX y)∧(x.name.size=0)∧False:=by
 rw[MayS_iff];unfold q4x z6z;simp[h1,h2,h3,h5,h6]
theorem y0j{x:S}(hop:x.op=1):MayS x↔(∀y,y∈x.x→MayX y)∧(x.name.size=0)∧(x.x.length=2)∧(z3y x.x)∧(x.l.length=0):=by
 rw[MayS_iff];unfold q4x z6z;simp[hop]
theorem y0i{x:S}(hop:x.op=2):MayS x↔(∀y,y∈x.x→MayX y)∧(x.name.size=0)∧(x.x.length=1)∧(x.l.length=2)∧(q5l x.l 0=5)∧((q5l x.l 1=5∨q5l x.l 1=2))∧(∀y,y∈x.l→MayS y):=by
 rw[MayS_iff];unfold q4x z6z;simp[hop]
theorem y0h{x:S}(hop:x.op=3):MayS x↔(∀y,y∈x.x→MayX y)∧(x.name.size=0)∧(x.x.length=1)∧(z4k x.l):=by
 rw[MayS_iff];unfold q4x z6z;simp[hop]
def z4e(n d:Nat)(b:Bool):Int:=if 65536<n∨64<d then 2 else if b then 0 else 1
theorem y0g{x:S}(hop:x.op=5):MayS x↔(∀y,y∈x.x→MayX y)∧(x.name.size=0)∧(x.x.length=0)∧(∀y,y∈x.l→MayS y):=by
 rw[MayS_iff];unfold q4x z6z;simp[hop]
theorem y0f{x:S}(hop:x.op=6):MayS x↔(∀y,y∈x.x→MayX y)∧(z2y x.name)∧(x.x.length=2)∧(∀y,y∈x.l→MayS y):=by
 rw[MayS_iff];unfold q4x z6z;simp[hop]
theorem Sl.one{α:Type}{R:α→List Value→Prop}{w:World}{B sz g:Nat}{x:α}{cs:List Value}(hb:g<B)(hl:cs.length=sz)(hc:Cells w g 0 cs)(ho:∀v,v∈cs→v.oneCell'=true)(hr:R x cs):
 Sl R w B sz [x] (.slice (some ⟨g,0,none⟩) 1 1):=by
 refine⟨_,1,rfl,y1j _,fun k hk=>?_⟩;obtain rfl:k=0:=by simp at hk;omega
 exact⟨g,0,cs,rfl,hb,hl,by simpa using hc,ho,hr⟩
end Go.Proofs.YtlfmlodanoolhaaGreatDoor
