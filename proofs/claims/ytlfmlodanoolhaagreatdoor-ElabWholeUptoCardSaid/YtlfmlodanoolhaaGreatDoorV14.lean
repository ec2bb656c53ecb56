import Derived.Test.YtlfmlodanoolhaaGreatDoorV12
import Derived.Test.YtlfmlodanoolhaaGreatDoorV10
set_option linter.all false
set_option maxRecDepth 200000
set_option maxHeartbeats 0
namespace Go.Proofs.YtlfmlodanoolhaaGreatDoor
open Go Go.RowKit
attribute [local go_sem] bc
theorem pZ(l:List S)(k:Nat)(h:k<l.length):cU l k=l[k].op:=by
 unfold cU;rw[List.getElem?_eq_getElem h]
theorem sF{x:S}(b:x.op≠1)(h2:x.op≠2)(h3:x.op≠3)(c:x.op≠5)(d:x.op≠6):MayS x↔(∀a,a∈x.x->MayX a)/\(x.name.size=0)/\False:=by
 rw[MayS_iff];unfold el dS;simp[b,h2,h3,c,d]
theorem sG{x:S}(b:x.op=1):MayS x↔(∀a,a∈x.x->MayX a)/\(x.name.size=0)/\(x.x.length=2)/\(fy x.x)/\(x.l.length=0):=by
 rw[MayS_iff];unfold el dS;simp[b]
theorem sH{x:S}(b:x.op=2):MayS x↔(∀a,a∈x.x->MayX a)/\(x.name.size=0)/\(x.x.length=1)/\(x.l.length=2)/\(cU x.l 0=5)/\((cU x.l 1=5\/cU x.l 1=2))/\(∀a,a∈x.l->MayS a):=by
 rw[MayS_iff];unfold el dS;simp[b]
theorem sI{x:S}(b:x.op=3):MayS x↔(∀a,a∈x.x->MayX a)/\(x.name.size=0)/\(x.x.length=1)/\(ef x.l):=by
 rw[MayS_iff];unfold el dS;simp[b]
def aB(n d:Nat)(b:Bool):Int:=if 65536<n\/64<d then 2 else if b then 0 else 1
theorem sJ{x:S}(b:x.op=5):MayS x↔(∀a,a∈x.x->MayX a)/\(x.name.size=0)/\(x.x.length=0)/\(∀a,a∈x.l->MayS a):=by
 rw[MayS_iff];unfold el dS;simp[b]
theorem sK{x:S}(b:x.op=6):MayS x↔(∀a,a∈x.x->MayX a)/\(bn x.name)/\(x.x.length=2)/\(∀a,a∈x.l->MayS a):=by
 rw[MayS_iff];unfold el dS;simp[b]
theorem Sl.one{α:Type}{R:α->List Value->Prop}{w:World}{B b g:Nat}{x:α}{a:List Value}(c:g<B)(f:a.length=b)(d:Cells w g 0 a)(h:∀v,v∈a->v.oneCell'=true)(i:R x a):
 Sl R w B b [x] (.slice (some ⟨g,0,none⟩) 1 1):=by
 refine⟨_,1,rfl,ac _,λj e=>?_⟩;obtain rfl:j=0:=by simp at e;omega
 exact⟨g,0,a,rfl,c,f,by simpa using d,h,i⟩
def jD(n d:Nat):Prop:=n<=2000/\d<=100
