import Derived.Test.YtlfmlodanoolhaaGreatDoorE13
import Derived.Test.YtlfmlodanoolhaaGreatDoorE15
set_option linter.all false
set_option maxRecDepth 200000
set_option maxHeartbeats 32000000
namespace Go.Proofs.YtlfmlodanoolhaaGreatDoor
open Go Go.RowKit
attribute [local go_sem] z0f
def SStr(w:World)(l:List ByteArray)(v:Value):Prop:=∃a cap,v=.slice a l.length cap∧l.length≤cap∧∀k (h:k<l.length),∃b o,a=some ⟨b,o,none⟩∧w.cell? ⟨b,o+k,none⟩=some (.string l[k])
theorem SStr.of_row{w:World}{base:Nat}{l:List ByteArray}{v:Value}(h:w.ownsRow base 9 1 v l.length (l.map .string)):SStr w l v:=by
 rcases h.2 with⟨rfl,h0⟩|⟨g,cap,cur,rfl,_,hg,hn,hm,_⟩
 ·exact⟨none,0,by rw[h0],by omega,fun k hk=>by omega⟩
 ·refine⟨some ⟨g,0,none⟩,cap,rfl,hn,fun k hk=>⟨g,0,rfl,?_⟩⟩;rw[h.cellAt (0+k) (by omega),Nat.zero_add,List.getElem?_map,List.getElem?_eq_getElem hk];rfl
end Go.Proofs.YtlfmlodanoolhaaGreatDoor
