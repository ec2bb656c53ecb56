import Derived.Test.YtlfmlodanoolhaaGreatDoorY13
import Derived.Test.YtlfmlodanoolhaaGreatDoorY15
set_option linter.all false
set_option maxRecDepth 200000
set_option maxHeartbeats 32000000
namespace Go.Proofs.YtlfmlodanoolhaaGreatDoor
open Go Go.RowKit
attribute [local go_sem] bc
def SStr(w:World)(l:List ByteArray)(v:Value):Prop:=∃b d,v=.slice b l.length d/\l.length<=d/\∀a (e:a<l.length),∃c o,b=some ⟨c,o,none⟩/\w.cell? ⟨c,o+a,none⟩=some (.string l[a])
theorem SStr.of_row{w:World}{d:Nat}{l:List ByteArray}{v:Value}(h:w.ownsRow d 9 1 v l.length (l.map .string)):SStr w l v:=by
 rcases h.2 with⟨rfl,f⟩|⟨a,e,i,rfl,_,j,g,k,_⟩
 ·exact⟨none,0,by rw[f],zO,λc b=>by omega⟩
 ·refine⟨some ⟨a,0,none⟩,e,rfl,g,λc b=>⟨a,0,rfl,?_⟩⟩;rw[h.cellAt (0+c) zO,Nat.zero_add,List.getElem?_map,List.getElem?_eq_getElem b];rfl
end Go.Proofs.YtlfmlodanoolhaaGreatDoor
