import Derived.Test.YtlfmlodanoolhaaGreatDoorV13
import Derived.Test.YtlfmlodanoolhaaGreatDoorV12
set_option linter.all false
set_option maxRecDepth 200000
set_option maxHeartbeats 0
namespace Go.Proofs.YtlfmlodanoolhaaGreatDoor
open Go Go.RowKit
attribute [local go_sem] bc
def SStr(w:World)(l:List ByteArray)(v:Value):Prop:=∃b d,v=.slice b l.length d/\l.length<=d/\∀a (e:a<l.length),∃c o,b=some ⟨c,o,none⟩/\w.cell? ⟨c,o+a,none⟩=some (.string l[a])
theorem SStr.of_row{w:World}{base:Nat}{l:List ByteArray}{v:Value}(h:w.ownsRow base 9 1 v l.length (l.map .string)):SStr w l v:=by
 rcases h.2 with⟨rfl,e⟩|⟨a,d,g,rfl,_,i,f,j,_⟩
 ·exact⟨none,0,by rw[e],zO,λc b=>by omega⟩
 ·refine⟨some ⟨a,0,none⟩,d,rfl,f,λc b=>⟨a,0,rfl,?_⟩⟩;rw[h.cellAt (0+c) zO,Nat.zero_add,List.getElem?_map,List.getElem?_eq_getElem b];rfl
