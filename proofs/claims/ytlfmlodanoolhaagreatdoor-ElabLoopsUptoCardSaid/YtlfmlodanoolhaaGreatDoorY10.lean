import Derived.WalkSpells
import Derived.WalkLawsBesides
import Derived.Deep.RegionWith
import Derived.Test.YtlfmlodanoolhaaGreatDoorY4
set_option linter.all false
set_option maxRecDepth 200000
set_option maxHeartbeats 32000000
namespace Go.Proofs.YtlfmlodanoolhaaGreatDoor
open Go Go.RowKit
attribute [local go_sem] bc
theorem ut{P:Program}{w:World}(j:Array TypeId)(t:TypeId)(a b c d e f:Nat):(Builtin.max_ j t #[.int .i64 a,.int .i64 b,.int .i64 c,.int .i64 d,.int .i64 e,.int .i64 f]).run P w=
 .ok (.int .i64 (max (max (max (max (max a b) c) d) e) f:Nat)) w:=by
 have i:∀x g:Nat,Builtin.max2 (.int .i64 x) (.int .i64 g)=pure (.int .i64 (max x g:Nat)):=λx g=>by
  simp only[Builtin.max2]
  congr 2
  by_cases h:(g:Int)>x
  ·rw[if_pos h];omega
  ·rw[if_neg h];omega
 simp only[Builtin.max_,List.foldlM,Sem.run_bind,i,Sem.run_pure,Result.andThen_ok]
attribute [local go_sem] ut
end Go.Proofs.YtlfmlodanoolhaaGreatDoor
