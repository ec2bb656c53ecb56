/-
  THE DOCUMENT's ANSWER OF CHAPTER 03: only, all kinds.
-/
import Derived.Test.YtjoglnjpgkobeaaGreatDoorProg
import Derived.Test.YtjoglnjpgkobeaaGreatDoorS13
import Derived.Test.YtjoglnjpgkobeaaGreatDoorS14
import Derived.Test.YtjoglnjpgkobeaaGreatDoorS15
namespace Go.Proofs.YtjoglnjpgkobeaaGreatDoor
open Go Go.RowKit
set_option linter.all false
set_option linter.unusedVariables false
set_option linter.unusedSimpArgs false
set_option linter.unusedVariables false
set_option linter.unusedSimpArgs false
theorem refonly_any (B : Nat) (x : Itm) (w : World) (cs : List Value) (hR : RI w B x cs) (hB : B ≤ w.heap.size) (hz1 : x.name.size < 4294967281) (hz2 : x.of.size < 4294967281) (hlen : sizeI x ≤ 100000000) (ho1 : 1 ≤ x.op) (ho2 : x.op ≤ 10) :
    Calls Tryz.prog 138 #[.agg cs.toArray] w fun e w' => e = .returned (.bool (yes (onlyP x))) ∧ Ext w w' := by
  by_cases h4 : x.op = 4
  · exact refonly_4 B x w cs hR hB hz1 hz2 hlen h4
  by_cases h5 : x.op = 5
  · exact refonly_5 B x w cs hR hB hz1 hz2 hlen h5
  by_cases h6 : x.op = 6
  · exact refonly_6 B x w cs hR hB hz1 hz2 hlen h6
  by_cases h7 : x.op = 7
  · exact refonly_7 B x w cs hR hB hz1 hz2 hlen h7
  by_cases h8 : x.op = 8
  · exact refonly_8 B x w cs hR hB hz1 hz2 hlen h8
  by_cases h9 : x.op = 9
  · exact refonly_9 B x w cs hR hB hz1 hz2 hlen h9
  exact refonly_A B x w cs hR hB hz1 hz2 hlen (by omega)
end Go.Proofs.YtjoglnjpgkobeaaGreatDoor
