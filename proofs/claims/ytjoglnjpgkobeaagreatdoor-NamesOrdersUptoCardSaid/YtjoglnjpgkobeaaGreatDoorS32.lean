import Derived.Test.YtjoglnjpgkobeaaGreatDoorS3
import Derived.Test.YtjoglnjpgkobeaaGreatDoorS11
import Derived.Test.YtjoglnjpgkobeaaGreatDoorS12
import Derived.Test.YtjoglnjpgkobeaaGreatDoorS24
set_option linter.all false
set_option linter.unusedVariables false
set_option linter.unusedSimpArgs false
namespace Go.Proofs.YtjoglnjpgkobeaaGreatDoor
open Go Go.RowKit
def tA : ByteArray := ⟨#[97]⟩
def tB : ByteArray := ⟨#[98]⟩
def tE : ByteArray := ⟨#[]⟩
theorem nameP_A : nameP tA := ⟨by decide, by decide, by decide, by decide⟩
theorem nameP_B : nameP tB := ⟨by decide, by decide, by decide, by decide⟩
theorem all_two {α : Type} {P : α → Prop} {a b : α} (h1 : P a) (h2 : P b) : ∀ y, y ∈ [a, b] → P y := fun y hy => by
 rcases List.mem_cons.1 hy with rfl | hy
 · exact h1
 · rcases List.mem_cons.1 hy with rfl | hy
   · exact h2
   · cases hy
theorem all_one {α : Type} {P : α → Prop} {a : α} (h1 : P a) : ∀ y, y ∈ [a] → P y := fun y hy => by
 rcases List.mem_cons.1 hy with rfl | hy
 · exact h1
 · cases hy
end Go.Proofs.YtjoglnjpgkobeaaGreatDoor
