/-
  A WHOLE NUMBER THAT IS HANDED IN.
-/
import Derived.Test.YtjoglnjpgkobeaaGreatDoorTabPk
namespace Go.Proofs.YtjoglnjpgkobeaaGreatDoor
open Go Go.RowKit Go.ChangeShapes Go.WideShapes
set_option linter.all false
set_option linter.unusedVariables false
set_option linter.unusedSimpArgs false
set_option linter.unusedVariables false
set_option linter.unusedSimpArgs false
set_option maxRecDepth 100000 in
theorem open_int {H : Type} {enc : TypeId × Value → H} {W : World} {base : Nat} {ts : Array TypeId} {args : Array Value} {v : Value} {d : DataW H} {p : List MemPlace} {sp : Nat → Bool} {held : Bool}
    (hval : ∀ (j : Nat) t v, ts[j]? = some t → args[j]? = some v → Value.okWide Tryz.prog W .any base t v) (j : Nat) (hp : ts[j]? = some 3) (ha : args[j]? = some v)
    (h : DataW.Trod enc Tryz.prog W 0 sp held 3 v d p) : ∃ n : Int, v = .int .i64 n ∧ d = .lit (.int .i64 n) := by
  have hv := hval j _ v hp ha
  obtain ⟨fuel, hf⟩ := h
  obtain ⟨n, hc, hx, -⟩ := DataW.trod_int Tryz.underlying3 hf
  refine ⟨n, ?_, (Prod.mk.inj hx).1⟩
  cases v <;> simp_all [Value.cells, Value.okWide, Cell.okWide, Cell.ok]
end Go.Proofs.YtjoglnjpgkobeaaGreatDoor
