/-
  ITEMS, A MODULE, THAT ARE HANDED IN.
-/
import Derived.Test.YtjoglnjpgkobeaaDoorTabPk
namespace Go.Proofs.YtjoglnjpgkobeaaDoor
open Go Go.RowKit Go.ChangeShapes Go.WideShapes
set_option linter.all false
set_option linter.unusedVariables false
set_option linter.unusedSimpArgs false
set_option linter.unusedVariables false
set_option linter.unusedSimpArgs false
set_option maxRecDepth 100000 in
theorem open_items {H : Type} {enc : TypeId × Value → H} {W : World} {base : Nat} {ts : Array TypeId} {args : Array Value} {v : Value} {d : DataW H} {p : List MemPlace} {sp : Nat → Bool} {held : Bool}
    (hval : ∀ (j : Nat) t v, ts[j]? = some t → args[j]? = some v → Value.okWide Tryd.prog W .any base t v) (j : Nat) (hp : ts[j]? = some 34) (ha : args[j]? = some v)
    (h : DataW.Trod enc Tryd.prog W 0 sp held 34 v d p) (hb : Rows.uptoBulk d ≤ 1048576) : ∃ l : List Itm, Sl (RI W W.heap.size) W W.heap.size 9 l v ∧ (∀ y, y ∈ l → VI y) ∧ msize sizeI l ≤ 1048576 := by
  have hv := hval j _ v hp ha
  obtain ⟨fuel, hf⟩ := h
  obtain ⟨l, ve, hc, hs, hV, hz⟩ := read_list (V := VI) (sz := sizeI) Tryd.underlying34 cTI (by omega) oneI hf (fun fuel' cs' d' ps' hlt htr => readI _ fuel' cs' d' ps' (Nat.le_refl _) (by omega) htr)
  refine ⟨l, ?_, hV, by omega⟩
  obtain rfl : v = ve := by
    cases v <;> simp_all [Value.cells, Value.okWide, Cell.okWide, Cell.ok]
  exact hs
end Go.Proofs.YtjoglnjpgkobeaaDoor
