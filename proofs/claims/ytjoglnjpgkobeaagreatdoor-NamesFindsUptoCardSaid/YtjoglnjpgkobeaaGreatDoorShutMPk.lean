/-
  A MODULE THAT IS HANDED IN.
-/
import Derived.Test.YtjoglnjpgkobeaaGreatDoorTabPk
namespace Go.Proofs.YtjoglnjpgkobeaaGreatDoor
open Go Go.RowKit Go.ChangeShapes Go.WideShapes
set_option linter.all false
set_option linter.unusedVariables false
set_option linter.unusedSimpArgs false
set_option linter.unusedVariables false
set_option linter.unusedSimpArgs false
def zM : Value := .agg #[.string ⟨#[]⟩, .slice none 0 0, .slice none 0 0, .slice none 0 0]
def zMD {H : Type} : DataW H := .agg [.lit (.string []), .nil, .nil, .nil]
set_option maxRecDepth 100000 in
theorem open_M {H : Type} {enc : TypeId × Value → H} {W : World} {base : Nat} {ts : Array TypeId} {args : Array Value} {v : Value} {d : DataW H} {p : List MemPlace} {sp : Nat → Bool} {held : Bool}
    (hval : ∀ (j : Nat) t v, ts[j]? = some t → args[j]? = some v → Value.okWide Tryz.prog W .any base t v) (j : Nat) (hp : ts[j]? = some 33) (ha : args[j]? = some v)
    (h : DataW.Trod enc Tryz.prog W 0 sp held 33 v d p) (hb : Rows.uptoBulk d ≤ 1048576) :
    ∃ (x : Mdl) (cs : List Value), v = .agg cs.toArray ∧ RM W W.heap.size x cs ∧ VM x ∧ sizeM x ≤ 1048576 := by
  obtain ⟨cs, fuel, rfl, hf⟩ := open_arg hval j hp ha Tryz.underlying33 h
  obtain ⟨x, hs, hV, hz⟩ := readM fuel _ d p hb hf
  exact ⟨x, cs.toList, by simp, hs, hV, by omega⟩
end Go.Proofs.YtjoglnjpgkobeaaGreatDoor
