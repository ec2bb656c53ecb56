/-
  CONSTANTS THAT ARE HANDED IN.
-/
import Derived.Test.YtonbgnaopkopoaaDoorTabPk
import Derived.Test.YtonbgnaopkopoaaDoorShutIPk
import Derived.Test.YtonbgnaopkopoaaDoorKevPk
namespace Go.Proofs.YtonbgnaopkopoaaDoor
open Go Go.RowKit Go.ChangeShapes Go.WideShapes
set_option linter.all false
set_option linter.unusedVariables false
set_option linter.unusedSimpArgs false
set_option linter.unusedVariables false
set_option linter.unusedSimpArgs false
theorem cTnamed : Tryd.prog.cellsOf 57 = 2 := by kernel_rfl
theorem oneN (p : ByteArray × Int) (cs : List Value) (h : RNm p cs) : ∀ v, v ∈ cs → v.oneCell' = true := by
  unfold RNm at h
  subst h
  intro u hu
  simp only [List.mem_cons, List.not_mem_nil, or_false] at hu
  rcases hu with rfl | rfl <;> rfl
theorem readN {H : Type} {enc : TypeId × Value → H} {w : World} {spare : Nat → Bool} {held : Bool} (fuel : Nat) (cs : List Value) (d : DataW H) (ps : List MemPlace) (h : DataW.trod enc Tryd.prog w 0 spare held fuel 57 cs = some (d, ps)) :
    ∃ p : ByteArray × Int, RNm p cs ∧ True ∧ (fun _ => 1) p ≤ Rows.uptoBulk d := by
  obtain ⟨xs, n, -, hx, hl, hlen, hf⟩ := DataW.trod_struct Tryd.underlying57 h
  obtain ⟨c0, c1, rfl⟩ := list2 (hl.trans cTnamed)
  obtain ⟨y0, y1, rfl⟩ := list2 hlen
  have g0 := hf 0 _ rfl
  have g1 := hf 1 _ rfl
  clear hf
  simp [cTint, cTstr] at g0 g1
  obtain ⟨nm, rfl, b0⟩ := read_str g0
  obtain ⟨z, rfl, b1⟩ := read_int g1
  exact ⟨(nm, z), rfl, trivial, bulk_one d⟩
theorem msize_one {α : Type} (l : List α) : msize (fun _ => 1) l = l.length := by induction l with | nil => rfl | cons a r ih => simp [msize, ih]; omega
set_option maxRecDepth 100000 in
theorem open_env {H : Type} {enc : TypeId × Value → H} {W : World} {base : Nat} {ts : Array TypeId} {args : Array Value} {v : Value} {d : DataW H} {p : List MemPlace} {sp : Nat → Bool} {held : Bool}
    (hval : ∀ (j : Nat) t v, ts[j]? = some t → args[j]? = some v → Value.okWide Tryd.prog W .any base t v) (j : Nat) (hp : ts[j]? = some 26) (ha : args[j]? = some v)
    (h : DataW.Trod enc Tryd.prog W 0 sp held 26 v d p) (hb : Rows.uptoBulk d ≤ 1048576) : ∃ env : List (ByteArray × Int), Sl RNm W W.heap.size 2 env v ∧ env.length ≤ 1048576 := by
  have hv := hval j _ v hp ha
  obtain ⟨fuel, hf⟩ := h
  obtain ⟨l, ve, hc, hs, -, hz⟩ := read_list (V := fun _ => True) Tryd.underlying26 cTnamed (by omega) oneN hf (fun fuel' cs' d' ps' _ htr => readN fuel' cs' d' ps' htr)
  rw [msize_one] at hz
  refine ⟨l, ?_, by omega⟩
  obtain rfl : v = ve := by
    cases v <;> simp_all [Value.cells, Value.okWide, Cell.okWide, Cell.ok]
  exact hs
end Go.Proofs.YtonbgnaopkopoaaDoor
