/-
  ast.Free's 'left = append(left, z)', within a round of its range over a function.
-/
import Derived.RangeFuncBox
import Derived.Maps.AppendAt
import Derived.WalkSmall
import Derived.Test.YtjoglnjpgkobeaaGreatDoorProg
import Derived.Test.YtjoglnjpgkobeaaGreatDoorS8
import Derived.Test.YtjoglnjpgkobeaaGreatDoorS1
namespace Go.Proofs.YtjoglnjpgkobeaaGreatDoor
open Go Go.RowKit Go.Shelf
set_option linter.all false
set_option linter.unusedVariables false
set_option linter.unusedSimpArgs false
set_option linter.unusedVariables false
set_option linter.unusedSimpArgs false
attribute [local go_sem] Oper.semAt_some
section
variable {ρ : Operand → Value} {w : World} {o : Oper}
theorem r0 {bl : Nat} {v : Value} (ho : o.op = .load 47 (.tmp 4)) (h4 : ρ (.tmp 4) = .pointer (some ⟨bl, 0, none⟩)) (hc : w.cell? ⟨bl, 0, none⟩ = some v) : (execOp ρ o).run Tryz.prog w = .ok (.value v) w := by
  simp [execOp, ho, go_sem, h4, hc]
theorem r1 {b : Nat} {z0 z1 z2 z3 z4 z5 : Value} (ho : o.op = .load 49 (.tmp 7)) (h4 : ρ (.tmp 7) = .pointer (some ⟨b, 0, none⟩)) (c0 : w.cell? ⟨b, 0, none⟩ = some z0) (c1 : w.cell? ⟨b, 1, none⟩ = some z1) (c2 : w.cell? ⟨b, 2, none⟩ = some z2) (c3 : w.cell? ⟨b, 3, none⟩ = some z3) (c4 : w.cell? ⟨b, 4, none⟩ = some z4) (c5 : w.cell? ⟨b, 5, none⟩ = some z5) :
    (execOp ρ o).run Tryz.prog w = .ok (.value (.agg #[z0, z1, z2, z3, z4, z5])) w := by
  simp [execOp, ho, go_sem, h4, c0, c1, c2, c3, c4, c5]
theorem r2 {sa : Option Addr} {k c : Nat} (ho : o.op = .call { callee := .builtin .len, args := #[.tmp 43], argTypes := #[47] }) (h : ρ (.tmp 43) = .slice sa k c) : (execOp ρ o).run Tryz.prog w = .ok (.value (.int .i64 k)) w := by
  simp [execOp, ho, go_sem, h]
theorem r3 (ho : o.op = .buildSlice 47 1 #[(0, .const (.agg #[.int .i64 0, .string ⟨#[]⟩, .int .i64 0, .int .i64 0, .int .u64 0, .slice none 0 0]))]) (hc : ρ (.const (.agg #[.int .i64 0, .string ⟨#[]⟩, .int .i64 0, .int .i64 0, .int .u64 0, .slice none 0 0])) = .agg #[.int .i64 0, .string ⟨#[]⟩, .int .i64 0, .int .i64 0, .int .u64 0, .slice none 0 0]) :
    (execOp ρ o).run Tryz.prog w = .ok (.value (.slice (some ⟨w.heap.size, 0, none⟩) 1 1)) (w.alloc (.cells #[.int .i64 0, .string ⟨#[]⟩, .int .i64 0, .int .i64 0, .int .u64 0, .slice none 0 0] 49)) := by
  simp [execOp, ho, go_sem, hc]
theorem r5 {g k cap : Nat} (ho : o.op = .indexAddr 47 (.tmp 47) (.tmp 45)) (h1 : ρ (.tmp 47) = .slice (some ⟨g, 0, none⟩) (k + 1) cap) (h2 : ρ (.tmp 45) = .int .i64 k) : (execOp ρ o).run Tryz.prog w = .ok (.value (.pointer (some ⟨g, k * 6, none⟩))) w := by
  have h0 : (0 : Int) ≤ k := by omega
  have h3 : (k : Int) < k + 1 := by omega
  simp [execOp, ho, go_sem, h1, h2, h0, h3]
theorem r7 {b : Nat} {v : Value} {sa : Option Addr} {k c : Nat} (ho : o.op = .store 47 (.tmp 4) (.tmp 47)) (h4 : ρ (.tmp 4) = .pointer (some ⟨b, 0, none⟩)) (h47 : ρ (.tmp 47) = .slice sa k c) (hc : w.cell? ⟨b, 0, none⟩ = some v) (hf : w.frozen? ⟨b, 0, none⟩ = false) : (execOp ρ o).run Tryz.prog w = .ok .skip (w.setCell ⟨b, 0, none⟩ (.slice sa k c)) := by
  simp [execOp, ho, go_sem, h4, h47, hc, hf, run_store_one]
theorem r6 {g q : Nat} {z0 z1 z2 z3 z4 z5 y0 y1 y2 y3 y4 y5 : Value} (ho : o.op = .store 49 (.tmp 48) (.tmp 44)) (h4 : ρ (.tmp 48) = .pointer (some ⟨g, q, none⟩)) (h44 : ρ (.tmp 44) = .agg #[z0, z1, z2, z3, z4, z5])
    (p0 : z0.oneCell' = true) (p1 : z1.oneCell' = true) (p2 : z2.oneCell' = true) (p3 : z3.oneCell' = true) (p4 : z4.oneCell' = true) (p5 : z5.oneCell' = true)
    (c0 : w.cell? ⟨g, q, none⟩ = some y0) (c1 : w.cell? ⟨g, q + 1, none⟩ = some y1) (c2 : w.cell? ⟨g, q + 2, none⟩ = some y2) (c3 : w.cell? ⟨g, q + 3, none⟩ = some y3) (c4 : w.cell? ⟨g, q + 4, none⟩ = some y4) (c5 : w.cell? ⟨g, q + 5, none⟩ = some y5)
    (f0 : w.frozen? ⟨g, q, none⟩ = false) (f1 : w.frozen? ⟨g, q + 1, none⟩ = false) (f2 : w.frozen? ⟨g, q + 2, none⟩ = false) (f3 : w.frozen? ⟨g, q + 3, none⟩ = false) (f4 : w.frozen? ⟨g, q + 4, none⟩ = false) (f5 : w.frozen? ⟨g, q + 5, none⟩ = false) :
    (execOp ρ o).run Tryz.prog w = .ok .skip ((((((w.setCell ⟨g, q, none⟩ z0).setCell ⟨g, q + 1, none⟩ z1).setCell ⟨g, q + 2, none⟩ z2).setCell ⟨g, q + 3, none⟩ z3).setCell ⟨g, q + 4, none⟩ z4).setCell ⟨g, q + 5, none⟩ z5) := by
  simp [execOp, ho, go_sem, h4, h44, run_store_one, p0, p1, p2, p3, p4, p5, c0, c1, c2, c3, c4, c5, f0, f1, f2, f3, f4, f5]
end
/-- What pushing keeps: all blocks but the box of the slice and the slice's own row. -/
structure PKeep (bl : Nat) (v : Value) (W w : World) : Prop where
  os : w.os = W.os
  tape : w.tape = W.tape
  output : w.output = W.output
  size : W.heap.size ≤ w.heap.size
  block : ∀ b, b < W.heap.size → b ≠ bl → some b ≠ v.ownBlock → w.heap[b]? = W.heap[b]?
theorem PKeep.set {bl : Nat} {v : Value} {W w : World} (h : PKeep bl v W w) {g : Nat} (hg : v.ownBlock = some g ∨ W.heap.size ≤ g ∨ g = bl) (j : Nat) (u : Value) : PKeep bl v W (w.setCell ⟨g, j, none⟩ u) :=
  ⟨h.os, h.tape, h.output, by simpa using h.size, fun b hb h1 h2 => (Below.heap_setCell w _ u b (fun e => by
    have e : b = g := e
    subst e
    rcases hg with hg | hg | hg
    · exact h2 hg.symm
    · omega
    · exact h1 hg)).trans (h.block b hb h1 h2)⟩
end Go.Proofs.YtjoglnjpgkobeaaGreatDoor

/-
  ast.Free's range over slices.Backward: it pushes all parts of an expression, the last one first.
-/
namespace Go.Proofs.YtjoglnjpgkobeaaGreatDoor
open Go Go.RowKit Go.Shelf
set_option linter.all false
set_option linter.unusedVariables false
set_option linter.unusedSimpArgs false
set_option linter.unusedVariables false
set_option linter.unusedSimpArgs false
attribute [local go_sem] Oper.semAt_some run_store_one
theorem PKeep.refl (bl : Nat) (v : Value) (W : World) : PKeep bl v W W := ⟨rfl, rfl, rfl, Nat.le_refl _, fun _ _ _ _ => rfl⟩
theorem PKeep.trans {bl : Nat} {v v1 : Value} {W W1 W2 : World} (h : PKeep bl v W W1) (k : PKeep bl v1 W1 W2) (hf : ∀ g, v1.ownBlock = some g → v.ownBlock = some g ∨ W.heap.size ≤ g) : PKeep bl v W W2 :=
  ⟨k.os.trans h.os, k.tape.trans h.tape, k.output.trans h.output, Nat.le_trans h.size k.size, fun b hb h1 h2 => (k.block b (Nat.lt_of_lt_of_le hb h.size) h1 (fun e => by
    rcases hf b e.symm with h' | h'
    · exact h2 h'.symm
    · omega)).trans (h.block b hb h1 h2)⟩
theorem PKeep.grown {bl : Nat} {v : Value} {W W1 W2 : World} {row : Option Nat} (h : PKeep bl v W W1) (hg : W1.grownBy W2 row) (hr : ∀ r, row = some r → W.heap.size ≤ r) : PKeep bl v W W2 :=
  ⟨hg.os.trans h.os, hg.tape.trans h.tape, hg.output.trans h.output, Nat.le_trans h.size hg.size, fun b hb h1 h2 => (hg.block b (Nat.lt_of_lt_of_le hb h.size) (fun e => by have := hr b e.symm; omega)).trans (h.block b hb h1 h2)⟩
theorem row_cells {W : World} {base : Nat} {e : TypeId} {size k : Nat} {v : Value} {xs : List Value} (h : W.ownsRow base e size v k xs) : v.ownBlock = none ∨ ∃ g cur, v.ownBlock = some g ∧ W.heap[g]? = some (.cells cur e (0, 0)) := by
  rcases h.2 with ⟨rfl, _⟩ | ⟨g, cap, cur, rfl, _, hgb, _⟩
  · exact .inl rfl
  · exact .inr ⟨g, cur, rfl, hgb⟩
end Go.Proofs.YtjoglnjpgkobeaaGreatDoor
