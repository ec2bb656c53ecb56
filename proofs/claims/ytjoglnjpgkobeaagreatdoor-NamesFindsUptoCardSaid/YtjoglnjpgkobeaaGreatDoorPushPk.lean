/-
  ast.Free's 'left = append(left, z)', within a round of its range over a function.
-/
import Derived.RangeFuncBox
import Derived.Maps.AppendAt
import Derived.WalkSmall
import Derived.Test.YtjoglnjpgkobeaaGreatDoorBackPk
import Derived.Test.YtjoglnjpgkobeaaGreatDoorTreePk
namespace Go.Proofs.YtjoglnjpgkobeaaGreatDoor
open Go Go.RowKit Go.Shelf
set_option linter.all false
set_option linter.unusedVariables false
set_option linter.unusedSimpArgs false
set_option linter.unusedVariables false
set_option linter.unusedSimpArgs false
attribute [local go_sem] Oper.semAt_some

/-- A part of a body, by the way to it. -/
noncomputable def part : List Nat → Code → Code
  | 0 :: p, .seq a _ => part p a
  | _ :: p, .seq _ b => part p b
  | 0 :: p, .cond _ a _ => part p a
  | _ :: p, .cond _ _ b => part p b
  | _ :: p, .block _ a => part p a
  | _ :: p, .loop a => part p a
  | 0 :: p, .rangeFunc _ _ a _ => part p a
  | _ :: p, .rangeFunc _ _ _ b => part p b
  | _, c => c
/-- One operation, unguarded, that yields a value. -/
theorem opIn_val {F : Fence} {n : Nat} {P : Program} {ops : Array Oper} {Q : Exit → Act → World → Prop} {i : Nat} {K : Act → World → Prop} {a : Act} {w w' : World} {o : Oper} {v : Value}
    (hi : ops[i]? = some o) (hg : o.guard = none) (hF : ∀ f, F.fn f) (hnd : ∀ c, o.op ≠ .defer c) (hr : (execOp a.eval o).run P w = .ok (.value v) w') (hK : K (a.put o.dst v) w') : wpOpIn F n P ops Q i K a w := by
  unfold wpOpIn
  simp only [hi]
  rw [if_pos (by simp [Region.wanted, hg])]
  unfold Oper.wpIn
  refine ⟨fun f _ => hF f, ?_⟩
  rw [Oper.semAt_plain F _ _ hnd, hr]
  exact hK

theorem opIn_skip {F : Fence} {n : Nat} {P : Program} {ops : Array Oper} {Q : Exit → Act → World → Prop} {i : Nat} {K : Act → World → Prop} {a : Act} {w w' : World} {o : Oper}
    (hi : ops[i]? = some o) (hg : o.guard = none) (hF : ∀ f, F.fn f) (hnd : ∀ c, o.op ≠ .defer c) (hr : (execOp a.eval o).run P w = .ok .skip w') (hK : K (a.put o.dst undef) w') : wpOpIn F n P ops Q i K a w := by
  unfold wpOpIn
  simp only [hi]
  rw [if_pos (by simp [Region.wanted, hg])]
  unfold Oper.wpIn
  refine ⟨fun f _ => hF f, ?_⟩
  rw [Oper.semAt_plain F _ _ hnd, hr]
  exact hK

section
variable {ρ : Operand → Value} {w : World} {o : Oper}
theorem r0 {bl : Nat} {v : Value} (ho : o.op = .load 47 (.tmp 4)) (h4 : ρ (.tmp 4) = .pointer (some ⟨bl, 0, none⟩)) (hc : w.cell? ⟨bl, 0, none⟩ = some v) : (execOp ρ o).run Tryz.prog w = .ok (.value v) w := by
  simp [execOp, ho, go_sem, h4, hc]
theorem r1 {b : Nat} {z0 z1 z2 z3 z4 z5 : Value} (ho : o.op = .load 49 (.tmp 7)) (h4 : ρ (.tmp 7) = .pointer (some ⟨b, 0, none⟩)) (c0 : w.cell? ⟨b, 0, none⟩ = some z0) (c1 : w.cell? ⟨b, 1, none⟩ = some z1) (c2 : w.cell? ⟨b, 2, none⟩ = some z2) (c3 : w.cell? ⟨b, 3, none⟩ = some z3) (c4 : w.cell? ⟨b, 4, none⟩ = some z4) (c5 : w.cell? ⟨b, 5, none⟩ = some z5) :
    (execOp ρ o).run Tryz.prog w = .ok (.value (.agg #[z0, z1, z2, z3, z4, z5])) w := by
  simp [execOp, ho, go_sem, h4, c0, c1, c2, c3, c4, c5]
theorem r2 {sa : Option Addr} {k c : Nat} (ho : o.op = .call { callee := .builtin .len, args := #[.tmp 43], argTypes := #[47] }) (h : ρ (.tmp 43) = .slice sa k c) : (execOp ρ o).run Tryz.prog w = .ok (.value (.int .i64 k)) w := by
  simp [execOp, ho, go_sem, h]
theorem r3 (ho : o.op = .buildSlice 47 1 #[(0, .const (.agg #[.int .i64 0, .string ⟨#[]⟩, .int .i64 0, .int .i64 0, .int .u64 0, .slice none 0 0]))]) (hc : ρ (.const (.agg #[.int .i64 0, .string ⟨#[]⟩, .int .i64 0, .int .i64 0, .int .u64 0, .slice none 0 0])) = .agg #[.int .i64 0, .string ⟨#[]⟩, .int .i64 0, .int .i64 0, .int .u64 0, .slice none 0 0]) :
    (execOp ρ o).run Tryz.prog w = .ok (.value (.slice (some ⟨w.heap.size, 0, none⟩) 1 1)) (w.alloc (.cells #[.int .i64 0, .string ⟨#[]⟩, .int .i64 0, .int .i64 0, .int .u64 0, .slice none 0 0] 49)) := by
  simp [execOp, ho, go_sem, hc]
theorem r5 {g k cap : Nat} (ho : o.op = .indexAddr 47 (.tmp 47) (.tmp 45)) (h1 : ρ (.tmp 47) = .slice (some ⟨g, 0, none⟩) (k + 1) cap) (h2 : ρ (.tmp 45) = .int .i64 k) : (execOp ρ o).run Tryz.prog w = .ok (.value (.pointer (some ⟨g, k * 6, none⟩))) w := by
  have h0 : (0 : Int) ≤ k := by omega
  have h3 : (k : Int) < k + 1 := by omega
  simp [execOp, ho, go_sem, h1, h2, h0, h3]
theorem r7 {b : Nat} {v : Value} {sa : Option Addr} {k c : Nat} (ho : o.op = .store 47 (.tmp 4) (.tmp 47)) (h4 : ρ (.tmp 4) = .pointer (some ⟨b, 0, none⟩)) (h47 : ρ (.tmp 47) = .slice sa k c) (hc : w.cell? ⟨b, 0, none⟩ = some v) (hf : w.frozen? ⟨b, 0, none⟩ = false) : (execOp ρ o).run Tryz.prog w = .ok .skip (w.setCell ⟨b, 0, none⟩ (.slice sa k c)) := by
  simp [execOp, ho, go_sem, h4, h47, hc, hf, run_store_one]
theorem r6 {g q : Nat} {z0 z1 z2 z3 z4 z5 y0 y1 y2 y3 y4 y5 : Value} (ho : o.op = .store 49 (.tmp 48) (.tmp 44)) (h4 : ρ (.tmp 48) = .pointer (some ⟨g, q, none⟩)) (h44 : ρ (.tmp 44) = .agg #[z0, z1, z2, z3, z4, z5])
    (p0 : z0.oneCell' = true) (p1 : z1.oneCell' = true) (p2 : z2.oneCell' = true) (p3 : z3.oneCell' = true) (p4 : z4.oneCell' = true) (p5 : z5.oneCell' = true)
    (c0 : w.cell? ⟨g, q, none⟩ = some y0) (c1 : w.cell? ⟨g, q + 1, none⟩ = some y1) (c2 : w.cell? ⟨g, q + 2, none⟩ = some y2) (c3 : w.cell? ⟨g, q + 3, none⟩ = some y3) (c4 : w.cell? ⟨g, q + 4, none⟩ = some y4) (c5 : w.cell? ⟨g, q + 5, none⟩ = some y5)
    (f0 : w.frozen? ⟨g, q, none⟩ = false) (f1 : w.frozen? ⟨g, q + 1, none⟩ = false) (f2 : w.frozen? ⟨g, q + 2, none⟩ = false) (f3 : w.frozen? ⟨g, q + 3, none⟩ = false) (f4 : w.frozen? ⟨g, q + 4, none⟩ = false) (f5 : w.frozen? ⟨g, q + 5, none⟩ = false) :
    (execOp ρ o).run Tryz.prog w = .ok .skip ((((((w.setCell ⟨g, q, none⟩ z0).setCell ⟨g, q + 1, none⟩ z1).setCell ⟨g, q + 2, none⟩ z2).setCell ⟨g, q + 3, none⟩ z3).setCell ⟨g, q + 4, none⟩ z4).setCell ⟨g, q + 5, none⟩ z5) := by
  simp [execOp, ho, go_sem, h4, h44, run_store_one, p0, p1, p2, p3, p4, p5, c0, c1, c2, c3, c4, c5, f0, f1, f2, f3, f4, f5]
end

/-- Behind an append the new slice's row is the old one's, or a new block. -/
theorem append_fresh {P : Program} {w : World} {t ty e : TypeId} {i : TypeInfo} {z : Value} {bytes base k : Nat} {xs : List Value} {v : Value} (ht : P.underlying t = some (.slice e)) (hi : P.info? e = some i) (hz : i.zero = some z) (hby : i.bytes = bytes)
    (hown : w.ownsRow base e i.size v k xs) {a : Addr} {c : Nat} {news : List Value} (hl : news.length = 1 * i.size) (hnews : ∀ j u, news[j]? = some u → w.cell? (a.add j) = some u) (h1 : ∀ u ∈ news, u.oneCell' = true)
    (hk : k ≤ 1000000000) (hb : bytes ≤ 1000) {v' : Value} {w' : World} (hr : (Builtin.append_ #[t, t] ty #[v, .slice (some a) 1 c]).run P w = .ok v' w') : ∀ g, v'.ownBlock = some g → v.ownBlock = some g ∨ w.heap.size ≤ g := by
  have hbytes : (k + 1) * i.bytes ≤ 140737488355328 := by
    rw [hby]
    calc (k + 1) * bytes ≤ 1000000001 * 1000 := Nat.mul_le_mul (by omega) hb
      _ ≤ 140737488355328 := by decide
  rcases hown.2 with ⟨rfl, rfl⟩ | ⟨g, cap, cur, rfl, hbg, hg, hnc, hcm, hcs, htake⟩
  · have h := run_append_nil (P := P) w t ty e i z ht hi hz a 1 c news hl hnews (by omega) (by omega) (by omega)
    rw [h] at hr
    cases hr
    intro g hg
    right
    simp [Value.ownBlock] at hg
    omega
  · by_cases hroom : k + 1 ≤ cap
    · have hfit : k * i.size + news.length ≤ cur.size := by rw [hl, hcs, ← Nat.add_mul]; exact Nat.mul_le_mul_right _ hroom
      have h := run_append_room (P := P) w t ty e i ht hi g k cap cur hg a 1 c news hl hnews h1 hroom hfit
      rw [h] at hr
      cases hr
      intro g' hg'
      left
      simpa [Value.ownBlock] using hg'
    · have holds : ∀ j u, xs[j]? = some u → w.cell? ((⟨g, 0, none⟩ : Addr).add j) = some u := hown.cells (g := g) rfl
      have h := run_append_grow (P := P) w t ty e i z ht hi hz ⟨g, 0, none⟩ k cap xs hown.1 holds a 1 c news hl hnews (by omega) (by omega) (growslice_fits (by omega) hbytes)
      rw [h] at hr
      cases hr
      intro g' hg'
      right
      simp [Value.ownBlock] at hg'
      omega

theorem set6 (xs : List Value) (o0 o1 o2 o3 o4 o5 z0 z1 z2 z3 z4 z5 : Value) : ((((((xs ++ [o0, o1, o2, o3, o4, o5]).set xs.length z0).set (xs.length + 1) z1).set (xs.length + 2) z2).set (xs.length + 3) z3).set (xs.length + 4) z4).set (xs.length + 5) z5 = xs ++ [z0, z1, z2, z3, z4, z5] := by
  induction xs with
  | nil => rfl
  | cons x r ih =>
    simp only [List.cons_append, List.length_cons]
    rw [List.set_cons_succ, show r.length + 1 + 1 = (r.length + 1) + 1 from rfl, List.set_cons_succ, show r.length + 1 + 2 = (r.length + 2) + 1 by omega, List.set_cons_succ, show r.length + 1 + 3 = (r.length + 3) + 1 by omega, List.set_cons_succ,
      show r.length + 1 + 4 = (r.length + 4) + 1 by omega, List.set_cons_succ, show r.length + 1 + 5 = (r.length + 5) + 1 by omega, List.set_cons_succ, ih]

/-- What pushing keeps: all blocks but the box of the slice and the slice's own row. -/
structure PKeep (bl : Nat) (v : Value) (W w : World) : Prop where
  os : w.os = W.os
  tape : w.tape = W.tape
  output : w.output = W.output
  size : W.heap.size ≤ w.heap.size
  block : ∀ b, b < W.heap.size → b ≠ bl → some b ≠ v.ownBlock → w.heap[b]? = W.heap[b]?
theorem PKeep.set {bl : Nat} {v : Value} {W w : World} (h : PKeep bl v W w) {g : Nat} (hg : v.ownBlock = some g ∨ W.heap.size ≤ g ∨ g = bl) (j : Nat) (u : Value) : PKeep bl v W (w.setCell ⟨g, j, none⟩ u) :=
  ⟨h.os, h.tape, h.output, by simpa using h.size, fun b hb h1 h2 => (Below.heap_setCell w _ u b (fun e => by
    have e : b = g := e
    subst e
    rcases hg with hg | hg | hg
    · exact h2 hg.symm
    · omega
    · exact h1 hg)).trans (h.block b hb h1 h2)⟩

/-- The slots, while the first four operations are under way. -/
structure PG (W : World) (bl bz : Nat) (sa : Option Addr) (k c : Nat) (zv : Value) (b0 b1 b2 b3 : Bool) (a : Act) (w : World) : Prop where
  size : a.tmps.size = 50
  t4 : a.tmps.getD 4 undef = .pointer (some ⟨bl, 0, none⟩)
  t7 : a.tmps.getD 7 undef = .pointer (some ⟨bz, 0, none⟩)
  t43 : b0 = true → a.tmps.getD 43 undef = .slice sa k c
  t44 : b1 = true → a.tmps.getD 44 undef = zv
  t45 : b2 = true → a.tmps.getD 45 undef = .int .i64 k
  t46 : b3 = true → a.tmps.getD 46 undef = .slice (some ⟨W.heap.size, 0, none⟩) 1 1
  w_eq : w = if b3 then W.alloc (.cells #[.int .i64 0, .string ⟨#[]⟩, .int .i64 0, .int .i64 0, .int .u64 0, .slice none 0 0] 49) else W
/-- The slots behind the append. -/
structure PH (bl : Nat) (g k cap : Nat) (zv : Value) (b5 : Bool) (a : Act) : Prop where
  size : a.tmps.size = 50
  t4 : a.tmps.getD 4 undef = .pointer (some ⟨bl, 0, none⟩)
  t44 : a.tmps.getD 44 undef = zv
  t45 : a.tmps.getD 45 undef = .int .i64 k
  t47 : a.tmps.getD 47 undef = .slice (some ⟨g, 0, none⟩) (k + 1) cap
  t48 : b5 = true → a.tmps.getD 48 undef = .pointer (some ⟨g, k * 6, none⟩)
theorem put_get {a : Act} {d t : Tmp} {v : Value} (hs : a.tmps.size = 50) (hd : d < 50) : (a.put (some d) v).tmps.getD t undef = if t = d then v else a.tmps.getD t undef := by
  simp only [Act.put, Array.getD_eq_getD_getElem?, Array.getElem?_setIfInBounds]
  by_cases h : d = t
  · subst h
    simp [hs, hd]
  · simp [h, Ne.symm h]
theorem put_size {a : Act} {d : Tmp} {v : Value} : (a.put (some d) v).tmps.size = a.tmps.size := by simp [Act.put]

def rd1 (b0 b1 b2 b3 : Bool) : List Nat := (if b0 then [] else [0]) ++ (if b1 then [] else [1]) ++ (if b0 && !b2 then [2] else []) ++ (if b3 then [] else [3]) ++ (if b0 && b1 && b2 && b3 then [4] else [])
def rd2 (b5 b6 b7 : Bool) : List Nat := (if b5 then [] else [5]) ++ (if b5 && !b6 then [6] else []) ++ (if b7 then [] else [7])

set_option maxRecDepth 20000 in
theorem push_tail {F : Fence} (hF : ∀ f, F.fn f) {n : Nat} {ops : Array Oper} {Q : Exit → Act → World → Prop} {o5 o6 o7 : Oper}
    (i5 : ops[5]? = some o5) (i6 : ops[6]? = some o6) (i7 : ops[7]? = some o7) (g5 : o5.guard = none) (g6 : o6.guard = none) (g7 : o7.guard = none) (d5 : o5.dst = some 48) (d6 : o6.dst = none) (d7 : o7.dst = none)
    (q5 : o5.op = .indexAddr 47 (.tmp 47) (.tmp 45)) (q6 : o6.op = .store 49 (.tmp 48) (.tmp 44)) (q7 : o7.op = .store 47 (.tmp 4) (.tmp 47))
    (hready : ∀ b5 b6 b7, Region.ready .any ops #[true, true, true, true, true, b5, b6, b7] = rd2 b5 b6 b7)
    (W : World) (bl n0 k : Nat) (v : Value) (xs : List Value) (z0 z1 z2 z3 z4 z5 : Value) (p0 : z0.oneCell' = true) (p1 : z1.oneCell' = true) (p2 : z2.oneCell' = true) (p3 : z3.oneCell' = true) (p4 : z4.oneCell' = true) (p5 : z5.oneCell' = true)
    (hxs : xs.length = k * 6) (g cap : Nat) (hg : v.ownBlock = some g ∨ W.heap.size ≤ g ∨ g = bl)
    (hQ : ∀ a' W', Boxed W' bl 47 (.slice (some ⟨g, 0, none⟩) (k + 1) cap) → W'.ownsRow n0 49 6 (.slice (some ⟨g, 0, none⟩) (k + 1) cap) (k + 1) (xs ++ [z0, z1, z2, z3, z4, z5]) → PKeep bl v W W' → Q .normal a' W') :
    ∀ (m : Nat) (b5 b6 b7 : Bool), (if b5 then 0 else 1) + (if b6 then 0 else 1) + (if b7 then 0 else 1) = m → (b6 = true → b5 = true) → ∀ (y0 y1 y2 y3 y4 y5 : Value) (vb : Value) (a : Act) (w : World), PH bl g k cap (.agg #[z0, z1, z2, z3, z4, z5]) b5 a →
      Boxed w bl 47 vb → (b7 = true → vb = .slice (some ⟨g, 0, none⟩) (k + 1) cap) → w.ownsRow n0 49 6 (.slice (some ⟨g, 0, none⟩) (k + 1) cap) (k + 1) (xs ++ [y0, y1, y2, y3, y4, y5]) → (b6 = true → [y0, y1, y2, y3, y4, y5] = [z0, z1, z2, z3, z4, z5]) → PKeep bl v W w →
      wpAnyIn F n Tryz.prog .any ops Q m #[true, true, true, true, true, b5, b6, b7] a w := by
  intro m
  induction m with
  | zero =>
    intro b5 b6 b7 hm h65 y0 y1 y2 y3 y4 y5 vb a w ha hb hv hr hy hk
    cases b5 <;> cases b6 <;> cases b7 <;> simp at hm
    rw [hv rfl] at hb
    rw [hy rfl] at hr
    exact ⟨by rw [hready]; rfl, hQ a w hb hr hk⟩
  | succ m ih =>
    intro b5 b6 b7 hm h65 y0 y1 y2 y3 y4 y5 vb a w ha hb hv hr hy hk
    refine ⟨fun h => ?_, fun i hi => ?_⟩
    · rw [hready] at h
      cases b5 <;> cases b6 <;> cases b7 <;> simp [rd2] at h hm
    · rw [hready] at hi
      have hcase : (i = 5 ∧ b5 = false) ∨ (i = 6 ∧ b5 = true ∧ b6 = false) ∨ (i = 7 ∧ b7 = false) := by
        cases b5 <;> cases b6 <;> cases b7 <;> simp [rd2] at hi ⊢ <;> omega
      rcases hcase with ⟨rfl, rfl⟩ | ⟨rfl, rfl, rfl⟩ | ⟨rfl, rfl⟩
      · refine opIn_val i5 g5 hF (by rw [q5]; intro c h; cases h) (r5 q5 ha.t47 ha.t45) ?_
        rw [d5]
        refine ih true b6 b7 (by simp at hm ⊢; omega) (fun _ => rfl) y0 y1 y2 y3 y4 y5 vb _ w ⟨by rw [put_size]; exact ha.size, ?_, ?_, ?_, ?_, ?_⟩ hb hv hr hy hk
        · rw [put_get ha.size (by decide), if_neg (by decide)]; exact ha.t4
        · rw [put_get ha.size (by decide), if_neg (by decide)]; exact ha.t44
        · rw [put_get ha.size (by decide), if_neg (by decide)]; exact ha.t45
        · rw [put_get ha.size (by decide), if_neg (by decide)]; exact ha.t47
        · intro _; rw [put_get ha.size (by decide), if_pos rfl]
      · have hc := fun j (hj : j < (k + 1) * 6) => hr.cellAt j hj
        have hf := fun j => hr.frozenAt j
        have hcc : ∀ j u, j < 6 → [y0, y1, y2, y3, y4, y5][j]? = some u → w.cell? ⟨g, k * 6 + j, none⟩ = some u := fun j u hj hu => by
          rw [hc _ (by omega), ← hxs, List.getElem?_append_right (by omega), Nat.add_sub_cancel_left]
          exact hu
        refine opIn_skip i6 g6 hF (by rw [q6]; intro c h; cases h) (r6 q6 (ha.t48 rfl) ha.t44 p0 p1 p2 p3 p4 p5 (hcc 0 y0 (by decide) rfl) (hcc 1 y1 (by decide) rfl) (hcc 2 y2 (by decide) rfl) (hcc 3 y3 (by decide) rfl) (hcc 4 y4 (by decide) rfl) (hcc 5 y5 (by decide) rfl)
          (hf _) (hf _) (hf _) (hf _) (hf _) (hf _)) ?_
        rw [d6]
        have s0 := hr.stored (k * 6) z0
        have s1 := s0.1.stored (k * 6 + 1) z1
        have s2 := s1.1.stored (k * 6 + 2) z2
        have s3 := s2.1.stored (k * 6 + 3) z3
        have s4 := s3.1.stored (k * 6 + 4) z4
        have s5 := s4.1.stored (k * 6 + 5) z5
        have hne : some bl ≠ some g := hb.not_row (by decide) hr
        have hb' := (((((hb.kept s0.2 hne).kept s1.2 hne).kept s2.2 hne).kept s3.2 hne).kept s4.2 hne).kept s5.2 hne
        have h6 := s5.1
        rw [← hxs, set6] at h6
        rw [hxs] at h6
        exact ih true true b7 (by simp at hm ⊢; omega) (fun _ => rfl) z0 z1 z2 z3 z4 z5 vb a _ ha hb' hv h6 (fun _ => rfl) ((((((hk.set hg _ _).set hg _ _).set hg _ _).set hg _ _).set hg _ _).set hg _ _)
      · refine opIn_skip i7 g7 hF (by rw [q7]; intro c h; cases h) (r7 q7 ha.t4 ha.t47 hb.cell hb.frozen) ?_
        rw [d7]
        have hne : some bl ≠ some g := hb.not_row (by decide) hr
        exact ih b5 b6 true (by simp at hm ⊢; omega) h65 y0 y1 y2 y3 y4 y5 _ a _ ha (hb.set _) (fun _ => rfl) (hr.kept (grownBy_setCell' w bl _) (.inr (fun e => hne e.symm))) hy (hk.set (.inr (.inr rfl)) _ _)

theorem infoX : (Tryz.prog.info? 49).map (fun i => (i.zero, i.size, i.bytes)) = some (some (.agg #[.int .i64 0, .string ⟨#[]⟩, .int .i64 0, .int .i64 0, .int .u64 0, .slice none 0 0]), 6, 72) := by kernel_rfl

set_option maxRecDepth 20000 in
set_option maxHeartbeats 1000000 in
theorem push_core {F : Fence} (hF : ∀ f, F.fn f) {n : Nat} {ops : Array Oper} {Q : Exit → Act → World → Prop} {o0 o1 o2 o3 o4 o5 o6 o7 : Oper}
    (i0 : ops[0]? = some o0) (i1 : ops[1]? = some o1) (i2 : ops[2]? = some o2) (i3 : ops[3]? = some o3) (i4 : ops[4]? = some o4) (i5 : ops[5]? = some o5) (i6 : ops[6]? = some o6) (i7 : ops[7]? = some o7)
    (g0 : o0.guard = none) (g1 : o1.guard = none) (g2 : o2.guard = none) (g3 : o3.guard = none) (g4 : o4.guard = none) (g5 : o5.guard = none) (g6 : o6.guard = none) (g7 : o7.guard = none)
    (d0 : o0.dst = some 43) (d1 : o1.dst = some 44) (d2 : o2.dst = some 45) (d3 : o3.dst = some 46) (d4 : o4.dst = some 47) (d5 : o5.dst = some 48) (d6 : o6.dst = none) (d7 : o7.dst = none)
    (q0 : o0.op = .load 47 (.tmp 4)) (q1 : o1.op = .load 49 (.tmp 7)) (q2 : o2.op = .call { callee := .builtin .len, args := #[.tmp 43], argTypes := #[47] })
    (q3 : o3.op = .buildSlice 47 1 #[(0, .const (.agg #[.int .i64 0, .string ⟨#[]⟩, .int .i64 0, .int .i64 0, .int .u64 0, .slice none 0 0]))])
    (q4 : o4.op = .call { callee := .builtin .append, args := #[.tmp 43, .tmp 46], argTypes := #[47, 47] })
    (q5 : o5.op = .indexAddr 47 (.tmp 47) (.tmp 45)) (q6 : o6.op = .store 49 (.tmp 48) (.tmp 44)) (q7 : o7.op = .store 47 (.tmp 4) (.tmp 47))
    (hr1 : ∀ b0 b1 b2 b3, Region.ready .any ops #[b0, b1, b2, b3, false, false, false, false] = rd1 b0 b1 b2 b3)
    (hr2 : ∀ b5 b6 b7, Region.ready .any ops #[true, true, true, true, true, b5, b6, b7] = rd2 b5 b6 b7)
    (W : World) (bl bz n0 k c : Nat) (sa : Option Addr) (xs : List Value) (z0 z1 z2 z3 z4 z5 : Value) (p0 : z0.oneCell' = true) (p1 : z1.oneCell' = true) (p2 : z2.oneCell' = true) (p3 : z3.oneCell' = true) (p4 : z4.oneCell' = true) (p5 : z5.oneCell' = true)
    (hk : k ≤ 1000000000) (hn0 : n0 ≤ W.heap.size) (hbl : Boxed W bl 47 (.slice sa k c)) (hrow : W.ownsRow n0 49 6 (.slice sa k c) k xs)
    (c0 : W.cell? ⟨bz, 0, none⟩ = some z0) (c1 : W.cell? ⟨bz, 1, none⟩ = some z1) (c2 : W.cell? ⟨bz, 2, none⟩ = some z2) (c3 : W.cell? ⟨bz, 3, none⟩ = some z3) (c4 : W.cell? ⟨bz, 4, none⟩ = some z4) (c5 : W.cell? ⟨bz, 5, none⟩ = some z5)
    (hQ : ∀ a' W' g cap, Boxed W' bl 47 (.slice (some ⟨g, 0, none⟩) (k + 1) cap) → W'.ownsRow n0 49 6 (.slice (some ⟨g, 0, none⟩) (k + 1) cap) (k + 1) (xs ++ [z0, z1, z2, z3, z4, z5]) → PKeep bl (.slice sa k c) W W' → ((Value.slice sa k c).ownBlock = some g ∨ W.heap.size ≤ g) → Q .normal a' W') :
    ∀ (m : Nat) (b0 b1 b2 b3 : Bool), (if b0 then 0 else 1) + (if b1 then 0 else 1) + (if b2 then 0 else 1) + (if b3 then 0 else 1) = m → (b2 = true → b0 = true) → ∀ (a : Act) (w : World), PG W bl bz sa k c (.agg #[z0, z1, z2, z3, z4, z5]) b0 b1 b2 b3 a w →
      wpAnyIn F n Tryz.prog .any ops Q (m + 4) #[b0, b1, b2, b3, false, false, false, false] a w := by
  intro m
  induction m with
  | zero =>
    intro b0 b1 b2 b3 hm h20 a w ha
    obtain ⟨rfl, rfl, rfl, rfl⟩ : b0 = true ∧ b1 = true ∧ b2 = true ∧ b3 = true := by cases b0 <;> cases b1 <;> cases b2 <;> cases b3 <;> simp at hm ⊢
    refine ⟨fun h => (by rw [hr1] at h; cases h), fun i hi => ?_⟩
    rw [hr1] at hi
    obtain rfl : i = 4 := by simpa [rd1] using hi
    have hw := ha.w_eq
    simp only [if_true] at hw
    subst hw
    obtain ⟨ti, hti, htz, hts, htb⟩ := info_parts infoX
    have hrow' := hrow.alloc (.cells #[.int .i64 0, .string ⟨#[]⟩, .int .i64 0, .int .i64 0, .int .u64 0, .slice none 0 0] 49)
    have hbl' := hbl.alloc (.cells #[.int .i64 0, .string ⟨#[]⟩, .int .i64 0, .int .i64 0, .int .u64 0, .slice none 0 0] 49)
    have hnews : ∀ (j : Nat) (u : Value), [Value.int .i64 0, .string ⟨#[]⟩, .int .i64 0, .int .i64 0, .int .u64 0, .slice none 0 0][j]? = some u → (W.alloc (.cells #[.int .i64 0, .string ⟨#[]⟩, .int .i64 0, .int .i64 0, .int .u64 0, .slice none 0 0] 49)).cell? ((⟨W.heap.size, 0, none⟩ : Addr).add j) = some u := fun j u hu => by
      have := (Blk.new W 49 [Value.int .i64 0, .string ⟨#[]⟩, .int .i64 0, .int .i64 0, .int .u64 0, .slice none 0 0]).cell j
      rw [hu] at this
      rw [Addr.add_lit, Nat.zero_add]
      exact this
    have h1c : ∀ u ∈ [Value.int .i64 0, .string ⟨#[]⟩, .int .i64 0, .int .i64 0, .int .u64 0, .slice none 0 0], u.oneCell' = true := by simp [Value.oneCell']
    obtain ⟨v', w', hrun, hown', hgrow, -⟩ := run_append_own (P := Tryz.prog) _ n0 47 o4.type 49 ti _ 6 72 Tryz.underlying47 hti htz hts htb rfl (by decide) _ k xs hrow' ⟨W.heap.size, 0, none⟩ 1 1 _ rfl hnews h1c
      (by simp only [maxLen]; omega) (by omega) (by simp; omega)
    have hfresh := append_fresh (P := Tryz.prog) Tryz.underlying47 hti htz htb (by rw [hts]; exact hrow') (by rw [hts]; rfl) hnews h1c hk (by decide) hrun
    obtain ⟨g, cap, rfl⟩ := ownsRow_succ hown'
    have hgf := hfresh g rfl
    have hex : (execOp a.eval o4).run Tryz.prog (W.alloc (.cells #[.int .i64 0, .string ⟨#[]⟩, .int .i64 0, .int .i64 0, .int .u64 0, .slice none 0 0] 49)) = .ok (.value (.slice (some ⟨g, 0, none⟩) (k + 1) cap)) w' := by
      have h43 : a.eval (.tmp 43) = _ := ha.t43 rfl
      have h46 : a.eval (.tmp 46) = _ := ha.t46 rfl
      generalize a.eval = ρ at h43 h46 ⊢
      simp [execOp, q4, resolve, invoke, builtin, h43, h46, hrun, Result.andThen]
    refine opIn_val i4 g4 hF (by rw [q4]; intro c h; cases h) hex ?_
    rw [d4]
    have hxl : xs.length = k * 6 := hrow.1
    refine push_tail hF i5 i6 i7 g5 g6 g7 d5 d6 d7 q5 q6 q7 hr2 W bl n0 k (.slice sa k c) xs z0 z1 z2 z3 z4 z5 p0 p1 p2 p3 p4 p5 hxl g cap ?_ (fun a' W' h1 h2 h3 => hQ a' W' g cap h1 h2 h3 (orRight hgf (fun h => by simp at h; omega))) 3 false false false rfl (fun h => h) _ _ _ _ _ _ _ _ w' ⟨by rw [put_size]; exact ha.size, ?_, ?_, ?_, ?_, fun h => (by cases h)⟩
      (hbl'.kept hgrow (hbl'.not_row (by decide) hrow')) (fun h => (by cases h)) hown' (fun h => (by cases h)) ?_
    · rcases hgf with h | h
      · exact .inl h
      · right; left; simp at h; omega
    · rw [put_get ha.size (by decide), if_neg (by decide)]; exact ha.t4
    · rw [put_get ha.size (by decide), if_neg (by decide)]; exact ha.t44 rfl
    · rw [put_get ha.size (by decide), if_neg (by decide)]; exact ha.t45 rfl
    · rw [put_get ha.size (by decide), if_pos rfl]
    · have hsz := hgrow.size
      refine ⟨hgrow.os, hgrow.tape, hgrow.output, by simp at hsz; omega, fun b hb h1 h2 => ?_⟩
      exact (hgrow.block b (by simp; omega) h2).trans (Below.heap_alloc W _ b hb)
  | succ m ih =>
    intro b0 b1 b2 b3 hm h20 a w ha
    refine ⟨fun h => ?_, fun i hi => ?_⟩
    · rw [hr1] at h
      cases b0 <;> cases b1 <;> cases b2 <;> cases b3 <;> simp [rd1] at h hm
    · rw [hr1] at hi
      have hcase : (i = 0 ∧ b0 = false) ∨ (i = 1 ∧ b1 = false) ∨ (i = 2 ∧ b0 = true ∧ b2 = false) ∨ (i = 3 ∧ b3 = false) := by
        cases b0 <;> cases b1 <;> cases b2 <;> cases b3 <;> simp [rd1] at hi hm ⊢ <;> omega
      have hcell : ∀ (x : Addr) (u : Value), W.cell? x = some u → w.cell? x = some u := fun x u hu => by
        rw [ha.w_eq]
        cases b3
        · exact hu
        · exact (Ext.new W _).at_ hu
      have hws : w = W → w.heap.size = W.heap.size := fun h => by rw [h]
      rcases hcase with ⟨rfl, rfl⟩ | ⟨rfl, rfl⟩ | ⟨rfl, rfl, rfl⟩ | ⟨rfl, rfl⟩
      · refine opIn_val i0 g0 hF (by rw [q0]; intro c h; cases h) (r0 q0 ha.t4 (hcell _ _ hbl.cell)) ?_
        rw [d0]
        refine ih true b1 b2 b3 (by simp at hm ⊢; omega) (fun _ => rfl) _ w ⟨by rw [put_size]; exact ha.size, ?_, ?_, ?_, ?_, ?_, ?_, ha.w_eq⟩
        · rw [put_get ha.size (by decide), if_neg (by decide)]; exact ha.t4
        · rw [put_get ha.size (by decide), if_neg (by decide)]; exact ha.t7
        · intro _; rw [put_get ha.size (by decide), if_pos rfl]
        · intro h; rw [put_get ha.size (by decide), if_neg (by decide)]; exact ha.t44 h
        · intro h; rw [put_get ha.size (by decide), if_neg (by decide)]; exact ha.t45 h
        · intro h; rw [put_get ha.size (by decide), if_neg (by decide)]; exact ha.t46 h
      · refine opIn_val i1 g1 hF (by rw [q1]; intro c h; cases h) (r1 q1 ha.t7 (hcell _ _ c0) (hcell _ _ c1) (hcell _ _ c2) (hcell _ _ c3) (hcell _ _ c4) (hcell _ _ c5)) ?_
        rw [d1]
        refine ih b0 true b2 b3 (by simp at hm ⊢; omega) h20 _ w ⟨by rw [put_size]; exact ha.size, ?_, ?_, ?_, ?_, ?_, ?_, ha.w_eq⟩
        · rw [put_get ha.size (by decide), if_neg (by decide)]; exact ha.t4
        · rw [put_get ha.size (by decide), if_neg (by decide)]; exact ha.t7
        · intro h; rw [put_get ha.size (by decide), if_neg (by decide)]; exact ha.t43 h
        · intro _; rw [put_get ha.size (by decide), if_pos rfl]
        · intro h; rw [put_get ha.size (by decide), if_neg (by decide)]; exact ha.t45 h
        · intro h; rw [put_get ha.size (by decide), if_neg (by decide)]; exact ha.t46 h
      · refine opIn_val i2 g2 hF (by rw [q2]; intro c h; cases h) (r2 q2 (ha.t43 rfl)) ?_
        rw [d2]
        refine ih true b1 true b3 (by simp at hm ⊢; omega) (fun _ => rfl) _ w ⟨by rw [put_size]; exact ha.size, ?_, ?_, ?_, ?_, ?_, ?_, ha.w_eq⟩
        · rw [put_get ha.size (by decide), if_neg (by decide)]; exact ha.t4
        · rw [put_get ha.size (by decide), if_neg (by decide)]; exact ha.t7
        · intro h; rw [put_get ha.size (by decide), if_neg (by decide)]; exact ha.t43 h
        · intro h; rw [put_get ha.size (by decide), if_neg (by decide)]; exact ha.t44 h
        · intro _; rw [put_get ha.size (by decide), if_pos rfl]
        · intro h; rw [put_get ha.size (by decide), if_neg (by decide)]; exact ha.t46 h
      · have hwW : w = W := by rw [ha.w_eq]; rfl
        refine opIn_val i3 g3 hF (by rw [q3]; intro c h; cases h) (r3 q3 rfl) ?_
        rw [d3, hwW]
        refine ih b0 b1 b2 true (by simp at hm ⊢; omega) h20 _ _ ⟨by rw [put_size]; exact ha.size, ?_, ?_, ?_, ?_, ?_, ?_, rfl⟩
        · rw [put_get ha.size (by decide), if_neg (by decide)]; exact ha.t4
        · rw [put_get ha.size (by decide), if_neg (by decide)]; exact ha.t7
        · intro h; rw [put_get ha.size (by decide), if_neg (by decide)]; exact ha.t43 h
        · intro h; rw [put_get ha.size (by decide), if_neg (by decide)]; exact ha.t44 h
        · intro h; rw [put_get ha.size (by decide), if_neg (by decide)]; exact ha.t45 h
        · intro _; rw [put_get ha.size (by decide), if_pos rfl]

end Go.Proofs.YtjoglnjpgkobeaaGreatDoor

/-
  ast.Free's range over slices.Backward: it pushes all parts of an expression, the last one first.
-/
namespace Go.Proofs.YtjoglnjpgkobeaaGreatDoor
open Go Go.RowKit Go.Shelf
set_option linter.all false
set_option linter.unusedVariables false
set_option linter.unusedSimpArgs false
set_option linter.unusedVariables false
set_option linter.unusedSimpArgs false
attribute [local go_sem] Oper.semAt_some run_store_one

theorem PKeep.refl (bl : Nat) (v : Value) (W : World) : PKeep bl v W W := ⟨rfl, rfl, rfl, Nat.le_refl _, fun _ _ _ _ => rfl⟩
theorem PKeep.trans {bl : Nat} {v v1 : Value} {W W1 W2 : World} (h : PKeep bl v W W1) (k : PKeep bl v1 W1 W2) (hf : ∀ g, v1.ownBlock = some g → v.ownBlock = some g ∨ W.heap.size ≤ g) : PKeep bl v W W2 :=
  ⟨k.os.trans h.os, k.tape.trans h.tape, k.output.trans h.output, Nat.le_trans h.size k.size, fun b hb h1 h2 => (k.block b (Nat.lt_of_lt_of_le hb h.size) h1 (fun e => by
    rcases hf b e.symm with h' | h'
    · exact h2 h'.symm
    · omega)).trans (h.block b hb h1 h2)⟩
theorem PKeep.grown {bl : Nat} {v : Value} {W W1 W2 : World} {row : Option Nat} (h : PKeep bl v W W1) (hg : W1.grownBy W2 row) (hr : ∀ r, row = some r → W.heap.size ≤ r) : PKeep bl v W W2 :=
  ⟨hg.os.trans h.os, hg.tape.trans h.tape, hg.output.trans h.output, Nat.le_trans h.size hg.size, fun b hb h1 h2 => (hg.block b (Nat.lt_of_lt_of_le hb h.size) (fun e => by have := hr b e.symm; omega)).trans (h.block b hb h1 h2)⟩

/-- The stack of Free between two rounds: what it held, and what has been pushed. -/
def Pushed (W : World) (n0 bl : Nat) (sa : Option Addr) (k c : Nat) (xs : List Value) (cs : Nat → List Value) (pre : List Nat) (W' : World) : Prop :=
  ∃ sa' c', Boxed W' bl 47 (.slice sa' (k + pre.length) c') ∧ W'.ownsRow n0 49 6 (.slice sa' (k + pre.length) c') (k + pre.length) (xs ++ pre.flatMap cs) ∧
    PKeep bl (.slice sa k c) W W' ∧ ∀ g, (Value.slice sa' (k + pre.length) c').ownBlock = some g → (Value.slice sa k c).ownBlock = some g ∨ W.heap.size ≤ g
theorem row_cells {W : World} {base : Nat} {e : TypeId} {size k : Nat} {v : Value} {xs : List Value} (h : W.ownsRow base e size v k xs) : v.ownBlock = none ∨ ∃ g cur, v.ownBlock = some g ∧ W.heap[g]? = some (.cells cur e (0, 0)) := by
  rcases h.2 with ⟨rfl, _⟩ | ⟨g, cap, cur, rfl, _, hgb, _⟩
  · exact .inl rfl
  · exact .inr ⟨g, cur, rfl, hgb⟩
theorem ownsRow_grown {W W' : World} {base : Nat} {e : TypeId} {size k : Nat} {v : Value} {xs : List Value} {row : Option Nat} (h : W.ownsRow base e size v k xs) (hg : W.grownBy W' row) (hr : ∀ r, row = some r → ∃ o : Obj, W.heap[r]? = some o ∧ o.isCells = false) : W'.ownsRow base e size v k xs := by
  refine h.kept hg ?_
  rcases row_cells h with h0 | ⟨g, cur, h1, h2⟩
  · exact .inl h0
  · refine .inr fun e => ?_
    rw [h1] at e
    obtain ⟨o, ho, hc⟩ := hr g e.symm
    rw [h2] at ho
    cases ho
    cases hc
theorem boxed_grown {W W' : World} {B : Nat} {t : TypeId} {v : Value} {row : Option Nat} (h : Boxed W B t v) (hg : W.grownBy W' row) (hr : ∀ r, row = some r → ∃ o : Obj, W.heap[r]? = some o ∧ o.isCells = false) : Boxed W' B t v :=
  h.kept hg (fun e => by obtain ⟨o, ho, hc⟩ := hr B e.symm; rw [show W.heap[B]? = _ from h] at ho; cases ho; cases hc)
theorem pushed_own (W : World) (n0 bl : Nat) (sa : Option Addr) (k c : Nat) (xs : List Value) (cs : Nat → List Value) : OwnFrom W.heap.size (Pushed W n0 bl sa k c xs cs) := by
  rintro pre A B' row ⟨sa', c', h1, h2, h3, h4⟩ hg hr
  exact ⟨sa', c', boxed_grown h1 hg (fun r e => (hr r e).2), ownsRow_grown h2 hg (fun r e => (hr r e).2), h3.grown hg (fun r e => (hr r e).1), h4⟩
/-- The loop variable's box. -/
def ZBox (N0 bl : Nat) (cs : Nat → List Value) (x : Nat) (a' : Act) (W' : World) : Prop :=
  ∃ bz, N0 ≤ bz ∧ Blk W' bz 49 (cs x) ∧ a'.tmps.size = 50 ∧ a'.tmps.getD 4 undef = .pointer (some ⟨bl, 0, none⟩) ∧ a'.tmps.getD 7 undef = .pointer (some ⟨bz, 0, none⟩)
theorem zbox_own (N0 bl : Nat) (cs : Nat → List Value) (x : Nat) (a' : Act) : OwnFrom N0 (fun (_ : Unit) W => ZBox N0 bl cs x a' W) := by
  rintro _ A B' row ⟨bz, h0, h1, h2⟩ hg hr
  refine ⟨bz, h0, (hg.block bz h1.lt (fun e => ?_)).trans h1, h2⟩
  obtain ⟨_, o, ho, hc⟩ := hr bz e.symm
  rw [show A.heap[bz]? = _ from h1] at ho
  cases ho
  cases hc

end Go.Proofs.YtjoglnjpgkobeaaGreatDoor
