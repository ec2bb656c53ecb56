/-
  slices.Backward AT EXPRESSIONS: what the iterator hands out, round by round.
-/
import Derived.RangeFuncNested
import Derived.RangeFuncBound
import Derived.RangeFuncCalls
import Derived.RangeFuncLeaves
import Derived.Shelf.Abstract
import Derived.WalkKit
import Derived.OwnWalkIn
import Derived.TacticsInMore
import Derived.LoopNIn
import Derived.LoopIn
import Derived.Test.YtonbgnaopkopoaaDoorProg
namespace Go.Proofs.YtonbgnaopkopoaaDoor
open Go Go.RowKit Go.Shelf
set_option linter.all false
set_option linter.unusedVariables false
set_option linter.unusedSimpArgs false
set_option linter.unusedVariables false
set_option linter.unusedSimpArgs false
attribute [local go_sem] Oper.semAt_some

/-- Indexes from the last down to k. -/
def dn (len k : Nat) : List Nat := (List.range (len - k)).map fun t => len - 1 - t
theorem dn_start (len : Nat) : dn len len = [] := by simp [dn]
theorem dn_length {len k : Nat} : (dn len k).length = len - k := by simp [dn]
theorem dn_step {len m : Nat} (h : m < len) : dn len m = dn len (m + 1) ++ [m] := by
  unfold dn
  have h1 : len - m = (len - (m + 1)) + 1 := by omega
  rw [h1, List.range_succ, List.map_append]
  simp
  omega

set_option maxRecDepth 100000 in
set_option maxHeartbeats 2000000 in
/-- The closure of slices.Backward, for every loop body that keeps what 'Kp' says. -/
theorem back1_in (F : Fence) (n : Nat) (h7 : F.fn 64) (hro : F.round = none) (hn : 1 ≤ n) (l bs : Nat) (sa : Option Addr) (len cap : Nat) (hln : len ≤ 1000000000) (b o : Nat) (hsa : 0 < len → sa = some ⟨b, o, none⟩) (v0 v1 v2 v3 v4 v5 : Nat → Value)
    (Kp : World → World → Prop) (hKt : ∀ {A B C : World}, Kp A B → Kp B C → Kp A C) (J Jx : List Nat → World → Prop)
    (hY : ∀ pre (x : Nat) W, J pre W → pre.length < len → YieldAt F (n - 1) Tryd.prog l #[.int .i64 (x : Int), .agg #[v0 x, v1 x, v2 x, v3 x, v4 x, v5 x]] W fun e W' =>
      (e = .returned (.bool true) ∧ J (pre ++ [x]) W' ∧ Kp W W') ∨ (e = .returned (.bool false) ∧ Jx (pre ++ [x]) W'))
    (W : World) (hK0 : Kp W W) (hBs : ∀ W', Kp W W' → W'.cell? ⟨bs, 0, none⟩ = some (.slice sa len cap))
    (hc : ∀ W', Kp W W' → ∀ k, k < len → W'.cell? ⟨b, o + k * 6, none⟩ = some (v0 k) ∧ W'.cell? ⟨b, o + k * 6 + 1, none⟩ = some (v1 k) ∧ W'.cell? ⟨b, o + k * 6 + 2, none⟩ = some (v2 k) ∧ W'.cell? ⟨b, o + k * 6 + 3, none⟩ = some (v3 k) ∧ W'.cell? ⟨b, o + k * 6 + 4, none⟩ = some (v4 k) ∧ W'.cell? ⟨b, o + k * 6 + 5, none⟩ = some (v5 k))
    (h0 : J [] W) :
    CallsIn F n Tryd.prog 64 #[.func (.yield l) #[] #[], .pointer (some ⟨bs, 0, none⟩)] W fun e W' => (∃ v, e = .returned v) ∧
      ((∃ ys, ys = dn len 0 ∧ J ys W') ∨ (∃ pre, (∃ k, k ≤ len ∧ pre = dn len k) ∧ Jx pre W')) := by
  have hb0 := hBs W hK0
  refine callsIn_of_wp Tryd.func64 rfl h7 ?_ hro
  simp only [Tryd.ntmps64, List.size_toArray, List.length_cons, List.length_nil, Nat.reduceAdd, Nat.reduceSub, Array.replicate_succ, Array.replicate_zero, List.push_toArray, List.append_toArray, List.nil_append, List.cons_append]
  gi_wp2
  gi_loopw [3] (fun i wr => ∃ k : Nat, k ≤ len ∧ i = .int .i64 ((k : Int) - 1) ∧ J (dn len k) wr ∧ Kp W wr)
    (fun i _ => (intOf i + 1).toNat)
  case atStart => exact ⟨len, Nat.le_refl _, by go_num, by rw [dn_start]; exact h0, hK0⟩
  case round =>
    obtain ⟨k, hk, rfl, hJs, hnx⟩ := hrel
    have hb1 := hBs wr hnx
    cases k with
    | zero =>
      gi_wp2
      go_end0
      exact ⟨⟨_, rfl⟩, .inl ⟨_, rfl, hJs⟩⟩
    | succ m =>
      have hm : m < len := by omega
      obtain rfl := hsa (by omega)
      obtain ⟨d0, d1, d2, d3, d4, d5⟩ := hc wr hnx m hm
      obtain ⟨fn, tmps, assign, body, hy, hR⟩ := hY _ m wr hJs (by rw [dn_length]; omega)
      rw [show ((m + 1 : Nat) : Int) - 1 = (m : Int) by omega]
      gi_wp2
      refine hR.mono ?_
      rintro e W3 (⟨rfl, hJ3, hk3⟩ | ⟨rfl, hJx3⟩)
      · gi_wp2
        go_roundw
        case rel => exact ⟨m, by omega, rfl, by rw [dn_step hm]; exact hJ3, hKt hnx hk3⟩
        case measure => simp [intOf]
      · gi_wp2
        refine bodyPost_ret (results_none rfl _ _ _) rfl ?_
        exact ⟨⟨_, rfl⟩, .inr ⟨_, ⟨m, by omega, (dn_step hm).symm⟩, hJx3⟩⟩

/-- What a round keeps: what lay below n0, and the box of the slice. -/
def KpB (n0 bs : Nat) (W W' : World) : Prop := Below n0 W W' ∧ ∀ v, Boxed W bs 23 v → Boxed W' bs 23 v
theorem KpB.refl (n0 bs : Nat) (W : World) : KpB n0 bs W W := ⟨Below.refl _ _, fun v h => h⟩
theorem KpB_t {n0 bs : Nat} {A B C : World} (h : KpB n0 bs A B) (k : KpB n0 bs B C) : KpB n0 bs A C := ⟨h.1.trans k.1, fun v hv => k.2 v (h.2 v hv)⟩
theorem KpB_b {n0 bs : Nat} {w : World} (hn : n0 ≤ w.heap.size) (W : World) (l : Nat) (o o' : Obj) (hl : w.heap.size ≤ l) (h : W.heap[l]? = some o) (hc : o.isCells = false) (hw : o.isWalk = false) : KpB n0 bs W (W.putObj l o') :=
  ⟨belowK_b hn W l o o' hl h hc hw, fun v hv => hv.kept (grownBy_putObj' W l o') (fun e => by cases e; rw [show W.heap[bs]? = _ from hv] at h; cases h; cases hc)⟩

/-- slices.Backward: the slice is boxed; the function value captures the box. -/
theorem backward_in (F : Fence) (n : Nat) (h6 : F.fn 50) (hro : F.round = none) (a : Option Addr) (len cap : Nat) (w : World) :
    CallsIn F n Tryd.prog 50 #[.slice a len cap] w fun e w' => e = .returned (.func (.func 64) #[] #[.pointer (some ⟨w.heap.size, 0, none⟩)]) ∧ w' = w.alloc (.cells #[.slice a len cap] 23) := by
  refine callsIn_of_wp Tryd.func50 rfl h6 ?_ hro
  simp only [Tryd.ntmps50, List.size_toArray, List.length_cons, List.length_nil, Nat.reduceAdd, Nat.reduceSub, Array.replicate_succ, Array.replicate_zero, List.push_toArray, List.append_toArray, List.nil_append, List.cons_append]
  gi_wp2
  go_ret
  exact ⟨rfl, rfl⟩

theorem back_stops (F : Fence) (n : Nat) (h7 : F.fn 64) (hro : F.round = none) (hn : 1 ≤ n) (n0 bs : Nat) (sa : Option Addr) (len cap : Nat) (hln : len ≤ 1000000000) (b o : Nat) (hsa : 0 < len → sa = some ⟨b, o, none⟩) (hb : 0 < len → b < n0) (v0 v1 v2 v3 v4 v5 : Nat → Value)
    (w : World) (hbs : Boxed w bs 23 (.slice sa len cap)) (hn0 : n0 ≤ w.heap.size)
    (hc : ∀ k, k < len → w.cell? ⟨b, o + k * 6, none⟩ = some (v0 k) ∧ w.cell? ⟨b, o + k * 6 + 1, none⟩ = some (v1 k) ∧ w.cell? ⟨b, o + k * 6 + 2, none⟩ = some (v2 k) ∧ w.cell? ⟨b, o + k * 6 + 3, none⟩ = some (v3 k) ∧ w.cell? ⟨b, o + k * 6 + 4, none⟩ = some (v4 k) ∧ w.cell? ⟨b, o + k * 6 + 5, none⟩ = some (v5 k)) :
    SeqStopsK F n Tryd.prog 64 #[.pointer (some ⟨bs, 0, none⟩)] (fun x : Nat => #[.int .i64 (x : Int), .agg #[v0 x, v1 x, v2 x, v3 x, v4 x, v5 x]]) (KpB n0 bs) (fun xs => xs = dn len 0)
      (fun pre => ∃ k, k ≤ len ∧ pre = dn len k) len w := fun l J Jx W hW _ _ hY h0 => by
  have hbW : Boxed W bs 23 (.slice sa len cap) := (hW.block bs hbs.lt).trans hbs
  refine back1_in F n h7 hro hn l bs sa len cap hln b o hsa v0 v1 v2 v3 v4 v5 (KpB n0 bs) KpB_t J Jx hY W (KpB.refl _ _ _) (fun W' hk => (hk.2 _ hbW).cell) (fun W' hk k hlt => ?_) h0
  have hx : ∀ j u, w.cell? ⟨b, j, none⟩ = some u → W'.cell? ⟨b, j, none⟩ = some u := fun j u hu => by
    have hb0 := hb (by omega)
    exact (hk.1.cell (p := ⟨b, j, none⟩) hb0).trans ((hW.cell (p := ⟨b, j, none⟩) (show b < _ by omega)).trans hu)
  obtain ⟨h1, h2, h3, h4, h5, h6⟩ := hc k hlt
  exact ⟨hx _ _ h1, hx _ _ h2, hx _ _ h3, hx _ _ h4, hx _ _ h5, hx _ _ h6⟩

end Go.Proofs.YtonbgnaopkopoaaDoor
