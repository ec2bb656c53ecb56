/-
  THE CONTRACTS OF THE REFERENCE's COUNTING FUNCTIONS: how many nodes, how deep.
-/
import Derived.WalkSpells
import Derived.WalkLawsBesides
import Derived.Deep.RegionWith
import Derived.Test.YtonbgnaopkopoaaDoorProg
import Derived.Test.YtonbgnaopkopoaaDoorWordPk
namespace Go.Proofs.YtonbgnaopkopoaaDoor
open Go Go.RowKit
set_option linter.all false
set_option linter.unusedVariables false
set_option linter.unusedSimpArgs false
set_option linter.unusedVariables false
set_option linter.unusedSimpArgs false
attribute [local go_sem] run_store_one

set_option maxHeartbeats 400000 in
theorem refSizeX_any (B : Nat) (x : X) : ∀ (w : World) (cs : List Value), RX w B x cs → B ≤ w.heap.size → sizeX x ≤ 1000000000 →
    Calls Tryd.prog 36 #[.agg cs.toArray] w fun e w' => e = .returned (.int .i64 (sizeX x)) ∧ Ext w w' := by
  induction x using X.ind with
  | h x ih =>
  intro w cs hR hB hsz
  obtain ⟨_, rfl, a, cap, rfl, hcap, hrow⟩ := RX_iff.1 hR
  have hs0 : 1 + msize sizeX x.l ≤ 1000000000 := by rw [← sizeX_eq]; exact hsz
  have hln := length_le_msize sizeX x.l sizeX_pos
  have hfin := hide (sizeX_eq x)
  generalize x.op = op at *
  generalize x.name = nm at *
  generalize x.n = n at *
  generalize x.w = wd at *
  generalize x.v = v at *
  generalize x.l = l at *
  clear hR hsz
  go_enter Tryd.func36, Tryd.ntmps36
  go_wp2_with fail
  obtain ⟨W1, hW1, hx1, hb1⟩ := box6 w (.int .i64 op) (.string nm) (.int .i64 n) (.int .i64 wd) (.int .u64 v) (.slice a l.length cap) 25
  rw [← hW1]
  clear hW1
  go_loopw [3, 4] (fun r i wr => ∃ k : Nat, k ≤ l.length ∧ i = .int .i64 k ∧ r = .int .i64 (1 + msize sizeX (l.take k) : Nat) ∧ Ext W1 wr) (fun _ i _ => l.length - (intOf i).toNat)
  case atStart => exact ⟨0, Nat.zero_le _, rfl, rfl, Ext.refl _⟩
  case round =>
    obtain ⟨k, hk, rfl, rfl, hxr⟩ := hrel
    obtain ⟨c0, c1, c2, c3, c4, c5⟩ := (hb1.ext hxr).get6
    have hx := hx1.trans hxr
    have hle := msize_take_le sizeX l k
    by_cases hlt : k < l.length
    · have hsu := msize_take_succ sizeX l k hlt
      have hs1 := msize_take_le sizeX l (k + 1)
      have ihk := ih l[k] (List.getElem_mem hlt)
      obtain ⟨b, o, v0, v1, v2, v3, v4, v5, rfl, hbB, hE, hC, o0, o1, o2, o3, o4, o5⟩ := hrow.open6 hlt
      obtain ⟨d0, d1, d2, d3, d4, d5⟩ := (hC.ext hx).get6
      generalize l[k] = y at *
      have hy' := hE.ext hx hB
      have HS := hide hsu
      clear hC hrow hE ih hsu
      go_wp2_with fail
      refine (ihk wr _ hy' (by have := hx.size; omega) (by have := HS.out; omega)).mono ?_
      rintro e w' ⟨rfl, hb'⟩
      have hsc := HS.out
      go_wp2_with fail
      go_roundw
      case rel => exact ⟨k + 1, by omega, by go_num, by go_num, hxr.trans hb'⟩
      case measure => simp [intOf]; omega
    · go_wp2_with fail
      go_ret
      have : k = l.length := by omega
      subst this
      exact ⟨by rw [hfin.out]; simp, hx⟩

set_option maxHeartbeats 400000 in
theorem refDeepL_of (B : Nat) (l : List X) (hf : ∀ x, x ∈ l → ∀ (w : World) (cs : List Value), RX w B x cs → B ≤ w.heap.size → sizeX x ≤ 1000000000 →
      Calls Tryd.prog 29 #[.agg cs.toArray] w fun e w' => e = .returned (.int .i64 (deepX x)) ∧ Ext w w')
    (w : World) (v : Value) (hS : Sl (RX w B) w B 6 l v) (hB : B ≤ w.heap.size) (hsz : msize sizeX l ≤ 1000000000) :
    Calls Tryd.prog 42 #[v] w fun e w' => e = .returned (.int .i64 (mdeep deepX l)) ∧ Ext w w' := by
  obtain ⟨a, cap, rfl, hcap, hrow⟩ := hS
  have hln := length_le_msize sizeX l sizeX_pos
  have HF := hide hf
  clear hf
  go_enter Tryd.func42, Tryd.ntmps42
  go_wp2_with fail
  go_loopw [3, 4] (fun r i wr => ∃ k : Nat, k ≤ l.length ∧ i = .int .i64 k ∧ r = .int .i64 (mdeep deepX (l.take k) : Nat) ∧ Ext w wr) (fun _ i _ => l.length - (intOf i).toNat)
  case atStart => exact ⟨0, Nat.zero_le _, rfl, rfl, Ext.refl _⟩
  case round =>
    obtain ⟨k, hk, rfl, rfl, hx⟩ := hrel
    by_cases hlt : k < l.length
    · have hsu := mdeep_take_succ deepX l k hlt
      have hs2 := msize_mem sizeX l l[k] (List.getElem_mem hlt)
      have hfk := HF.out l[k] (List.getElem_mem hlt)
      obtain ⟨b, o, v0, v1, v2, v3, v4, v5, rfl, hbB, hE, hC, o0, o1, o2, o3, o4, o5⟩ := hrow.open6 hlt
      obtain ⟨d0, d1, d2, d3, d4, d5⟩ := (hC.ext hx).get6
      generalize l[k] = y at *
      have hy' := hE.ext hx hB
      have HS := hide hsu
      have HK := hide hfk
      clear hC hrow hE hsu hfk HF
      go_wp2_with fail
      refine (HK.out wr _ hy' (by have := hx.size; omega) (by omega)).mono ?_
      rintro e w' ⟨rfl, hb'⟩
      go_wp2_with fail
      all_goals
        go_roundw
        case rel => exact ⟨k + 1, by omega, by go_num, by rw [HS.out]; congr 2; omega, hx.trans hb'⟩
        case measure => simp [intOf]; omega
    · go_wp2_with fail
      go_ret
      have : k = l.length := by omega
      subst this
      exact ⟨by simp, hx⟩

set_option maxHeartbeats 400000 in
theorem refDeepX_any (B : Nat) (x : X) : ∀ (w : World) (cs : List Value), RX w B x cs → B ≤ w.heap.size → sizeX x ≤ 1000000000 →
    Calls Tryd.prog 29 #[.agg cs.toArray] w fun e w' => e = .returned (.int .i64 (deepX x)) ∧ Ext w w' := by
  induction x using X.ind with
  | h x ih =>
  intro w cs hR hB hsz
  obtain ⟨v, rfl, hS⟩ := RX_iff.1 hR
  have hs0 : 1 + msize sizeX x.l ≤ 1000000000 := by rw [← sizeX_eq]; exact hsz
  have hdl := deepXL_le x.l
  have hfin := hide (deepX_eq x)
  have IH := hide ih
  have HS := hide hS
  have ho := hS.oneCell
  generalize x.op = op at *
  generalize x.name = nm at *
  generalize x.n = n at *
  generalize x.w = wd at *
  generalize x.v = xv at *
  generalize x.l = l at *
  clear hR hsz ih hS
  go_enter Tryd.func29, Tryd.ntmps29
  go_wp2_with fail
  obtain ⟨W1, hW1, hx1, hb1⟩ := box6 w (.int .i64 op) (.string nm) (.int .i64 n) (.int .i64 wd) (.int .u64 xv) v 25
  rw [← hW1]
  clear hW1
  obtain ⟨c0, c1, c2, c3, c4, c5⟩ := hb1.get6
  go_wp2_with fail
  refine (refDeepL_of B l IH.out _ v (HS.out.extRX hx1 hB) (by have := hx1.size; omega) (by omega)).mono ?_
  rintro e w' ⟨rfl, hb'⟩
  go_wp2_with fail
  go_ret
  exact ⟨by rw [hfin.out]; simp, hx1.trans hb'⟩

theorem refDeepL_any (B : Nat) (l : List X) (w : World) (v : Value) (hS : Sl (RX w B) w B 6 l v) (hB : B ≤ w.heap.size) (hsz : msize sizeX l ≤ 1000000000) :
    Calls Tryd.prog 42 #[v] w fun e w' => e = .returned (.int .i64 (mdeep deepX l)) ∧ Ext w w' :=
  refDeepL_of B l (fun x _ => refDeepX_any B x) w v hS hB hsz

end Go.Proofs.YtonbgnaopkopoaaDoor

/-
  THE CONTRACTS OF THE REFERENCE's COUNTING FUNCTIONS: items and files.
-/
namespace Go.Proofs.YtonbgnaopkopoaaDoor
open Go Go.RowKit
set_option linter.all false
set_option linter.unusedVariables false
set_option linter.unusedSimpArgs false
set_option linter.unusedVariables false
set_option linter.unusedSimpArgs false
attribute [local go_sem] run_store_one

theorem run_max6 {P : Program} {w : World} (ts : Array TypeId) (t : TypeId) (a b c d e f : Nat) : (Builtin.max_ ts t #[.int .i64 a, .int .i64 b, .int .i64 c, .int .i64 d, .int .i64 e, .int .i64 f]).run P w =
    .ok (.int .i64 (max (max (max (max (max a b) c) d) e) f : Nat)) w := by
  have h2 : ∀ x y : Nat, Builtin.max2 (.int .i64 x) (.int .i64 y) = pure (.int .i64 (max x y : Nat)) := fun x y => by
    simp only [Builtin.max2]
    congr 2
    by_cases h : (y : Int) > x
    · rw [if_pos h]; omega
    · rw [if_neg h]; omega
  simp only [Builtin.max_, List.foldlM, Sem.run_bind, h2, Sem.run_pure, Result.andThen_ok]
attribute [local go_sem] run_max6

end Go.Proofs.YtonbgnaopkopoaaDoor
