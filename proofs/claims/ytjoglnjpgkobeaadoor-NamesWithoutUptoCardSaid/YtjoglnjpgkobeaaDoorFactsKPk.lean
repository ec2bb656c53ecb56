/-
  REGIONS WITH A CLAIM: small laws on what is listed.
-/
import Derived.Test.YtjoglnjpgkobeaaDoorFactsPk
namespace Go.Proofs.YtjoglnjpgkobeaaDoor
open Go Go.RowKit
set_option linter.all false
set_option linter.unusedVariables false
set_option linter.unusedSimpArgs false

theorem haf_on {o : Oper} {L : Nat → Bool} (haf : ∀ e ∈ o.after, Region.binds .any e = true → L e.on = true) (j : Nat) (h : (o.after.any fun e => Region.binds .any e && e.on == j) = true) : L j = true := by
  obtain ⟨e, he, hb⟩ := Array.any_eq_true'.1 h
  simp only [Bool.and_eq_true, beq_iff_eq] at hb
  rw [← hb.2]
  exact haf e he hb.1
theorem or_beq_ne {L : Nat → Bool} {i j : Nat} (h : (j == i) = false) : (fun j => L j || j == i) j = L j := by show (L j || j == i) = L j; rw [h, Bool.or_false]
theorem or_beq_eq {L : Nat → Bool} {i : Nat} : (fun j => L j || j == i) i = true := by simp
/-- A temporary that is read by one operation, and written by a later one. -/
def onceJ (r o t : Nat) (v : Value) (L : Nat → Bool) (τ : Tmp → Value) (_ : World) : Prop := (L o = true → L r = true) ∧ (L o = false → τ t = v)
theorem onceJ_looks (r o t : Nat) (v : Value) : Looks (onceJ r o t v) [r, o] [t] := by
  intro L L' τ τ' w w' hL hτ hx ⟨h1, h2⟩
  unfold onceJ
  rw [hL r (by simp), hL o (by simp), hτ t (by simp)]
  exact ⟨h1, h2⟩
theorem onceJ_read {r o t : Nat} {v u : Value} {L : Nat → Bool} {A : Act} {d : Option Tmp} {w w' : World} (hro : (o == r) = false) (hd : d ≠ some t) (h : onceJ r o t v L (tau A) w) : onceJ r o t v (fun j => L j || j == r) (tau (A.put d u)) w' := by
  unfold onceJ
  rw [or_beq_eq, or_beq_ne hro, tau_put hd]
  exact ⟨fun _ => rfl, h.2⟩
theorem onceJ_at {r o t : Nat} {v : Value} {L : Nat → Bool} {τ : Tmp → Value} {w : World} (h : onceJ r o t v L τ w) (hr : L r = false) : τ t = v := by
  refine h.2 ?_
  cases ho : L o with
  | false => rfl
  | true => rw [h.1 ho] at hr; cases hr
theorem onceJ_write {r o t : Nat} {v u : Value} {L : Nat → Bool} {A : Act} {w w' : World} (hro : (r == o) = false) (hr : L r = true) : onceJ r o t v (fun j => L j || j == o) (tau (A.put (some t) u)) w' := by
  unfold onceJ
  rw [or_beq_eq, or_beq_ne hro]
  exact ⟨fun _ => hr, fun h => (by cases h)⟩

end Go.Proofs.YtjoglnjpgkobeaaDoor
