/-
  THE CONTRACTS OF slices.EqualFunc, at each kind of list.
-/
import Derived.WalkSpells
import Derived.WalkLawsBesides
import Derived.Test.YtonbgnaopkopoaaDoorProg
import Derived.Test.YtonbgnaopkopoaaDoorWordPk
namespace Go.Proofs.YtonbgnaopkopoaaDoor
open Go Go.RowKit
set_option linter.all false
set_option linter.unusedVariables false
set_option linter.unusedSimpArgs false
set_option linter.unusedVariables false
set_option linter.unusedSimpArgs false
attribute [local go_sem] run_store_one

theorem text_ne {a b : ByteArray} (h : ¬ a = b) : (a.toList == b.toList) = false := by
  refine beq_eq_false_iff_ne.2 fun e => h ?_
  rw [ByteArray.toList_eq, ByteArray.toList_eq] at e
  cases a; cases b
  simp at e
  rw [e]
theorem same_take {α : Type} {l m : List α} {k : Nat} (hl : k < l.length) (hm : k < m.length) (h : l.take k = m.take k) : l.take (k + 1) = m.take (k + 1) ↔ l[k] = m[k] := by
  rw [← List.take_append_getElem hl, ← List.take_append_getElem hm, h]
  exact ⟨fun e => by have := List.append_cancel_left e; simpa using this, fun e => by rw [e]⟩
theorem same_at {α : Type} {l m : List α} {k : Nat} (hl : k < l.length) (hm : k < m.length) (h : l[k] ≠ m[k]) : same l m = false := by
  rw [same_false]
  rintro rfl
  exact h rfl
theorem same_len {α : Type} {l m : List α} (h : l.length ≠ m.length) : same l m = false := by
  rw [same_false]
  rintro rfl
  exact h rfl

set_option maxHeartbeats 1000000 in
theorem eqfX_any (f : Nat) (hcall : Enters Tryd.prog f) (B : Nat) (l m : List X) (hf : ∀ x, x ∈ l → ∀ (y : X) (w : World) (cs ds : List Value), RX w B x cs → RX w B y ds → B ≤ w.heap.size →
      Calls Tryd.prog f #[.agg cs.toArray, .agg ds.toArray] w fun e w' => e = .returned (.bool (same x y)) ∧ Ext w w')
    (w : World) (v u : Value) (hS : Sl (RX w B) w B 6 l v) (hT : Sl (RX w B) w B 6 m u) (hB : B ≤ w.heap.size) (hsz : l.length ≤ 1000000000) :
    Calls Tryd.prog 47 #[v, u, .func (.func f) #[] #[]] w fun e w' => e = .returned (.bool (same l m)) ∧ Ext w w' := by
  obtain ⟨a, cap, rfl, hcap, hrow⟩ := hS
  obtain ⟨a', cap', rfl, hcap', hrow'⟩ := hT
  have HF := hide hf
  have hcf := hcall.out
  clear hf hcall
  go_enter Tryd.func47, Tryd.ntmps47
  by_cases hlen : l.length = m.length
  · have hlz : (m.length : Int) = l.length := by omega
    have HL := hide hlen
    clear hlen
    go_wp2_with fail
    go_loopw [17] (fun i wr => ∃ k : Nat, k ≤ l.length ∧ i = .int .i64 k ∧ l.take k = m.take k ∧ Ext w wr) (fun i _ => l.length - (intOf i).toNat)
    case atStart => exact ⟨0, Nat.zero_le _, rfl, rfl, Ext.refl _⟩
    case round =>
      obtain ⟨k, hk, rfl, hpre, hx⟩ := hrel
      by_cases hlt : k < l.length
      · have hlm : k < m.length := by have := HL.out; omega
        have hst := same_take hlt hlm hpre
        have hfk := HF.out l[k] (List.getElem_mem hlt) m[k]
        obtain ⟨b, o, v0, v1, v2, v3, v4, v5, rfl, hbB, hR, hC, o0, o1, o2, o3, o4, o5⟩ := hrow.open6 hlt
        obtain ⟨b', o', u0, u1, u2, u3, u4, u5, rfl, hbB', hR', hC', p0, p1, p2, p3, p4, p5⟩ := hrow'.open6 hlm
        obtain ⟨W1, hW1, hx1, hb1⟩ := box6 wr v0 v1 v2 v3 v4 v5 25
        obtain ⟨W2, hW2, hx2, hb2⟩ := box6 W1 u0 u1 u2 u3 u4 u5 25
        have hz1 := size_box hW1
        have hz2 := size_box hW2
        have hV1 := hW1.symm
        have hV2 := hW2.symm
        rw [hz1] at hb2 hz2
        obtain ⟨d0, d1, d2, d3, d4, d5⟩ := (hC.ext hx).get6
        obtain ⟨e0, e1, e2, e3, e4, e5⟩ := (hC'.ext (hx.trans hx1)).get6
        obtain ⟨f0, f1, f2, f3, f4, f5⟩ := (hb1.ext hx2).get6
        obtain ⟨g0, g1, g2, g3, g4, g5⟩ := hb2.get6
        have hxx := hx.trans (hx1.trans hx2)
        clear hW1 hW2 hb1 hb2
        have hne := @same_at _ l m k hlt hlm
        generalize l[k] = y at *
        generalize m[k] = z at *
        have HFK := hide hfk
        have HP := hide hpre
        have HST := hide hst
        clear hC hC' hrow hrow' hfk HF hpre hst
        have q1 := hide (hR.ext hxx hB)
        have q2 := hide (hR'.ext hxx hB)
        clear hR hR'
        go_wp2_with fail
        refine (HFK.out _ _ _ q1.out q2.out (by have := hxx.size; omega)).mono ?_
        rintro e w' ⟨rfl, hb'⟩
        have hx9 := hxx.trans hb'
        by_cases hyz : y = z
        · rw [same_iff.2 hyz]
          have hnx := HST.out.2 hyz
          go_wp2_with fail
          go_roundw
          case rel => exact ⟨k + 1, by omega, by go_num, hnx, hx9⟩
          case measure => simp [intOf]; omega
        · rw [same_false.2 hyz]
          have hnf := hne hyz
          go_wp2_with fail
          go_ret
          exact ⟨by rw [hnf]; rfl, hx9⟩
      · have : k = l.length := by omega
        subst this
        have hfull : same l m = true := same_iff.2 (by rw [List.take_length, HL.out, List.take_length] at hpre; exact hpre)
        go_wp2_with fail
        go_ret
        exact ⟨by rw [hfull]; rfl, hx⟩
  · have hf := same_len hlen
    have hlz : ((l.length : Int) != m.length) = true := by simp; omega
    go_wp2_with fail
    go_ret
    exact ⟨by rw [hf]; rfl, Ext.refl _⟩

end Go.Proofs.YtonbgnaopkopoaaDoor
