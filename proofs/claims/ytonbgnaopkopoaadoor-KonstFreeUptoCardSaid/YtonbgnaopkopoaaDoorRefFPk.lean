/-
  THE CONTRACTS OF THE REFERENCE's Among, Texts.
-/
import Derived.Test.YtonbgnaopkopoaaDoorFreePPk
import Derived.Test.YtonbgnaopkopoaaDoorMayRPk
import Derived.Test.YtonbgnaopkopoaaDoorWordPk
namespace Go.Proofs.YtonbgnaopkopoaaDoor
open Go Go.RowKit
set_option linter.all false
set_option linter.unusedVariables false
set_option linter.unusedSimpArgs false
set_option linter.unusedVariables false
set_option linter.unusedSimpArgs false
attribute [local go_sem] run_store_one

/-- A slice of texts. -/
def SStr (w : World) (l : List ByteArray) (v : Value) : Prop := ∃ a cap, v = .slice a l.length cap ∧ l.length ≤ cap ∧ ∀ k (h : k < l.length), ∃ b o, a = some ⟨b, o, none⟩ ∧ w.cell? ⟨b, o + k, none⟩ = some (.string l[k])
theorem SStr.ext {w w' : World} {l : List ByteArray} {v : Value} (h : SStr w l v) (hx : Ext w w') : SStr w' l v := by
  obtain ⟨a, cap, rfl, hc, hr⟩ := h
  exact ⟨a, cap, rfl, hc, fun k hk => by obtain ⟨b, o, e, h1⟩ := hr k hk; exact ⟨b, o, e, hx.at_ h1⟩⟩
theorem SStr.of_row {w : World} {base : Nat} {l : List ByteArray} {v : Value} (h : w.ownsRow base 9 1 v l.length (l.map .string)) : SStr w l v := by
  rcases h.2 with ⟨rfl, h0⟩ | ⟨g, cap, cur, rfl, _, hg, hn, hm, _⟩
  · exact ⟨none, 0, by rw [h0], by omega, fun k hk => by omega⟩
  · refine ⟨some ⟨g, 0, none⟩, cap, rfl, hn, fun k hk => ⟨g, 0, rfl, ?_⟩⟩
    rw [h.cellAt (0 + k) (by omega), Nat.zero_add, List.getElem?_map, List.getElem?_eq_getElem hk]
    rfl

set_option maxRecDepth 20000 in
set_option maxHeartbeats 1000000 in
theorem refAmong_any (l : List ByteArray) (s : ByteArray) (w : World) (v : Value) (hS : SStr w l v) (hln : l.length ≤ 1000000000) :
    Calls Tryd.prog 35 #[v, .string s] w fun e w' => e = .returned (.bool (yes (s ∈ l))) ∧ w' = w := by
  obtain ⟨a, cap, rfl, hcap, hrow⟩ := hS
  have HROW := hide hrow
  clear hrow
  go_enter Tryd.func35, Tryd.ntmps35
  go_wp2_with fail
  go_loopw [5] (fun i wr => ∃ k : Nat, k ≤ l.length ∧ i = .int .i64 k ∧ (∀ y, y ∈ l.take k → y ≠ s) ∧ wr = w) (fun i _ => l.length - (intOf i).toNat)
  case atStart => exact ⟨0, Nat.zero_le _, rfl, fun y hy => by simp at hy, rfl⟩
  case round =>
    obtain ⟨k, hk, rfl, hpre, rfl⟩ := hrel
    by_cases hlt : k < l.length
    · obtain ⟨b, o, rfl, hc⟩ := HROW.out k hlt
      have hall := hide (fun (h : l[k] ≠ s) => all_take (P := fun y => y ≠ s) hlt hpre h)
      have hmem := hide (List.getElem_mem hlt)
      clear hpre HROW
      by_cases he : l[k] = s
      · have hr := hide (show yes (s ∈ l) = true from yes_iff.2 (he ▸ hmem.out))
        rw [he] at hc
        clear hall hmem he
        go_wp2_with fail
        go_ret
        exact ⟨by rw [hr.out]; rfl, rfl⟩
      · have hn := hide (hall.out he)
        have hne := text_ne he
        clear hall hmem he
        generalize l[k] = y at *
        go_wp2_with fail
        go_roundw
        case rel => exact ⟨k + 1, by omega, by go_num, hn.out, trivial⟩
        case measure => simp [intOf]; omega
    · have : k = l.length := by omega
      subst this
      have hr := hide (show yes (s ∈ l) = false by
        rw [List.take_length] at hpre
        exact yes_no.2 (fun h => hpre s h rfl))
      clear hpre
      go_wp2_with fail
      go_ret
      exact ⟨by rw [hr.out]; rfl, rfl⟩

end Go.Proofs.YtonbgnaopkopoaaDoor
