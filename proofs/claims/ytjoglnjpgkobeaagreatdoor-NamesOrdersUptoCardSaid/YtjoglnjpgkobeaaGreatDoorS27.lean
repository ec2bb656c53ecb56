/-
  THE CONTRACTS OF THE REFERENCE's Among, Texts.
-/
import Derived.Test.YtjoglnjpgkobeaaGreatDoorProg
import Derived.Test.YtjoglnjpgkobeaaGreatDoorS11
import Derived.Test.YtjoglnjpgkobeaaGreatDoorS10
import Derived.Test.YtjoglnjpgkobeaaGreatDoorS3
namespace Go.Proofs.YtjoglnjpgkobeaaGreatDoor
open Go Go.RowKit
set_option linter.all false
set_option linter.unusedVariables false
set_option linter.unusedSimpArgs false
set_option linter.unusedVariables false
set_option linter.unusedSimpArgs false
attribute [local go_sem] run_store_one
/-- A slice of texts. -/
def SStr (w : World) (l : List ByteArray) (v : Value) : Prop := ∃ a cap, v = .slice a l.length cap ∧ l.length ≤ cap ∧ ∀ k (h : k < l.length), ∃ b o, a = some ⟨b, o, none⟩ ∧ w.cell? ⟨b, o + k, none⟩ = some (.string l[k])
theorem SStr.ext {w w' : World} {l : List ByteArray} {v : Value} (h : SStr w l v) (hx : Ext w w') : SStr w' l v := by
  obtain ⟨a, cap, rfl, hc, hr⟩ := h
  exact ⟨a, cap, rfl, hc, fun k hk => by obtain ⟨b, o, e, h1⟩ := hr k hk; exact ⟨b, o, e, hx.at_ h1⟩⟩
theorem SStr.of_row {w : World} {base : Nat} {l : List ByteArray} {v : Value} (h : w.ownsRow base 9 1 v l.length (l.map .string)) : SStr w l v := by
  rcases h.2 with ⟨rfl, h0⟩ | ⟨g, cap, cur, rfl, _, hg, hn, hm, _⟩
  · exact ⟨none, 0, by rw [h0], by omega, fun k hk => by omega⟩
  · refine ⟨some ⟨g, 0, none⟩, cap, rfl, hn, fun k hk => ⟨g, 0, rfl, ?_⟩⟩
    rw [h.cellAt (0 + k) (by omega), Nat.zero_add, List.getElem?_map, List.getElem?_eq_getElem hk]
    rfl
set_option maxRecDepth 20000 in
set_option maxHeartbeats 1000000 in
theorem refAmong_any (l : List ByteArray) (s : ByteArray) (w : World) (v : Value) (hS : SStr w l v) (hln : l.length ≤ 1000000000) :
    Calls Tryz.prog 26 #[v, .string s] w fun e w' => e = .returned (.bool (yes (s ∈ l))) ∧ w' = w := by
  obtain ⟨a, cap, rfl, hcap, hrow⟩ := hS
  have HROW := hide hrow
  clear hrow
  go_enter Tryz.func26, Tryz.ntmps26
  go_wp2_with fail
  go_loopw [5] (fun i wr => ∃ k : Nat, k ≤ l.length ∧ i = .int .i64 k ∧ (∀ y, y ∈ l.take k → y ≠ s) ∧ wr = w) (fun i _ => l.length - (intOf i).toNat)
  case atStart => exact ⟨0, Nat.zero_le _, rfl, fun y hy => by simp at hy, rfl⟩
  case round =>
    obtain ⟨k, hk, rfl, hpre, rfl⟩ := hrel
    by_cases hlt : k < l.length
    · obtain ⟨b, o, rfl, hc⟩ := HROW.out k hlt
      have hall := hide (fun (h : l[k] ≠ s) => all_take (P := fun y => y ≠ s) hlt hpre h)
      have hmem := hide (List.getElem_mem hlt)
      clear hpre HROW
      by_cases he : l[k] = s
      · have hr := hide (show yes (s ∈ l) = true from yes_iff.2 (he ▸ hmem.out))
        rw [he] at hc
        clear hall hmem he
        go_wp2_with fail
        go_ret
        exact ⟨by rw [hr.out]; rfl, rfl⟩
      · have hn := hide (hall.out he)
        have hne := text_ne he
        clear hall hmem he
        generalize l[k] = y at *
        go_wp2_with fail
        go_roundw
        case rel => exact ⟨k + 1, by omega, by go_num, hn.out, trivial⟩
        case measure => simp [intOf]; omega
    · have : k = l.length := by omega
      subst this
      have hr := hide (show yes (s ∈ l) = false by
        rw [List.take_length] at hpre
        exact yes_no.2 (fun h => hpre s h rfl))
      clear hpre
      go_wp2_with fail
      go_ret
      exact ⟨by rw [hr.out]; rfl, rfl⟩
set_option maxRecDepth 20000 in
set_option maxHeartbeats 1000000 in
theorem refTexts_any (l m : List ByteArray) (w : World) (v u : Value) (hS : SStr w l v) (hS2 : SStr w m u) (hln : l.length ≤ 1000000000) (hlm : m.length ≤ 1000000000) :
    Calls Tryz.prog 15 #[v, u] w fun e w' => e = .returned (.bool (yes (l = m))) ∧ Ext w w' := by
  obtain ⟨a, cap, rfl, hcap, hrow⟩ := hS
  obtain ⟨a2, cap2, rfl, hcap2, hrow2⟩ := hS2
  have HROW := hide hrow
  have HROW2 := hide hrow2
  clear hrow hrow2
  by_cases hl : l.length = m.length
  · have hlb : ((l.length : Int) == (m.length : Int)) = true := beq_iff_eq.2 (by omega)
    have HL := hide hl
    clear hl
    go_enter Tryz.func15, Tryz.ntmps15
    go_wp2_with fail
    go_loopw [5] (fun i wr => ∃ k : Nat, k ≤ l.length ∧ i = .int .i64 k ∧ (∀ j (h1 : j < l.length) (h2 : j < m.length), j < k → l[j] = m[j]) ∧ Ext w wr) (fun i _ => l.length - (intOf i).toNat)
    case atStart => exact ⟨0, Nat.zero_le _, rfl, fun j _ _ h => by omega, Ext.refl _⟩
    case round =>
      obtain ⟨k, hk, rfl, hpre, hx⟩ := hrel
      by_cases hlt : k < l.length
      · have hlt2 : k < m.length := by rw [← HL.out]; exact hlt
        obtain ⟨b, o, rfl, hc⟩ := HROW.out k hlt
        obtain ⟨b2, o2, rfl, hc2⟩ := HROW2.out k hlt2
        have c1 := cellAt (hx.at_ hc)
        have c2 := cellAt (hx.at_ hc2)
        have hall := hide (fun (h : l[k] = m[k]) => show ∀ j (h1 : j < l.length) (h2 : j < m.length), j < k + 1 → l[j] = m[j] from fun j h1 h2 hj => by
          by_cases e : j = k
          · subst e; exact h
          · exact hpre j h1 h2 (by omega))
        have hno := hide (fun (h : l[k] ≠ m[k]) => yes_no.2 (fun (e : l = m) => h (by subst e; rfl)))
        clear hpre HROW HROW2 hc hc2
        by_cases he : l[k] = m[k]
        · have hn := hide (hall.out he)
          rw [← he] at c2
          clear hall hno he
          generalize l[k] = y at *
          go_wp2_with fail
          refine wp_region_later (W := wr) (by kernel_rfl) (by kernel_rfl) (Ext.refl _) ?_
          repeat (go_big_quiet_step (fail))
          refine wpQuiet_nil ?_
          rintro _ ⟨e, rfl⟩
          go_wp2_with fail
          go_roundw
          case rel => exact ⟨k + 1, by omega, by go_num, hn.out, hx.trans e.ext⟩
          case measure => simp [intOf]; omega
        · have hr := hide (hno.out he)
          have hne := text_ne he
          clear hall hno he
          generalize l[k] = y at *
          generalize m[k] = z at *
          go_wp2_with fail
          refine wp_region_later (W := wr) (by kernel_rfl) (by kernel_rfl) (Ext.refl _) ?_
          repeat (go_big_quiet_step (fail))
          refine wpQuiet_nil ?_
          rintro _ ⟨e, rfl⟩
          go_wp2_with fail
          go_ret
          exact ⟨by rw [hr.out]; rfl, hx.trans e.ext⟩
      · have hkl : k = l.length := by omega
        subst hkl
        have hr := hide (show yes (l = m) = true from yes_iff.2 (List.ext_getElem HL.out (fun j h1 h2 => hpre j h1 h2 h1)))
        clear hpre
        go_wp2_with fail
        go_ret
        exact ⟨by rw [hr.out]; rfl, hx⟩
  · have hlb : ((l.length : Int) == (m.length : Int)) = false := beq_eq_false_iff_ne.2 (by omega)
    have hr : yes (l = m) = false := yes_no.2 (fun e => hl (by rw [e]))
    rw [hr]
    clear hl hr
    go_enter Tryz.func15, Tryz.ntmps15
    go_wp2_with fail
    go_ret
    exact ⟨rfl, Ext.refl _⟩
end Go.Proofs.YtjoglnjpgkobeaaGreatDoor
