/-
  ROWS OF TEXTS.
-/
import Derived.Test.YtjoglnjpgkobeaaGreatDoorRefFPk
import Derived.Test.YtjoglnjpgkobeaaGreatDoorAppPk
import Derived.Test.YtjoglnjpgkobeaaGreatDoorNUsesPk
namespace Go.Proofs.YtjoglnjpgkobeaaGreatDoor
open Go Go.RowKit
set_option linter.all false
set_option linter.unusedVariables false
set_option linter.unusedSimpArgs false
set_option linter.unusedVariables false
set_option linter.unusedSimpArgs false

theorem SStr.take {w : World} {l : List ByteArray} {a : Option Addr} {n cap k : Nat} (h : SStr w l (.slice a n cap)) (hk : k < l.length) : SStr w (l.take k) (Go.sliced a 0 k cap 1) := by
  obtain ⟨a', cap', he, hc, hr⟩ := h
  obtain ⟨rfl, rfl, rfl⟩ := Value.slice.inj he
  refine ⟨_, cap - 0, by unfold Go.sliced; rw [List.length_take, Nat.min_eq_left (by omega)]; rfl, by rw [List.length_take]; omega, fun i hi => ?_⟩
  rw [List.length_take] at hi
  obtain ⟨b, o, rfl, h1⟩ := hr i (by omega)
  rw [if_neg (by omega), List.getElem_take]
  exact ⟨b, o, congrArg some (addr_add0 b o (0 * 1)), by simpa using h1⟩
/-- A slice that is a row of the call's own, with its cells. -/
theorem Flat.of_own {w : World} {base : Nat} {e : TypeId} {sz n : Nat} {v : Value} {xs : List Value} (h : w.ownsRow base e sz v n xs) (h1 : ∀ u ∈ xs, u.oneCell' = true) : ∃ a cap, v = .slice a n cap ∧ Flat w sz a n xs := by
  have hl := h.1
  rcases h.2 with ⟨rfl, rfl⟩ | ⟨g, cap, cur, rfl, -⟩
  · obtain rfl : xs = [] := List.eq_nil_of_length_eq_zero (by simpa using hl)
    exact ⟨none, 0, rfl, Flat.none_⟩
  · exact ⟨_, cap, rfl, hl, h1, fun _ => ⟨g, 0, rfl, fun j u hu => by have := h.cells (g := g) rfl j u hu; rw [addr_add0] at this; exact this⟩⟩
theorem one_strs (l : List ByteArray) : ∀ u ∈ l.map Value.string, u.oneCell' = true := by
  intro u hu
  obtain ⟨s, -, rfl⟩ := List.mem_map.1 hu
  rfl
theorem Flat.strs {w : World} {l : List ByteArray} {a : Option Addr} {c : Nat} (h : SStr w l (.slice a l.length c)) : Flat w 1 a l.length (l.map Value.string) := by
  obtain ⟨a', cap', he, hc, hr⟩ := h
  obtain ⟨rfl, -, rfl⟩ := Value.slice.inj he
  refine ⟨by simp, one_strs l, fun hp => ?_⟩
  obtain ⟨b, o, rfl, -⟩ := hr 0 hp
  refine ⟨b, o, rfl, fun j u hu => ?_⟩
  rw [List.getElem?_map] at hu
  obtain ⟨s, hs, rfl⟩ := Option.map_eq_some_iff.1 hu
  obtain ⟨hj, rfl⟩ := List.getElem?_eq_some_iff.1 hs
  obtain ⟨b', o', he2, hcell⟩ := hr j hj
  obtain ⟨rfl, rfl⟩ : b = b' ∧ o = o' := by simpa using he2
  exact hcell


theorem setCell_grown (w : World) (g j : Nat) (v : Value) : w.grownBy (w.setCell ⟨g, j, none⟩ v) (some g) :=
  ⟨rfl, rfl, rfl, by simp [World.setCell], fun k hk hne => by
    have : k ≠ g := fun e => hne (by rw [e])
    simp [World.setCell, Array.getElem?_modify, Ne.symm this]⟩
theorem SStr.of_own {w : World} {base n : Nat} {l : List ByteArray} {v : Value} {xs : List Value} (h : w.ownsRow base 9 1 v n xs) (hn : n = l.length) (hx : xs = l.map .string) : SStr w l v := by
  subst hn hx
  exact SStr.of_row h
/-- A row of texts, behind a store into a block that is none of texts. -/
theorem SStr.store {w : World} {l : List ByteArray} {v u : Value} {g j : Nat} {t : TypeId} {cs : List Value} (h : SStr w l v) (hb : Blk w g t cs) (hc : ∀ c ∈ cs, ∀ s, c ≠ .string s) : SStr (w.setCell ⟨g, j, none⟩ u) l v := by
  obtain ⟨a, cap, rfl, hcap, hr⟩ := h
  refine ⟨a, cap, rfl, hcap, fun k hk => ?_⟩
  obtain ⟨b, o, rfl, h1⟩ := hr k hk
  refine ⟨b, o, rfl, ?_⟩
  have hne : b ≠ g := by
    rintro rfl
    have h2 := hb.cell (o + k)
    rw [h1] at h2
    exact hc _ (List.mem_of_getElem? h2.symm) _ rfl
  exact (setCell_grown w g j u).cell h1 (fun e => hne (by cases e; rfl))

end Go.Proofs.YtjoglnjpgkobeaaGreatDoor
