/-
  THE LAWS OF NAMES: modules and loops of the law's own.
-/
import Derived.Test.YtjoglnjpgkobeaaGreatDoorFewPk
namespace Go.Proofs.YtjoglnjpgkobeaaGreatDoor
open Go Go.RowKit
set_option linter.all false
set_option linter.unusedVariables false
set_option linter.unusedSimpArgs false
set_option linter.unusedVariables false
set_option linter.unusedSimpArgs false
attribute [local go_sem] run_store_one

def cF (nm of : ByteArray) (gs : Nat) (v : Value) : List Value := [.int .i64 9, .string nm, .string of, .slice (some ⟨gs, 0, none⟩) 2 2, .slice none 0 0, v, .slice none 0 0, .slice none 0 0, .slice none 0 0]
def cI (gs : Nat) (v u : Value) : List Value := [.int .i64 8, .string tE, .string tE, .slice (some ⟨gs, 0, none⟩) 1 1, .slice none 0 0, v, u, .slice none 0 0, .slice none 0 0]
theorem one_F {nm of : ByteArray} {gs : Nat} {v : Value} (h : v.oneCell' = true) : ∀ u, u ∈ cF nm of gs v → u.oneCell' = true := by
  intro u hu
  simp only [cF, List.mem_cons, List.not_mem_nil, or_false] at hu
  rcases hu with rfl | rfl | rfl | rfl | rfl | rfl | rfl | rfl | rfl <;> first | exact h | rfl
theorem one_I {gs : Nat} {v u : Value} (h : v.oneCell' = true) (h2 : u.oneCell' = true) : ∀ x, x ∈ cI gs v u → x.oneCell' = true := by
  intro x hx
  simp only [cI, List.mem_cons, List.not_mem_nil, or_false] at hx
  rcases hx with rfl | rfl | rfl | rfl | rfl | rfl | rfl | rfl | rfl <;> first | exact h | exact h2 | rfl
theorem ri_iFor {W : World} {B gs : Nat} {nm of : ByteArray} {l : List Itm} {v : Value} (hb : gs < B) (hc : Cells W gs 0 (cX ++ cX)) (hl : Sl (RI W B) W B 9 l v) : RI W B (iFor nm of l) (cF nm of gs v) :=
  RI_iff.2 ⟨_, _, _, _, _, _, rfl, Sl.pair hb rfl rfl hc (by simp [cX, Value.oneCell']) rx_xOne rx_xOne, Sl.nil, hl, Sl.nil, Sl.nil, Sl.nil⟩
theorem ri_iIf {W : World} {B gs : Nat} {l m : List Itm} {v u : Value} (hb : gs < B) (hc : Cells W gs 0 cX) (hl : Sl (RI W B) W B 9 l v) (hm : Sl (RI W B) W B 9 m u) : RI W B (iIf l m) (cI gs v u) :=
  RI_iff.2 ⟨_, _, _, _, _, _, rfl, Sl.one hb rfl hc (by simp [cX, Value.oneCell']) rx_xOne, Sl.nil, hl, hm, Sl.nil, Sl.nil⟩
theorem sl_solo {W : World} {B g : Nat} {nm : ByteArray} {l : List Itm} {v : Value} (hb : g < B) (hbk : Blk W g 33 [.string nm, .slice none 0 0, .slice none 0 0, v]) (hl : Sl (RI W B) W B 9 l v) : Sl (RM W B) W B 4 [mSolo nm l] (.slice (some ⟨g, 0, none⟩) 1 1) :=
  Sl.one hb rfl hbk.cells (by
    intro u hu
    simp only [List.mem_cons, List.not_mem_nil, or_false] at hu
    rcases hu with rfl | rfl | rfl | rfl <;> first | exact hl.oneCell | rfl) ⟨_, _, _, rfl, Sl.nil, Sl.nil, hl⟩
theorem vi_iFor {nm of : ByteArray} {l : List Itm} (h1 : nm.size < 4294967281) (h2 : of.size < 4294967281) (hl : ∀ y, y ∈ l → VI y) : VI (iFor nm of l) := .mk _ h1 h2 (all_two vx_xOne vx_xOne) (fun y hy => by cases hy) hl (fun y hy => by cases hy) (fun y hy => by cases hy) (fun y hy => by cases hy)
theorem vi_iIf {l m : List Itm} (hl : ∀ y, y ∈ l → VI y) (hm : ∀ y, y ∈ m → VI y) : VI (iIf l m) := .mk _ (show tE.size < 4294967281 by decide) (show tE.size < 4294967281 by decide) (all_one vx_xOne) (fun y hy => by cases hy) hl hm (fun y hy => by cases hy) (fun y hy => by cases hy)
theorem vm_solo {nm : ByteArray} {l : List Itm} (h1 : nm.size < 4294967281) (hl : ∀ y, y ∈ l → VI y) : ∀ m, m ∈ [mSolo nm l] → VM m := all_one ⟨h1, (fun y hy => by cases hy), (fun y hy => by cases hy), hl⟩
theorem size_solo (nm : ByteArray) (l : List Itm) : msize sizeM [mSolo nm l] = 1 + msize sizeI l := by show 1 + 0 + 0 + msize sizeI l + 0 = _; omega
def tMm : ByteArray := ⟨#[109]⟩

end Go.Proofs.YtjoglnjpgkobeaaGreatDoor
