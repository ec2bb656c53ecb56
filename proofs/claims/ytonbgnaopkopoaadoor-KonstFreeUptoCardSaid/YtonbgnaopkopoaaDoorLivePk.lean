/-
  THE LAWS' live: the chapter's example, in memory.
-/
import Derived.Test.YtonbgnaopkopoaaDoorFewPk
import Derived.Test.YtonbgnaopkopoaaDoorFreeRPk
import Derived.Test.YtonbgnaopkopoaaDoorLivePPk
import Derived.Test.YtonbgnaopkopoaaDoorSameRPk
import Derived.Test.YtonbgnaopkopoaaDoorSameTPk
import Derived.Test.YtonbgnaopkopoaaDoorFactsPk
namespace Go.Proofs.YtonbgnaopkopoaaDoor
open Go Go.RowKit
set_option linter.all false
set_option linter.unusedVariables false
set_option linter.unusedSimpArgs false
set_option linter.unusedVariables false
set_option linter.unusedSimpArgs false
attribute [local go_sem] run_store_one

theorem Sl.two {α : Type} {R : α → List Value → Prop} {w : World} {B sz g : Nat} {x y : α} {cs ds : List Value} (hb : g < B) (hl : cs.length = sz) (hl2 : ds.length = sz) (hc : Cells w g 0 (cs ++ ds)) (ho : ∀ v, v ∈ cs ++ ds → v.oneCell' = true) (hr : R x cs) (hr2 : R y ds) :
    Sl R w B sz [x, y] (.slice (some ⟨g, 0, none⟩) 2 2) := by
  refine ⟨_, 2, rfl, Nat.le_refl _, fun k hk => ?_⟩
  match k, hk with
  | 0, _ => exact ⟨g, 0, cs, rfl, hb, hl, fun j v hj => by
      have := hc j v (by rw [List.getElem?_append_left (List.getElem?_eq_some_iff.1 hj).1]; exact hj)
      simpa using this, fun v hv => ho v (List.mem_append_left _ hv), hr⟩
  | 1, _ => exact ⟨g, 0, ds, rfl, hb, hl2, fun j v hj => by
      have := hc (cs.length + j) v (by rw [List.getElem?_append_right (by omega), Nat.add_sub_cancel_left]; exact hj)
      rw [hl] at this
      simpa using this, fun v hv => ho v (List.mem_append_right _ hv), hr2⟩

def cNm (s : ByteArray) : List Value := [.int .i64 2, .string s, .int .i64 0, .int .i64 0, .int .u64 0, .slice none 0 0]
def cNum : List Value := [.int .i64 1, .string tE, .int .i64 0, .int .i64 8, .int .u64 3, .slice none 0 0]
def cMul (g : Nat) : List Value := [.int .i64 6, .string tE, .int .i64 16, .int .i64 0, .int .u64 0, .slice (some ⟨g, 0, none⟩) 2 2]
def cAdd (g : Nat) : List Value := [.int .i64 6, .string tE, .int .i64 14, .int .i64 0, .int .u64 0, .slice (some ⟨g, 0, none⟩) 2 2]
def cAss (g : Nat) : List Value := [.int .i64 1, .string tE, .slice (some ⟨g, 0, none⟩) 2 2, .slice none 0 0]
def cArm : List Value := [.int .i64 4, .string tE, .slice none 0 0, .slice none 0 0]
def cComb (g : Nat) : List Value := [.int .i64 5, .string tE, .string tE, .slice none 0 0, .slice (some ⟨g, 0, none⟩) 1 1, .slice none 0 0, .slice none 0 0, .slice none 0 0, .slice none 0 0]
def cOne (g : Nat) : List Value := [.string tM, .slice none 0 0, .slice none 0 0, .slice (some ⟨g, 0, none⟩) 1 1]
section
variable {w : World} {B : Nat}
theorem rx_nm (s : ByteArray) : RX w B (xNm s) (cNm s) := RX_iff.2 ⟨_, rfl, Sl.nil⟩
theorem rx_num : RX w B xNum cNum := RX_iff.2 ⟨_, rfl, Sl.nil⟩
theorem rx_mul {g : Nat} (hb : g < B) (hc : Cells w g 0 (cNum ++ cNm tB)) : RX w B xMul (cMul g) := RX_iff.2 ⟨_, rfl, Sl.two hb rfl rfl hc (by simp [cNum, cNm, Value.oneCell']) rx_num (rx_nm tB)⟩
theorem rx_add {g g' : Nat} (hb : g < B) (hb' : g' < B) (hc : Cells w g 0 (cNum ++ cNm tB)) (hc' : Cells w g' 0 (cNm tA ++ cMul g)) : RX w B xAdd (cAdd g') :=
  RX_iff.2 ⟨_, rfl, Sl.two hb' rfl rfl hc' (by simp [cMul, cNm, Value.oneCell']) (rx_nm tA) (rx_mul hb hc)⟩
theorem rs_ass {g g' : Nat} (hx : RX w B xAdd (cAdd g)) (hb' : g' < B) (hc' : Cells w g' 0 (cNm tY ++ cAdd g)) : RS w B sAss (cAss g') :=
  RS_iff.2 ⟨_, _, rfl, Sl.two hb' rfl rfl hc' (by simp [cAdd, cNm, Value.oneCell']) (rx_nm tY) hx, Sl.nil⟩
theorem rs_arm : RS w B sArm cArm := RS_iff.2 ⟨_, _, rfl, Sl.nil, Sl.nil⟩
theorem ri_comb {g g' : Nat} (hs : RS w B sAss (cAss g)) (hb' : g' < B) (hc' : Cells w g' 0 (cAss g)) : RI w B iComb (cComb g') :=
  RI_iff.2 ⟨_, _, _, _, _, _, rfl, Sl.nil, Sl.one hb' rfl hc' (by simp [cAss, Value.oneCell']) hs, Sl.nil, Sl.nil, Sl.nil, Sl.nil⟩
theorem rm_one {g g' : Nat} (hs : RI w B iComb (cComb g)) (hb' : g' < B) (hc' : Cells w g' 0 (cComb g)) : RM w B mOne (cOne g') :=
  ⟨_, _, _, rfl, Sl.nil, Sl.nil, Sl.one hb' rfl hc' (by simp [cComb, Value.oneCell']) hs⟩
end

end Go.Proofs.YtonbgnaopkopoaaDoor
