/-
  CHAPTER 06's EXAMPLE, as plain laws: what its trees are with its constants; which trees may be.
-/
import Derived.Test.YtonbgnaopkopoaaDoorKlawPk
import Derived.Test.YtonbgnaopkopoaaDoorRDPk
namespace Go.Proofs.YtonbgnaopkopoaaDoor
open Go Go.RowKit
set_option linter.all false
set_option linter.unusedVariables false
set_option linter.unusedSimpArgs false
set_option linter.unusedVariables false
set_option linter.unusedSimpArgs false

def tN : ByteArray := ⟨#[78]⟩
def tK : ByteArray := ⟨#[77]⟩
def env6 : List (ByteArray × Int) := [(tN, 9), (tN, 3)]
theorem tK_tN : ¬ tN = tK := fun h => absurd (congrArg ByteArray.data h) (by decide)
theorem nameP_N : nameP tN := ⟨by decide, by decide, by decide, by decide⟩
theorem nameP_K : nameP tK := ⟨by decide, by decide, by decide, by decide⟩
theorem lookE_N : lookE env6 tN = some 3 := by
  show (if tN = tN then some 3 else if tN = tN then some 9 else none) = _
  rw [if_pos rfl]
theorem lookE_K : lookE env6 tK = none := by
  show (if tN = tK then some 3 else if tN = tK then some 9 else none) = _
  rw [if_neg tK_tN, if_neg tK_tN]
/-- Which trees may be. -/
theorem may_xN (z : Int) : MayX (xN z) := .mk _ ⟨.inl ⟨.inl rfl, rfl⟩, .inr (.inr (.inr ⟨(show (1 : Int) ≠ 5 ∧ (1 : Int) ≠ 6 ∧ (1 : Int) ≠ 10 by decide), rfl⟩)), .inr ⟨rfl, (show (0 : Int) ≤ 0 by decide), (show (0 : Int) ≤ 64 by decide), .inl rfl⟩, .inr ⟨(show ¬ isNamed 1 by unfold isNamed; decide), rfl⟩⟩ (fun y hy => by cases hy)
theorem may_xBin {op : Int} {x y : X} (h1 : 11 ≤ op) (h2 : op ≤ 26) (hx : MayX x) (hy : MayX y) : MayX (xBin op x y) :=
  .mk _ ⟨.inr (.inr (.inl ⟨.inr (.inl rfl), rfl⟩)), .inr (.inl ⟨rfl, h1, h2⟩), .inl ⟨(show (6 : Int) ≠ 1 by decide), rfl, rfl⟩, .inr ⟨(show ¬ isNamed 6 by unfold isNamed; decide), rfl⟩⟩ (all_two hx hy)
theorem may_xNo {x : X} (hx : MayX x) : MayX (xNo x) :=
  .mk _ ⟨.inr (.inl ⟨.inr rfl, rfl⟩), .inl ⟨rfl, (show (1 : Int) ≤ 6 by decide), (show (6 : Int) ≤ 6 by decide)⟩, .inl ⟨(show (5 : Int) ≠ 1 by decide), rfl, rfl⟩, .inr ⟨(show ¬ isNamed 5 by unfold isNamed; decide), rfl⟩⟩ (all_one hx)
theorem vx_xN {z : Int} (h0 : 0 ≤ z) (h1 : z ≤ 2147483647) : VX (xN z) := .mk _ h0 (show z < 18446744073709551616 by omega) (show (0 : Nat) < 4294967281 by decide) (fun y hy => by cases hy)
theorem vx_xBin {op : Int} {x y : X} (hx : VX x) (hy : VX y) : VX (xBin op x y) := .mk _ (show (0 : Int) ≤ 0 by decide) (show (0 : Int) < 18446744073709551616 by decide) (show (0 : Nat) < 4294967281 by decide) (all_two hx hy)
theorem vx_xNo {x : X} (hx : VX x) : VX (xNo x) := .mk _ (show (0 : Int) ≤ 0 by decide) (show (0 : Int) < 18446744073709551616 by decide) (show (0 : Nat) < 4294967281 by decide) (all_one hx)
theorem size_xN (z : Int) : sizeX (xN z) = 1 := by rw [sizeX_eq]; rfl
theorem deep_xN (z : Int) : deepX (xN z) = 1 := by rw [deepX_eq]; rfl
theorem size_xBin (op : Int) (x y : X) : sizeX (xBin op x y) = 1 + (sizeX x + sizeX y) := by rw [sizeX_eq]; simp [xBin, X.l, msize]
theorem deep_xBin (op : Int) (x y : X) : deepX (xBin op x y) = 1 + max (deepX x) (deepX y) := by rw [deepX_eq]; simp [xBin, X.l, mdeep]
theorem size_xNo (x : X) : sizeX (xNo x) = 1 + sizeX x := by rw [sizeX_eq]; simp [xNo, X.l, msize]
theorem deep_xNo (x : X) : deepX (xNo x) = 1 + deepX x := by rw [deepX_eq]; simp [xNo, X.l, mdeep]
theorem size_xNm (s : ByteArray) : sizeX (xNm s) = 1 := by rw [sizeX_eq]; rfl
theorem deep_xNm (s : ByteArray) : deepX (xNm s) = 1 := by rw [deepX_eq]; rfl
/-- What they are. -/
theorem eval_xN (env : ByteArray → Option Int) (z : Int) : evalX env (xN z) = toldK z := eval_num env z tE 0 []
theorem eval_xNm (env : ByteArray → Option Int) (s : ByteArray) : evalX env (xNm s) = nameK (env s) := by rw [evalX_eq]; simp [combK, xNm, X.op, X.name]
theorem eval_xNo (env : ByteArray → Option Int) (x : X) : evalX env (xNo x) = if (evalX env x).2 ≠ 0 then (0, (evalX env x).2) else (bitK ((evalX env x).1 == 0), 0) := by
  rw [evalX_eq]; simp [combK, xNo, X.op, X.n, X.l, opK]
theorem eval_xBin {env : ByteArray → Option Int} {op : Int} {x y : X} (h1 : 14 ≤ op) (h2 : op ≤ 26) : evalX env (xBin op x y) = if (evalX env x).2 ≠ 0 then (0, (evalX env x).2) else if (evalX env y).2 ≠ 0 then (0, (evalX env y).2) else toldK (twoK op (evalX env x).1 (evalX env y).1) := by
  rw [evalX_eq]
  have : opK 6 op := .inr (.inl ⟨rfl, h1, h2⟩)
  simp only [combK, xBin, X.op, X.n, X.l, X.w, X.v, X.name, List.map_cons, List.map_nil]
  rw [if_neg (by decide), if_neg (by decide), if_pos this]
  simp
theorem told_in {z : Int} (h : insideK z) : toldK z = (z, 0) := if_pos h
theorem told_out {z : Int} (h : ¬ insideK z) : toldK z = (0, 62) := if_neg h
theorem evalW_of {env : List (ByteArray × Int)} {x : X} (hs : sizeX x ≤ 65536) (hd : deepX x ≤ 64) (hm : MayX x) : evalW env x = evalX (lookE env) x := if_pos (checkX_zero.2 ⟨hs, hd, hm⟩)
theorem evalW_nums {env : List (ByteArray × Int)} {op a b : Int} (h1 : 14 ≤ op) (h2 : op ≤ 26) (ha : insideK a) (hb : insideK b) : evalW env (xBin op (xN a) (xN b)) = toldK (twoK op a b) := by
  rw [evalW_of (by rw [size_xBin, size_xN, size_xN]; decide) (by rw [deep_xBin, deep_xN, deep_xN]; decide) (may_xBin (by omega) h2 (may_xN a) (may_xN b)), eval_xBin h1 h2, eval_xN, eval_xN, told_in ha, told_in hb]
  simp
theorem evalW_ex {op k : Int} (h1 : 14 ≤ op) (h2 : op ≤ 26) (hk : insideK k) : evalW env6 (xBin op (xNm tN) (xN k)) = toldK (twoK op 3 k) := by
  rw [evalW_of (by rw [size_xBin, size_xNm, size_xN]; decide) (by rw [deep_xBin, deep_xNm, deep_xN]; decide) (may_xBin (by omega) h2 (may_nm.2 nameP_N) (may_xN k)), eval_xBin h1 h2, eval_xN, eval_xNm, lookE_N, told_in hk, show nameK (some 3) = (3, 0) from by decide]
  simp
theorem evalW_K : evalW env6 (xNm tK) = (0, 60) := by
  rw [evalW_of (by rw [size_xNm]; decide) (by rw [deep_xNm]; decide) (may_nm.2 nameP_K), eval_xNm, lookE_K]; rfl
theorem evalW_N : evalW env6 (xNm tN) = (3, 0) := by
  rw [evalW_of (by rw [size_xNm]; decide) (by rw [deep_xNm]; decide) (may_nm.2 nameP_N), eval_xNm, lookE_N]; decide
theorem widthK_N : widthK env6 (xNm tN) = (3, 0) := by
  unfold widthK; rw [evalW_N]; decide
def x8 : X := .mk 1 tE 0 8 200 []
theorem may_x8 : MayX x8 := .mk _ ⟨.inl ⟨.inl rfl, rfl⟩, .inr (.inr (.inr ⟨by decide, rfl⟩)), .inr ⟨rfl, by decide, by decide, .inr (.inr (by decide))⟩, .inr ⟨by unfold isNamed; decide, rfl⟩⟩ (fun y hy => by cases hy)
theorem vx_x8 : VX x8 := .mk _ (by decide) (by decide) (by decide) (fun y hy => by cases hy)
theorem numK_8 : numK [] x8 = ((8, 200), 0) := by
  unfold numK
  rw [if_pos ⟨rfl, checkX_zero.2 ⟨by decide, by decide, may_x8⟩⟩]; rfl
theorem subst_N : substX (lookE env6) (xNm tN) = xN 3 := by
  rw [substX_name rfl, show (xNm tN).name = tN from rfl, lookE_N]; rfl

/-- Subst, of every expression. -/
theorem ksub_any (B : Nat) (env : List (ByteArray × Int)) (ve : Value) (hln : env.length ≤ 1000000000) (x : X) : sizeX x ≤ 100000000 → SubOk B env ve x := by
  induction x using X.ind with
  | h x ih =>
    intro hsz
    by_cases h2 : x.op = 2
    · exact ksub_name B env ve hln x h2
    · have hl := length_le_msize sizeX x.l sizeX_pos
      have hs := sizeX_eq x
      exact ksub_other B env ve hln x h2 (by omega) fun y hy => ih y hy (by have := msize_mem sizeX x.l y hy; omega)

end Go.Proofs.YtonbgnaopkopoaaDoor
