/-
  CONSTANT EXPRESSIONS, AS PLAIN LAWS: what an expression is, and what is of it with its constants put in.
-/
import Derived.Test.YtonbgnaopkopoaaDoorWordPk
import Derived.Test.YtonbgnaopkopoaaDoorFreePPk
namespace Go.Proofs.YtonbgnaopkopoaaDoor
open Go Go.RowKit
set_option linter.all false
set_option linter.unusedVariables false
set_option linter.unusedSimpArgs false
set_option linter.unusedVariables false
set_option linter.unusedSimpArgs false

/-- What the constants tell of a name: the last one that bears it. -/
def lookE (env : List (ByteArray × Int)) (s : ByteArray) : Option Int := env.foldl (fun r p => if p.1 = s then some p.2 else r) none
theorem lookE_nil (s : ByteArray) : lookE [] s = none := rfl
theorem lookE_snoc (env : List (ByteArray × Int)) (p : ByteArray × Int) (s : ByteArray) : lookE (env ++ [p]) s = if p.1 = s then some p.2 else lookE env s := by
  simp [lookE, List.foldl_append]
theorem snoc_ind {α : Type} {P : List α → Prop} (h0 : P []) (h1 : ∀ l a, P l → P (l ++ [a])) (l : List α) : P l := by
  have : ∀ l : List α, P l.reverse := fun l => by
    induction l with
    | nil => exact h0
    | cons a r ih => rw [List.reverse_cons]; exact h1 _ _ ih
  have h := this l.reverse
  rwa [List.reverse_reverse] at h
theorem lookE_mem {env : List (ByteArray × Int)} {s : ByteArray} {z : Int} : lookE env s = some z → ∃ p, p ∈ env ∧ p.1 = s ∧ p.2 = z := by
  induction env using snoc_ind with
  | h0 => intro h; cases h
  | h1 l p ih =>
    intro h
    rw [lookE_snoc] at h
    split at h
    · injection h with h; exact ⟨p, by simp, by assumption, h⟩
    · obtain ⟨q, h1, h2, h3⟩ := ih h; exact ⟨q, by simp [h1], h2, h3⟩
theorem lookE_filter (env : List (ByteArray × Int)) (P : ByteArray → Bool) (s : ByteArray) (hs : P s = true) : lookE (env.filter fun p => P p.1) s = lookE env s := by
  induction env using snoc_ind with
  | h0 => rfl
  | h1 l p ih =>
    rw [List.filter_append, lookE_snoc, ← ih]
    by_cases hp : p.1 = s
    · rw [if_pos hp, show [p].filter (fun p => P p.1) = [p] by simp [hp, hs], lookE_snoc, if_pos hp]
    · rw [if_neg hp]
      by_cases hq : P p.1 = true
      · rw [show [p].filter (fun p => P p.1) = [p] by simp [hq], lookE_snoc, if_neg hp]
      · rw [show [p].filter (fun p => P p.1) = [] by simp [hq], List.append_nil]

def bitK (b : Bool) : Int := if b then 1 else 0
theorem bitK_bd (b : Bool) : 0 ≤ bitK b ∧ bitK b ≤ 1 := by cases b <;> decide
def insideK (z : Int) : Prop := 0 ≤ z ∧ z ≤ 2147483647
instance (z : Int) : Decidable (insideK z) := by unfold insideK; infer_instance
def toldK (z : Int) : Int × Int := if insideK z then (z, 0) else (0, 62)
/-- A number times a power of two; -1, if that is no constant's value. -/
def shiftK (a b : Int) : Int := if a = 0 then 0 else if 31 ≤ b ∨ 2147483647 < a * 2 ^ b.toNat then -1 else a * 2 ^ b.toNat
/-- What two values make. -/
def twoK (n a b : Int) : Int :=
  if n = 14 then a + b else if n = 15 then a - b else if n = 16 then a * b else if n = 17 then shiftK a b else if n = 18 then a / 2 ^ (min b 63).toNat
  else if n = 19 then bitK (a == b) else if n = 20 then bitK (a != b) else if n = 21 then bitK (decide (a < b)) else if n = 22 then bitK (decide (a ≤ b)) else if n = 23 then bitK (decide (b < a)) else if n = 24 then bitK (decide (b ≤ a))
  else if n = 25 then bitK (a != 0 && b != 0) else bitK (a != 0 || b != 0)
/-- Is it an operation that is evaluated? -/
def opK (op n : Int) : Prop := op = 5 ∧ n = 6 ∨ op = 6 ∧ 14 ≤ n ∧ n ≤ 26 ∨ op = 7
instance (op n : Int) : Decidable (opK op n) := by unfold opK; infer_instance
def nameK (o : Option Int) : Int × Int := match o with | none => (0, 60) | some z => toldK z
def combK (env : ByteArray → Option Int) (op : Int) (nm : ByteArray) (n w v : Int) (es : List (Int × Int)) : Int × Int :=
  if op = 1 ∧ w = 0 then toldK v
  else if op = 2 then nameK (env nm)
  else if opK op n then
    (if (es.getD 0 (0, 61)).2 ≠ 0 then (0, (es.getD 0 (0, 61)).2)
    else if op = 5 then (bitK ((es.getD 0 (0, 61)).1 == 0), 0)
    else if op = 7 then es.getD (if (es.getD 0 (0, 61)).1 = 0 then 2 else 1) (0, 61)
    else if (es.getD 1 (0, 61)).2 ≠ 0 then (0, (es.getD 1 (0, 61)).2)
    else toldK (twoK n (es.getD 0 (0, 61)).1 (es.getD 1 (0, 61)).1))
  else (0, 61)
mutual
/-- What an expression is, and the error. -/
def evalX (env : ByteArray → Option Int) : X → Int × Int
  | .mk op nm n w v l => combK env op nm n w v (evalXs env l)
def evalXs (env : ByteArray → Option Int) : List X → List (Int × Int)
  | [] => []
  | x :: r => evalX env x :: evalXs env r
 end
theorem evalXs_eq (env : ByteArray → Option Int) (l : List X) : evalXs env l = l.map (evalX env) := by induction l with | nil => rfl | cons x r ih => simp [evalXs, ih]
theorem evalX_eq (env : ByteArray → Option Int) (x : X) : evalX env x = combK env x.op x.name x.n x.w x.v (x.l.map (evalX env)) := by cases x; rw [evalX, evalXs_eq]; rfl

/-- A value, or an error and 0. -/
def okK (r : Int × Int) : Prop := r.2 = 0 ∧ insideK r.1 ∨ (r.2 = 60 ∨ r.2 = 61 ∨ r.2 = 62) ∧ r.1 = 0
theorem okK_told (z : Int) : okK (toldK z) := by
  unfold toldK; split
  · exact .inl ⟨rfl, by assumption⟩
  · exact .inr ⟨.inr (.inr rfl), rfl⟩
theorem okK_bit (b : Bool) : okK (bitK b, 0) := .inl ⟨rfl, (bitK_bd b).1, by have := (bitK_bd b).2; show bitK b ≤ _; omega⟩
theorem okK_getD {es : List (Int × Int)} (h : ∀ r, r ∈ es → okK r) (i : Nat) : okK (es.getD i (0, 61)) := by
  rw [List.getD_eq_getElem?_getD]
  cases hi : es[i]? with
  | none => exact .inr ⟨.inr (.inl rfl), rfl⟩
  | some r => exact h r (List.mem_of_getElem? hi)
theorem okK_err {r : Int × Int} (h : okK r) (hz : r.2 ≠ 0) : okK (0, r.2) := by
  rcases h with h | h
  · exact absurd h.1 hz
  · exact .inr ⟨h.1, rfl⟩
theorem okK_eval (env : ByteArray → Option Int) (x : X) : okK (evalX env x) := by
  induction x using X.ind with
  | h x ih =>
    rw [evalX_eq]
    have hes : ∀ r, r ∈ x.l.map (evalX env) → okK r := fun r hr => by obtain ⟨y, hy, rfl⟩ := List.mem_map.1 hr; exact ih y hy
    unfold combK
    split
    · exact okK_told _
    · split
      · unfold nameK
        split
        · exact .inr ⟨.inl rfl, rfl⟩
        · exact okK_told _
      · split
        · split
          · exact okK_err (okK_getD hes 0) (by assumption)
          · split
            · exact okK_bit _
            · split
              · exact okK_getD hes _
              · split
                · exact okK_err (okK_getD hes 1) (by assumption)
                · exact okK_told _
        · exact .inr ⟨.inr (.inl rfl), rfl⟩
theorem eval_val {env : ByteArray → Option Int} {x : X} : 0 ≤ (evalX env x).1 ∧ (evalX env x).1 ≤ 2147483647 := by
  rcases okK_eval env x with ⟨-, h⟩ | ⟨-, h⟩
  · exact h
  · rw [h]; decide

/-- WHAT IT HANGS ON ARE ITS NAMES. -/
theorem eval_congr {env env' : ByteArray → Option Int} (x : X) : (∀ s, s ∈ namesX x → env s = env' s) → evalX env x = evalX env' x := by
  induction x using X.ind with
  | h x ih =>
    intro h
    rw [evalX_eq, evalX_eq]
    rw [namesX_eq] at h
    have hl : x.l.map (evalX env) = x.l.map (evalX env') := List.map_congr_left fun y hy => ih y hy fun s hs => h s (List.mem_append_right _ (List.mem_flatMap.2 ⟨y, hy, hs⟩))
    rw [hl]
    unfold combK
    by_cases h2 : x.op = 2
    · rw [h x.name (List.mem_append_left _ (by rw [if_pos (by rw [h2]; rfl)]; simp))]
    · simp only [h2, if_false]

mutual
/-- With its constants put in. -/
def substX (env : ByteArray → Option Int) : X → X
  | .mk op nm n w v l => if op = 2 then (match env nm with | some z => if insideK z then .mk 1 ⟨#[]⟩ 0 0 z [] else .mk op nm n w v l | none => .mk op nm n w v l) else .mk op nm n w v (substXs env l)
def substXs (env : ByteArray → Option Int) : List X → List X
  | [] => []
  | x :: r => substX env x :: substXs env r
 end
theorem substXs_eq (env : ByteArray → Option Int) (l : List X) : substXs env l = l.map (substX env) := by induction l with | nil => rfl | cons x r ih => simp [substXs, ih]
theorem substX_name {env : ByteArray → Option Int} {x : X} (h : x.op = 2) : substX env x = match env x.name with | some z => if insideK z then .mk 1 ⟨#[]⟩ 0 0 z [] else x | none => x := by
  cases x with
  | mk op nm n w v l =>
    rw [substX, if_pos (show op = 2 from h)]; rfl
theorem substX_other {env : ByteArray → Option Int} {x : X} (h : x.op ≠ 2) : substX env x = .mk x.op x.name x.n x.w x.v (x.l.map (substX env)) := by
  cases x with
  | mk op nm n w v l =>
    rw [substX, if_neg (show op ≠ 2 from h), substXs_eq]; rfl
theorem eval_num (env : ByteArray → Option Int) (z : Int) (nm : ByteArray) (n : Int) (l : List X) : evalX env (.mk 1 nm n 0 z l) = toldK z := by
  rw [evalX_eq]; simp [combK, X.op, X.w, X.v]
theorem eval_subst {env : ByteArray → Option Int} (hr : ∀ s z, env s = some z → insideK z) (x : X) : evalX (fun _ => none) (substX env x) = evalX env x := by
  induction x using X.ind with
  | h x ih =>
    by_cases h2 : x.op = 2
    · rw [substX_name h2]
      cases hz : env x.name with
      | none =>
        simp only []
        rw [evalX_eq, evalX_eq env]
        simp [combK, nameK, h2, hz]
      | some z =>
        simp only []
        rw [if_pos (hr _ _ hz), eval_num, evalX_eq env]
        simp [combK, nameK, h2, hz]
    · rw [substX_other h2, evalX_eq, evalX_eq env]
      have hl : (x.l.map (substX env)).map (evalX fun _ => none) = x.l.map (evalX env) := by
        rw [List.map_map]
        exact List.map_congr_left fun y hy => ih y hy
      show combK _ x.op x.name x.n x.w x.v ((x.l.map (substX env)).map (evalX fun _ => none)) = _
      rw [hl]
      simp [combK, h2]
theorem subst_twice {env : ByteArray → Option Int} (x : X) : substX env (substX env x) = substX env x := by
  induction x using X.ind with
  | h x ih =>
    by_cases h2 : x.op = 2
    · have hs := substX_name (env := env) h2
      cases hz : env x.name with
      | none => rw [hz] at hs; simp only [] at hs; rw [hs, hs]
      | some z =>
        rw [hz] at hs
        simp only [] at hs
        by_cases hi : insideK z
        · rw [if_pos hi] at hs
          rw [hs, substX_other (by simp [X.op])]
          rfl
        · rw [if_neg hi] at hs
          rw [hs, hs]
    · have e : substX env x = .mk x.op x.name x.n x.w x.v (x.l.map (substX env)) := substX_other h2
      rw [e, substX_other (show X.op (.mk x.op x.name x.n x.w x.v (x.l.map (substX env))) ≠ 2 from h2)]
      show X.mk x.op x.name x.n x.w x.v ((x.l.map (substX env)).map (substX env)) = _
      rw [List.map_map]
      congr 1
      exact List.map_congr_left fun y hy => ih y hy
theorem subst_none (x : X) : substX (fun _ => none) x = x := by
  induction x using X.ind with
  | h x ih =>
    by_cases h2 : x.op = 2
    · rw [substX_name h2]
    · rw [substX_other h2]
      have : x.l.map (substX fun _ => none) = x.l := by
        conv => rhs; rw [← List.map_id x.l]
        exact List.map_congr_left fun y hy => ih y hy
      rw [this]
      cases x; rfl
theorem size_subst {env : ByteArray → Option Int} (x : X) : sizeX (substX env x) ≤ sizeX x := by
  induction x using X.ind with
  | h x ih =>
    by_cases h2 : x.op = 2
    · rw [substX_name h2]
      cases env x.name with
      | none => exact Nat.le_refl _
      | some z =>
        simp only []
        split
        · rw [sizeX_eq]; have := sizeX_pos x; simp [X.l, msize]; omega
        · exact Nat.le_refl _
    · rw [substX_other h2, sizeX_eq, sizeX_eq x]
      have : ∀ l : List X, (∀ y, y ∈ l → sizeX (substX env y) ≤ sizeX y) → msize sizeX (l.map (substX env)) ≤ msize sizeX l := by
        intro l
        induction l with
        | nil => intro _; exact Nat.le_refl _
        | cons a r ihr =>
          intro h
          have h1 := h a (by simp)
          have h3 := ihr fun y hy => h y (by simp [hy])
          simp only [List.map_cons, msize]
          omega
      have := this x.l ih
      show 1 + msize sizeX (x.l.map (substX env)) ≤ _
      omega
theorem deep_subst {env : ByteArray → Option Int} (x : X) : deepX (substX env x) ≤ deepX x := by
  induction x using X.ind with
  | h x ih =>
    by_cases h2 : x.op = 2
    · rw [substX_name h2]
      cases env x.name with
      | none => exact Nat.le_refl _
      | some z =>
        simp only []
        split
        · rw [deepX_eq, deepX_eq x]; simp [X.l, mdeep]
        · exact Nat.le_refl _
    · rw [substX_other h2, deepX_eq, deepX_eq x]
      have : ∀ l : List X, (∀ y, y ∈ l → deepX (substX env y) ≤ deepX y) → mdeep deepX (l.map (substX env)) ≤ mdeep deepX l := by
        intro l
        induction l with
        | nil => intro _; exact Nat.le_refl _
        | cons a r ihr =>
          intro h
          have h1 := h a (by simp)
          have h3 := ihr fun y hy => h y (by simp [hy])
          simp only [List.map_cons, mdeep]
          omega
      have := this x.l ih
      show 1 + mdeep deepX (x.l.map (substX env)) ≤ _
      omega
theorem may_subst {env : ByteArray → Option Int} (x : X) : MayX x → MayX (substX env x) := by
  induction x using X.ind with
  | h x ih =>
    intro hm
    obtain ⟨⟨h1, h2, h3, h4⟩, hl⟩ := MayX_iff.1 hm
    by_cases hop : x.op = 2
    · rw [substX_name hop]
      cases env x.name with
      | none => exact hm
      | some z =>
        simp only []
        split
        · rename_i hi
          exact .mk _ ⟨.inl ⟨.inl rfl, rfl⟩, .inr (.inr (.inr ⟨(show (1 : Int) ≠ 5 ∧ (1 : Int) ≠ 6 ∧ (1 : Int) ≠ 10 by decide), rfl⟩)), .inr ⟨rfl, (show (0 : Int) ≤ 0 by decide), (show (0 : Int) ≤ 64 by decide), .inl rfl⟩, .inr ⟨(show ¬ isNamed 1 by unfold isNamed; decide), rfl⟩⟩ (fun y hy => by cases hy)
        · exact hm
    · rw [substX_other hop]
      refine MayX_iff.2 ⟨⟨?_, h2, h3, h4⟩, fun y hy => ?_⟩
      · show partsOk x.op (x.l.map (substX env)).length
        rw [List.length_map]; exact h1
      · obtain ⟨y', hy', rfl⟩ := List.mem_map.1 (show y ∈ x.l.map (substX env) from hy)
        exact ih y' hy' (hl y' hy')
theorem vx_subst {env : ByteArray → Option Int} (x : X) : VX x → VX (substX env x) := by
  induction x using X.ind with
  | h x ih =>
    intro hv
    obtain ⟨h1, h2, h3, hl⟩ := VX_iff.1 hv
    by_cases hop : x.op = 2
    · rw [substX_name hop]
      cases env x.name with
      | none => exact hv
      | some z =>
        simp only []
        split
        · rename_i hi
          exact .mk _ hi.1 (show z < 18446744073709551616 by have := hi.2; omega) (show (0 : Nat) < 4294967281 by decide) (fun y hy => by cases hy)
        · exact hv
    · rw [substX_other hop]
      refine VX_iff.2 ⟨h1, h2, h3, fun y hy => ?_⟩
      obtain ⟨y', hy', rfl⟩ := List.mem_map.1 (show y ∈ x.l.map (substX env) from hy)
      exact ih y' hy' (hl y' hy')
end Go.Proofs.YtonbgnaopkopoaaDoor
