/-
  THE NAMES OF AN EXPRESSION, as plain laws.
-/
import Derived.Test.YtjoglnjpgkobeaaGreatDoorWordPk
import Derived.Test.YtjoglnjpgkobeaaGreatDoorPushPk
namespace Go.Proofs.YtjoglnjpgkobeaaGreatDoor
open Go Go.RowKit
set_option linter.all false
set_option linter.unusedVariables false
set_option linter.unusedSimpArgs false
set_option linter.unusedVariables false

/-- Has an expression's kind a name? -/
def hasName (op : Int) : Bool := op == 2 || op == 3 || op == 4
theorem hasName_iff {op : Int} : hasName op = true ↔ isNamed op := by simp [hasName, isNamed, or_assoc]
theorem yes_named (op : Int) : yes (isNamed op) = hasName op := by rw [Bool.eq_iff_iff, yes_iff, hasName_iff]
mutual
/-- All names, as they are come to. -/
def namesX : X → List ByteArray
  | .mk op nm _ _ _ l => (if hasName op then [nm] else []) ++ namesXs l
def namesXs : List X → List ByteArray
  | [] => []
  | x :: r => namesX x ++ namesXs r
 end
theorem namesXs_eq (l : List X) : namesXs l = l.flatMap namesX := by induction l with | nil => rfl | cons x r ih => simp [namesXs, ih]
theorem namesX_eq (x : X) : namesX x = (if hasName x.op then [x.name] else []) ++ x.l.flatMap namesX := by cases x; rw [namesX, namesXs_eq]; rfl
/-- A name behind some, if it is not among them. -/
noncomputable def addOne (o : List ByteArray) (s : ByteArray) : List ByteArray := @ite _ (s ∈ o) (Classical.propDecidable _) o (o ++ [s])
noncomputable def addAll (o : List ByteArray) (l : List ByteArray) : List ByteArray := l.foldl addOne o
theorem addOne_in {o : List ByteArray} {s : ByteArray} (h : s ∈ o) : addOne o s = o := by unfold addOne; rw [if_pos h]
theorem addOne_out {o : List ByteArray} {s : ByteArray} (h : ¬ s ∈ o) : addOne o s = o ++ [s] := by unfold addOne; rw [if_neg h]
theorem addAll_append (o a b : List ByteArray) : addAll o (a ++ b) = addAll (addAll o a) b := by simp [addAll, List.foldl_append]
theorem addAll_nil (o : List ByteArray) : addAll o [] = o := rfl
theorem addAll_one (o : List ByteArray) (s : ByteArray) : addAll o [s] = addOne o s := rfl
theorem addOne_le (o : List ByteArray) (s : ByteArray) : (addOne o s).length ≤ o.length + 1 := by
  by_cases h : s ∈ o
  · rw [addOne_in h]; omega
  · rw [addOne_out h]; simp
theorem addAll_le (l : List ByteArray) : ∀ o : List ByteArray, (addAll o l).length ≤ o.length + l.length := by
  induction l with
  | nil => intro o; simp [addAll]
  | cons s r ih =>
    intro o
    have h1 := ih (addOne o s)
    have h2 := addOne_le o s
    simp only [addAll, List.foldl_cons, List.length_cons] at *
    omega
/-- What an expression hangs on. -/
noncomputable def freeX (x : X) : List ByteArray := addAll [] (namesX x)

end Go.Proofs.YtjoglnjpgkobeaaGreatDoor

/-
  ast.Free's STACK: what its loop holds between two rounds; what the range leaves.
-/
namespace Go.Proofs.YtjoglnjpgkobeaaGreatDoor
open Go Go.RowKit Go.Shelf
set_option linter.all false
set_option linter.unusedVariables false
set_option linter.unusedSimpArgs false
set_option linter.unusedVariables false
set_option linter.unusedSimpArgs false

/-- The stack's cells: the top's last. -/
inductive SR (w0 : World) (B : Nat) : List X → List Value → Prop
  | nil : SR w0 B [] []
  | push (T : List X) (xs : List Value) (x : X) (cs : List Value) (h : SR w0 B T xs) (hr : RX w0 B x cs) : SR w0 B (x :: T) (xs ++ cs)
theorem RX_len {w : World} {B : Nat} {x : X} {cs : List Value} (h : RX w B x cs) : cs.length = 6 := by
  obtain ⟨v, rfl, _⟩ := RX_iff.1 h
  rfl
theorem SR.len {w0 : World} {B : Nat} {T : List X} {xs : List Value} (h : SR w0 B T xs) : xs.length = T.length * 6 := by
  induction h with
  | nil => rfl
  | push T xs x cs h hr ih => rw [List.length_append, ih, RX_len hr, List.length_cons]; omega
theorem SR.pop {w0 : World} {B : Nat} {T : List X} {x : X} {ys : List Value} (h : SR w0 B (x :: T) ys) : ∃ xs cs, ys = xs ++ cs ∧ SR w0 B T xs ∧ RX w0 B x cs := by
  cases h with | push _ xs _ cs h hr => exact ⟨xs, cs, rfl, h, hr⟩
theorem SR.pushAll {w0 : World} {B : Nat} {T : List X} {xs : List Value} (h : SR w0 B T xs) (L : List X) (cs : Nat → List Value) (hc : ∀ i (hi : i < L.length), RX w0 B L[i] (cs i)) :
    ∀ m, m ≤ L.length → SR w0 B (L.drop (L.length - m) ++ T) (xs ++ (dn L.length (L.length - m)).flatMap cs) := by
  intro m
  induction m with
  | zero => intro _; simpa [dn_start] using h
  | succ m ih =>
    intro hm
    have h1 := ih (by omega)
    have hi : L.length - (m + 1) < L.length := by omega
    have e : L.length - (m + 1) + 1 = L.length - m := by omega
    rw [dn_step hi, e, List.drop_eq_getElem_cons hi, e, List.flatMap_append, ← List.append_assoc]
    simpa using SR.push _ _ _ _ h1 (hc _ hi)

/-- The marks of the loops that have ended, each on a block of its own. -/
def Marks (n0 : Nat) (ds : List Deferred) (W : World) : Prop := (∀ d, d ∈ ds → ∃ D, d = { target := .collected D, args := #[] } ∧ n0 ≤ D ∧ W.heap[D]? = some (.deferred (some []))) ∧ ds.Pairwise (· ≠ ·)
theorem Marks.kept {n0 : Nat} {ds : List Deferred} {W W' : World} (h : Marks n0 ds W) (hk : ∀ (D : Nat) (o : Obj), W.heap[D]? = some o → o.isCells = false → W'.heap[D]? = some o) : Marks n0 ds W' :=
  ⟨fun d hd => by obtain ⟨D, h1, h2, h3⟩ := h.1 d hd; exact ⟨D, h1, h2, hk D _ h3 rfl⟩, h.2⟩
theorem Marks.push {n0 : Nat} {ds : List Deferred} {W0 W : World} {D : Nat} (h0 : Marks n0 ds W0) (h : Marks n0 ds W) (hD : W0.heap.size ≤ D) (hn : n0 ≤ D) (hK : W.heap[D]? = some (.deferred (some []))) : Marks n0 ({ target := .collected D, args := #[] } :: ds) W := by
  refine ⟨fun d hd => ?_, List.pairwise_cons.2 ⟨fun d hd e => ?_, h.2⟩⟩
  · rcases List.mem_cons.1 hd with rfl | hd
    · exact ⟨D, rfl, hn, hK⟩
    · exact h.1 d hd
  · obtain ⟨D', h1, _, h3⟩ := h0.1 d hd
    rw [h1] at e
    have : D = D' := by
      injection e with e1
      injection e1
    subst this
    have := (Array.getElem?_eq_some_iff.1 h3).1
    omega

/-- What the loop holds. -/
structure FI (w0 : World) (B n0 bl : Nat) (T : List X) (outs : List ByteArray) (vo : Value) (ds : List Deferred) (sa : Option Addr) (c : Nat) (xs : List Value) (W : World) : Prop where
  box : Boxed W bl 47 (.slice sa T.length c)
  row : W.ownsRow n0 49 6 (.slice sa T.length c) T.length xs
  stk : SR w0 B T xs
  out : W.ownsRow n0 9 1 vo outs.length (outs.map .string)
  below : Below n0 w0 W
  marks : Marks n0 ds W

/-- The stack's row and the texts' row are not one. -/
theorem rows_apart {W : World} {b1 b2 : Nat} {e1 e2 : TypeId} {s1 s2 k1 k2 : Nat} {v1 v2 : Value} {xs1 xs2 : List Value} (h1 : W.ownsRow b1 e1 s1 v1 k1 xs1) (h2 : W.ownsRow b2 e2 s2 v2 k2 xs2) (hne : e1 ≠ e2) : v1.ownBlock = none ∨ v1.ownBlock ≠ v2.ownBlock := by
  rcases row_cells h1 with h | ⟨g, cur, h3, h4⟩
  · exact .inl h
  · right
    intro e
    rcases row_cells h2 with h | ⟨g', cur', h5, h6⟩
    · rw [h3, h] at e; cases e
    · rw [h3, h5] at e
      cases e
      rw [h4] at h6
      cases h6
      exact hne rfl
/-- Chosen values of rows. -/
theorem rows_fun {P : Nat → Value → Value → Value → Value → Value → Value → Prop} (len : Nat) (h : ∀ i, i < len → ∃ a b c d e f, P i a b c d e f) (hz : ∀ i, ¬ i < len → True) :
    ∃ v0 v1 v2 v3 v4 v5 : Nat → Value, (∀ i, i < len → P i (v0 i) (v1 i) (v2 i) (v3 i) (v4 i) (v5 i)) ∧ ∀ i, ¬ i < len → v0 i = .bool false ∧ v1 i = .bool false ∧ v2 i = .bool false ∧ v3 i = .bool false ∧ v4 i = .bool false ∧ v5 i = .bool false := by
  have h' : ∀ i, ∃ q : Value × Value × Value × Value × Value × Value, (i < len → P i q.1 q.2.1 q.2.2.1 q.2.2.2.1 q.2.2.2.2.1 q.2.2.2.2.2) ∧ (¬ i < len → q = (.bool false, .bool false, .bool false, .bool false, .bool false, .bool false)) := fun i => by
    by_cases hi : i < len
    · obtain ⟨a, b, c, d, e, f, hp⟩ := h i hi
      exact ⟨(a, b, c, d, e, f), fun _ => hp, fun hn => (hn hi).elim⟩
    · exact ⟨(.bool false, .bool false, .bool false, .bool false, .bool false, .bool false), fun hn => (hi hn).elim, fun _ => rfl⟩
  refine ⟨fun i => (Classical.choose (h' i)).1, fun i => (Classical.choose (h' i)).2.1, fun i => (Classical.choose (h' i)).2.2.1, fun i => (Classical.choose (h' i)).2.2.2.1, fun i => (Classical.choose (h' i)).2.2.2.2.1, fun i => (Classical.choose (h' i)).2.2.2.2.2, fun i hi => (Classical.choose_spec (h' i)).1 hi, fun i hi => ?_⟩
  have := (Classical.choose_spec (h' i)).2 hi
  exact ⟨congrArg (fun q => q.1) this, congrArg (fun q => q.2.1) this, congrArg (fun q => q.2.2.1) this, congrArg (fun q => q.2.2.2.1) this, congrArg (fun q => q.2.2.2.2.1) this, congrArg (fun q => q.2.2.2.2.2) this⟩

theorem own_keep {W W' : World} {bl : Nat} {v vo : Value} {base : Nat} {e : TypeId} {size k : Nat} {xs : List Value} (q : PKeep bl v W W') (ho : W.ownsRow base e size vo k xs) (hg : ∀ g, vo.ownBlock = some g → g ≠ bl ∧ v.ownBlock ≠ some g) : W'.ownsRow base e size vo k xs := by
  refine ⟨ho.1, ?_⟩
  rcases ho.2 with h0 | ⟨g, cap, cur, rfl, h1, h2, h3⟩
  · exact .inl h0
  · obtain ⟨n1, n2⟩ := hg g rfl
    exact .inr ⟨g, cap, cur, rfl, h1, (q.block g (Array.getElem?_eq_some_iff.1 h2).1 n1 (fun e => n2 e.symm)).trans h2, h3⟩

theorem Ext.grow {W W' : World} (h : Ext W W') : W.grownBy W' none := ⟨h.os, h.tape, h.output, h.size, fun k hk _ => h.block k hk⟩
/-- What holds of the loop's state holds when memory has grown. -/
theorem FI.ext {w0 : World} {B n0 bl : Nat} {T : List X} {outs : List ByteArray} {vo : Value} {ds : List Deferred} {sa : Option Addr} {c : Nat} {xs : List Value} {W W' : World} (h : FI w0 B n0 bl T outs vo ds sa c xs W) (hn : n0 ≤ W.heap.size) (hx : Ext W W') : FI w0 B n0 bl T outs vo ds sa c xs W' :=
  ⟨h.box.kept hx.grow (by simp), h.row.kept hx.grow (by
    rcases row_cells h.row with h0 | ⟨g, cur, h1, h2⟩
    · exact .inl h0
    · exact .inr (by rw [h1]; simp)), h.stk, h.out.kept hx.grow (by
    rcases row_cells h.out with h0 | ⟨g, cur, h1, h2⟩
    · exact .inl h0
    · exact .inr (by rw [h1]; simp)), h.below.trans (Below.mono hx hn), h.marks.kept (fun D o hD _ => (hx.heap (Array.getElem?_eq_some_iff.1 hD).1).trans hD)⟩

theorem FI.pop {w0 : World} {B n0 bl : Nat} {y : X} {T : List X} {outs : List ByteArray} {vo : Value} {ds : List Deferred} {g c : Nat} {xs cs : List Value} {W : World} (h : FI w0 B n0 bl (y :: T) outs vo ds (some ⟨g, 0, none⟩) c (xs ++ cs) W) (hstk : SR w0 B T xs) (hn : n0 ≤ W.heap.size) (hbl : n0 ≤ bl) (o : Obj) :
    FI w0 B n0 bl T outs vo ds (some ⟨g, 0, none⟩) c xs ((W.alloc o).setCell ⟨bl, 0, none⟩ (.slice (some ⟨g, 0, none⟩) T.length c)) := by
  have hb := h.box.alloc o
  have hr : W.ownsRow n0 49 6 (.slice (some ⟨g, 0, none⟩) T.length c) T.length xs := ownsRow_pop hstk.len h.row
  have hr1 := hr.alloc o
  have ho1 := h.out.alloc o
  have hg := grownBy_setCell' (W.alloc o) bl (.slice (some ⟨g, 0, none⟩) T.length c)
  refine ⟨hb.set _, hr1.kept hg (.inr (fun e => (hb.not_row (by decide) hr1) e.symm)), hstk, ho1.kept hg ?_, ?_, ?_⟩
  · rcases row_cells ho1 with h0 | ⟨g', cur, h1, h2⟩
    · exact .inl h0
    · exact .inr (fun e => (hb.not_row (by decide) ho1) e.symm)
  · exact (h.below.alloc hn o).setCell hbl _
  · refine (h.marks.kept (fun D ob hD _ => (Below.heap_alloc W o D (Array.getElem?_eq_some_iff.1 hD).1).trans hD)).kept (fun D ob hD hc => (Below.heap_setCell _ _ _ D (fun e => ?_)).trans hD)
    have e : D = bl := e
    subst e
    rw [show _ = _ from hb] at hD
    cases hD
    cases hc
theorem FI.append {w0 : World} {B n0 bl : Nat} {T : List X} {outs : List ByteArray} {vo vo' : Value} {ds : List Deferred} {sa : Option Addr} {c : Nat} {xs : List Value} {W w5 : World} {o : Obj} {s : ByteArray} (h : FI w0 B n0 bl T outs vo ds sa c xs W) (hn : n0 ≤ W.heap.size)
    (hown : w5.ownsRow n0 9 1 vo' (outs.length + 1) (outs.map .string ++ [.string s])) (hg : (W.alloc o).grownBy w5 vo.ownBlock) : FI w0 B n0 bl T (outs ++ [s]) vo' ds sa c xs w5 := by
  have hb := h.box.alloc o
  have hr1 := h.row.alloc o
  have ho1 := h.out.alloc o
  refine ⟨hb.kept hg (hb.not_row (by decide) ho1), hr1.kept hg (rows_apart hr1 ho1 (by decide)), h.stk, by simpa using hown, (h.below.alloc hn o).grown hg (by simp; omega) (fun k e => (ho1.lt k e).1), ?_⟩
  refine (h.marks.kept (fun D ob hD _ => (Below.heap_alloc W o D (Array.getElem?_eq_some_iff.1 hD).1).trans hD)).kept (fun D ob hD hc => (hg.block D (Array.getElem?_eq_some_iff.1 hD).1 (fun e => ?_)).trans hD)
  rcases row_cells ho1 with h0 | ⟨g', cur, h1, h2⟩
  · rw [h0] at e; cases e
  · rw [h1] at e
    cases e
    rw [h2] at hD
    cases hD
    cases hc

end Go.Proofs.YtjoglnjpgkobeaaGreatDoor
