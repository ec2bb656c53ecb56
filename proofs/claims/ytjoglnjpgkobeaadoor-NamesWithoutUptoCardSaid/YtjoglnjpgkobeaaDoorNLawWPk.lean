/-
  A MODULE MORE IN A FILE OF THE LAW's OWN, IN A REGION THAT DRAWS ITS ORDER: what is known of its values.
-/
import Derived.Test.YtjoglnjpgkobeaaDoorNLivePk
import Derived.Test.YtjoglnjpgkobeaaDoorFactsKPk
namespace Go.Proofs.YtjoglnjpgkobeaaDoor
open Go Go.RowKit
set_option linter.all false
set_option linter.unusedVariables false
set_option linter.unusedSimpArgs false
set_option linter.unusedVariables false
set_option linter.unusedSimpArgs false
attribute [local go_sem] run_store_one

theorem oper_append_flat {P : Program} {w : World} {o : Oper} {a : Act} {K : Act → World → Prop} {Q : Exit → Act → World → Prop} (s x : Operand) (t : TypeId)
    (ho : o.op = .call { callee := .builtin .append, args := #[s, x], argTypes := #[t, t] })
    (base : Nat) (e : TypeId) (i : TypeInfo) (z : Value) (size bytes : Nat) (ht : P.underlying t = some (.slice e)) (hi : P.info? e = some i) (hz : i.zero = some z)
    (hsize : i.size = size) (hby : i.bytes = bytes) (hzs : z.cells.size = size) (hsz : 0 < size) (hb : bytes ≤ 1000)
    (v : Value) (n : Nat) (xs : List Value) (hs : a.eval s = v) (hown : w.ownsRow base e size v n xs)
    (A : Option Addr) (m c : Nat) (news : List Value) (hx : a.eval x = .slice A m c) (hr : Flat w size A m news)
    (hn : n ≤ 1000000000) (hm : m ≤ 1000000000) (hbase : base ≤ w.heap.size)
    (h : ∀ v' w', w'.ownsRow base e size v' (n + m) (xs ++ news) → w.grownBy w' v.ownBlock → (∀ g, v'.ownBlock = some g → v.ownBlock = some g ∨ w.heap.size ≤ g) → K (a.put o.dst v') w') : o.wp P a w K Q := by
  obtain ⟨v', w', hrun, h2, h3, h4⟩ := run_append_flat (P := P) w base t o.type e i z size bytes ht hi hz hsize hby hzs hsz hb v n xs hown A m c news hr hn hm hbase
  unfold Oper.wp execOp
  simp only [ho, resolve, invoke, builtin, Sem.run_bind, Sem.run_pure, Result.andThen_ok, List.map_toArray, List.map_cons, List.map_nil, hs, hx, hrun]
  exact h v' w' h2 h3 h4
theorem row_form {w : World} {base : Nat} {t : TypeId} {sz n : Nat} {v : Value} {xs : List Value} (h : w.ownsRow base t sz v n xs) : ∃ a cap, v = .slice a n cap := by
  rcases h.2 with ⟨rfl, rfl⟩ | ⟨g, cap, cur, rfl, -⟩ <;> exact ⟨_, _, rfl⟩
theorem row_later {w w' : World} {base : Nat} {e : TypeId} {sz n : Nat} {v : Value} {xs : List Value} (h : w.ownsRow base e sz v n xs) (hx : Ext w w') : w'.ownsRow base e sz v n xs :=
  h.kept (Ext.grow hx) (by cases v.ownBlock <;> simp)
theorem infoM : (Tryd.prog.info? 36).map (fun i => (i.zero, i.size, i.bytes)) = some (some (.agg #[.string ⟨#[]⟩, .slice none 0 0, .slice none 0 0, .slice none 0 0]), 4, 88) := by kernel_rfl

/-- What is known of the values. -/
def addF (N0 : Nat) (ob fb : Nat) (vr vf : Value) (k n : Nat) (p : Addr) (cs : List Value) (i : Nat) (v : Value) (w : World) : Prop := match i with
  | 0 => v = .pointer (some ⟨ob, 0, none⟩)
  | 1 => v = vr
  | 2 => v = .pointer (some ⟨fb, 0, none⟩)
  | 3 => v = vf
  | 4 => v = .int .i64 k
  | 5 => v = .pointer (some p)
  | 6 => v = .agg cs.toArray
  | 7 => ∃ g, v = .slice (some ⟨g, 0, none⟩) 1 1 ∧ N0 ≤ g ∧ Blk w g 36 cs
  | 8 => ∃ a c, v = .slice a (n + 1) c
  | 9 => v = .pointer (some ⟨ob, 0, none⟩)
  | _ => True
/-- What every operation keeps: the row, the box. -/
def addJ (N0 base ob t : Nat) (vr : Value) (n : Nat) (news cs : List Value) (L : Nat → Bool) (τ : Tmp → Value) (w : World) : Prop :=
  (L 8 = false → w.ownsRow base 36 4 vr n news) ∧ (L 8 = true → w.ownsRow base 36 4 (τ t) (n + 1) (news ++ cs)) ∧
  (L 10 = false → Blk w ob 24 [vr]) ∧ (L 10 = true → (L 1 = true ∧ L 8 = true) ∧ Blk w ob 24 [τ t]) ∧ N0 ≤ w.heap.size
theorem addF_other {N0 : Nat} {ob fb : Nat} {vr vf : Value} {k n : Nat} {p : Addr} {cs : List Value} {i : Nat} {v : Value} (w w' : World) (hi : i ≠ 7) (h : addF N0 ob fb vr vf k n p cs i v w) : addF N0 ob fb vr vf k n p cs i v w' := by
  unfold addF at h ⊢
  split at h <;> first | exact h | exact absurd rfl hi
theorem addF_ext {N0 : Nat} {ob fb : Nat} {vr vf : Value} {k n : Nat} {p : Addr} {cs : List Value} {i : Nat} {v : Value} {w w' : World} (h : addF N0 ob fb vr vf k n p cs i v w) (hx : Ext w w') : addF N0 ob fb vr vf k n p cs i v w' := by
  by_cases hi : i = 7
  · subst hi
    obtain ⟨g, h1, h2, h3⟩ := h
    exact ⟨g, h1, h2, h3.ext hx⟩
  · exact addF_other _ _ hi h
theorem addF_grown {N0 : Nat} {ob fb : Nat} {vr vf : Value} {k n : Nat} {p : Addr} {cs : List Value} {i : Nat} {v : Value} {w w' : World} {r : Option Nat} (h : addF N0 ob fb vr vf k n p cs i v w) (hg : w.grownBy w' r) (hr : ∀ g, r = some g → g < N0) : addF N0 ob fb vr vf k n p cs i v w' := by
  by_cases hi : i = 7
  · subst hi
    obtain ⟨g, h1, h2, h3⟩ := h
    refine ⟨g, h1, h2, ?_⟩
    have : r ≠ some g := fun e => by have := hr g e; omega
    exact (hg.block g h3.lt this.symm).trans h3
  · exact addF_other _ _ hi h
theorem addJ_looks (N0 base ob t : Nat) (vr : Value) (n : Nat) (news cs : List Value) : Looks (addJ N0 base ob t vr n news cs) [1, 8, 10] [t] := by
  intro L L' τ τ' w w' hL hτ hx ⟨h1, h2, h3, h4, h5⟩
  have e1 : L' 1 = L 1 := hL 1 (by simp)
  have e8 : L' 8 = L 8 := hL 8 (by simp)
  have e10 : L' 10 = L 10 := hL 10 (by simp)
  have et : τ' t = τ t := hτ t (by simp)
  unfold addJ
  rw [e1, e8, e10, et]
  exact ⟨fun h => row_later (h1 h) hx, fun h => row_later (h2 h) hx, fun h => (h3 h).ext hx, fun h => ⟨(h4 h).1, (h4 h).2.ext hx⟩, Nat.le_trans h5 hx.size⟩
/-- The load of the row. -/
theorem addJ_load {N0 base ob t : Nat} {vr : Value} {n : Nat} {news cs : List Value} {L : Nat → Bool} {A : Act} {d : Option Tmp} {v : Value} {w : World} (hd : d ≠ some t) (h : addJ N0 base ob t vr n news cs L (tau A) w) : addJ N0 base ob t vr n news cs (fun j => L j || j == 1) (tau (A.put d v)) w := by
  obtain ⟨h1, h2, h3, h4, h5⟩ := h
  unfold addJ
  rw [or_beq_ne (by decide), or_beq_ne (by decide), or_beq_eq, tau_put hd]
  exact ⟨h1, h2, h3, fun h => ⟨⟨rfl, (h4 h).1.2⟩, (h4 h).2⟩, h5⟩
theorem addJ_no10 {N0 base ob t : Nat} {vr : Value} {n : Nat} {news cs : List Value} {L : Nat → Bool} {τ : Tmp → Value} {w : World} (h : addJ N0 base ob t vr n news cs L τ w) (h1 : L 1 = false ∨ L 8 = false) : L 10 = false := by
  cases h10 : L 10 with
  | false => rfl
  | true =>
    have := (h.2.2.2.1 h10).1
    rcases h1 with h1 | h1
    · rw [this.1] at h1; cases h1
    · rw [this.2] at h1; cases h1
/-- The block of the new one. -/
theorem addJ_new {N0 base ob t : Nat} {vr : Value} {n : Nat} {news cs : List Value} {L : Nat → Bool} {A : Act} {d : Option Tmp} {v : Value} {w w' : World} (hd : d ≠ some t) (hx : Ext w w') (h : addJ N0 base ob t vr n news cs L (tau A) w) : addJ N0 base ob t vr n news cs (fun j => L j || j == 7) (tau (A.put d v)) w' :=
  addJ_looks N0 base ob t vr n news cs L _ _ _ w w' (fun s hs => by
    have : s = 1 ∨ s = 8 ∨ s = 10 := by simpa using hs
    exact or_beq_ne (by rcases this with rfl | rfl | rfl <;> rfl)) (fun s hs => by rw [List.mem_singleton.1 hs]; exact tau_put hd) hx h
/-- The append. -/
theorem addJ_append {N0 base ob t : Nat} {vr : Value} {n : Nat} {news cs : List Value} {L : Nat → Bool} {A : Act} {v8 : Value} {w w8 : World} (ht : t < A.tmps.size) (hob : ob < base) (h8 : L 8 = false) (h : addJ N0 base ob t vr n news cs L (tau A) w)
    (hown : w8.ownsRow base 36 4 v8 (n + 1) (news ++ cs)) (hg : w.grownBy w8 vr.ownBlock) : addJ N0 base ob t vr n news cs (fun j => L j || j == 8) (tau (A.put (some t) v8)) w8 := by
  have h10 := addJ_no10 h (.inr h8)
  obtain ⟨h1, h2, h3, h4, h5⟩ := h
  have hne : vr.ownBlock ≠ some ob := fun e => by have := ((h1 h8).lt ob e).1; omega
  unfold addJ
  rw [or_beq_eq, or_beq_ne (by decide), or_beq_ne (by decide), tau_here ht, h10]
  refine ⟨fun h => (by cases h), fun _ => hown, fun _ => ?_, fun h => (by cases h), Nat.le_trans h5 hg.size⟩
  exact (hg.block ob (h3 h10).lt hne.symm).trans (h3 h10)
/-- The store. -/
theorem addJ_store {N0 base ob t : Nat} {vr : Value} {n : Nat} {news cs : List Value} {L : Nat → Bool} {A : Act} {v8 : Value} {w : World} (hv : tau A t = v8) (hob : ob < base) (h10 : L 10 = false) (h1 : L 1 = true) (h8 : L 8 = true) (h : addJ N0 base ob t vr n news cs L (tau A) w) :
    addJ N0 base ob t vr n news cs (fun j => L j || j == 10) (tau A) (w.setCell ⟨ob, 0, none⟩ v8) := by
  obtain ⟨g1, g2, g3, g4, g5⟩ := h
  have hrow := g2 h8
  rw [hv] at hrow
  unfold addJ
  rw [or_beq_eq, or_beq_ne (by decide), or_beq_ne (by decide), hv, h8, h1]
  refine ⟨fun h => (by cases h), fun _ => hrow.kept (setCell_grown w ob 0 v8) (.inr fun e => ?_), fun h => (by cases h), fun _ => ⟨⟨rfl, rfl⟩, (g3 h10).store1 _⟩, ?_⟩
  · have := (hrow.lt ob e).1; omega
  · exact Nat.le_trans g5 (setCell_grown w ob 0 v8).size

end Go.Proofs.YtjoglnjpgkobeaaDoor
