/-
  A MODULE MORE IN A FILE OF THE LAW's OWN, IN A REGION THAT DRAWS ITS ORDER: what is known of its values.
-/
import Derived.Test.YtjoglnjpgkobeaaGreatDoorFewPk
import Derived.Test.YtjoglnjpgkobeaaGreatDoorFactsKPk
import Derived.Test.YtjoglnjpgkobeaaGreatDoorNLawXPk
import Derived.Test.YtjoglnjpgkobeaaGreatDoorRToldPPk
import Derived.Test.YtjoglnjpgkobeaaGreatDoorAppPk
namespace Go.Proofs.YtjoglnjpgkobeaaGreatDoor
open Go Go.RowKit
set_option linter.all false
set_option linter.unusedVariables false
set_option linter.unusedSimpArgs false
set_option linter.unusedVariables false
set_option linter.unusedSimpArgs false
attribute [local go_sem] run_store_one

theorem oper_append_flat {P : Program} {w : World} {o : Oper} {a : Act} {K : Act → World → Prop} {Q : Exit → Act → World → Prop} (s x : Operand) (t : TypeId)
    (ho : o.op = .call { callee := .builtin .append, args := #[s, x], argTypes := #[t, t] })
    (base : Nat) (e : TypeId) (i : TypeInfo) (z : Value) (size bytes : Nat) (ht : P.underlying t = some (.slice e)) (hi : P.info? e = some i) (hz : i.zero = some z)
    (hsize : i.size = size) (hby : i.bytes = bytes) (hzs : z.cells.size = size) (hsz : 0 < size) (hb : bytes ≤ 1000)
    (v : Value) (n : Nat) (xs : List Value) (hs : a.eval s = v) (hown : w.ownsRow base e size v n xs)
    (A : Option Addr) (m c : Nat) (news : List Value) (hx : a.eval x = .slice A m c) (hr : Flat w size A m news)
    (hn : n ≤ 1000000000) (hm : m ≤ 1000000000) (hbase : base ≤ w.heap.size)
    (h : ∀ v' w', w'.ownsRow base e size v' (n + m) (xs ++ news) → w.grownBy w' v.ownBlock → (∀ g, v'.ownBlock = some g → v.ownBlock = some g ∨ w.heap.size ≤ g) → K (a.put o.dst v') w') : o.wp P a w K Q := by
  obtain ⟨v', w', hrun, h2, h3, h4⟩ := run_append_flat (P := P) w base t o.type e i z size bytes ht hi hz hsize hby hzs hsz hb v n xs hown A m c news hr hn hm hbase
  unfold Oper.wp execOp
  simp only [ho, resolve, invoke, builtin, Sem.run_bind, Sem.run_pure, Result.andThen_ok, List.map_toArray, List.map_cons, List.map_nil, hs, hx, hrun]
  exact h v' w' h2 h3 h4
theorem row_form {w : World} {base : Nat} {t : TypeId} {sz n : Nat} {v : Value} {xs : List Value} (h : w.ownsRow base t sz v n xs) : ∃ a cap, v = .slice a n cap := by
  rcases h.2 with ⟨rfl, rfl⟩ | ⟨g, cap, cur, rfl, -⟩ <;> exact ⟨_, _, rfl⟩
theorem row_later {w w' : World} {base : Nat} {e : TypeId} {sz n : Nat} {v : Value} {xs : List Value} (h : w.ownsRow base e sz v n xs) (hx : Ext w w') : w'.ownsRow base e sz v n xs :=
  h.kept (Ext.grow hx) (by cases v.ownBlock <;> simp)
theorem infoM : (Tryz.prog.info? 33).map (fun i => (i.zero, i.size, i.bytes)) = some (some (.agg #[.string ⟨#[]⟩, .slice none 0 0, .slice none 0 0, .slice none 0 0]), 4, 88) := by kernel_rfl

/-- What is known of the values. -/
def addF (N0 : Nat) (ob fb : Nat) (vr vf : Value) (k n : Nat) (p : Addr) (cs : List Value) (i : Nat) (v : Value) (w : World) : Prop := match i with
  | 0 => v = .pointer (some ⟨ob, 0, none⟩)
  | 1 => v = vr
  | 2 => v = .pointer (some ⟨fb, 0, none⟩)
  | 3 => v = vf
  | 4 => v = .int .i64 k
  | 5 => v = .pointer (some p)
  | 6 => v = .agg cs.toArray
  | 7 => ∃ g, v = .slice (some ⟨g, 0, none⟩) 1 1 ∧ N0 ≤ g ∧ Blk w g 33 cs
  | 8 => ∃ a c, v = .slice a (n + 1) c
  | 9 => v = .pointer (some ⟨ob, 0, none⟩)
  | _ => True
/-- What every operation keeps: the row, the box. -/
def addJ (N0 base ob t : Nat) (vr : Value) (n : Nat) (news cs : List Value) (L : Nat → Bool) (τ : Tmp → Value) (w : World) : Prop :=
  (L 8 = false → w.ownsRow base 33 4 vr n news) ∧ (L 8 = true → w.ownsRow base 33 4 (τ t) (n + 1) (news ++ cs)) ∧
  (L 10 = false → Blk w ob 24 [vr]) ∧ (L 10 = true → (L 1 = true ∧ L 8 = true) ∧ Blk w ob 24 [τ t]) ∧ N0 ≤ w.heap.size
theorem addF_other {N0 : Nat} {ob fb : Nat} {vr vf : Value} {k n : Nat} {p : Addr} {cs : List Value} {i : Nat} {v : Value} (w w' : World) (hi : i ≠ 7) (h : addF N0 ob fb vr vf k n p cs i v w) : addF N0 ob fb vr vf k n p cs i v w' := by
  unfold addF at h ⊢
  split at h <;> first | exact h | exact absurd rfl hi
theorem addF_ext {N0 : Nat} {ob fb : Nat} {vr vf : Value} {k n : Nat} {p : Addr} {cs : List Value} {i : Nat} {v : Value} {w w' : World} (h : addF N0 ob fb vr vf k n p cs i v w) (hx : Ext w w') : addF N0 ob fb vr vf k n p cs i v w' := by
  by_cases hi : i = 7
  · subst hi
    obtain ⟨g, h1, h2, h3⟩ := h
    exact ⟨g, h1, h2, h3.ext hx⟩
  · exact addF_other _ _ hi h
theorem addF_grown {N0 : Nat} {ob fb : Nat} {vr vf : Value} {k n : Nat} {p : Addr} {cs : List Value} {i : Nat} {v : Value} {w w' : World} {r : Option Nat} (h : addF N0 ob fb vr vf k n p cs i v w) (hg : w.grownBy w' r) (hr : ∀ g, r = some g → g < N0) : addF N0 ob fb vr vf k n p cs i v w' := by
  by_cases hi : i = 7
  · subst hi
    obtain ⟨g, h1, h2, h3⟩ := h
    refine ⟨g, h1, h2, ?_⟩
    have : r ≠ some g := fun e => by have := hr g e; omega
    exact (hg.block g h3.lt this.symm).trans h3
  · exact addF_other _ _ hi h
theorem addJ_looks (N0 base ob t : Nat) (vr : Value) (n : Nat) (news cs : List Value) : Looks (addJ N0 base ob t vr n news cs) [1, 8, 10] [t] := by
  intro L L' τ τ' w w' hL hτ hx ⟨h1, h2, h3, h4, h5⟩
  have e1 : L' 1 = L 1 := hL 1 (by simp)
  have e8 : L' 8 = L 8 := hL 8 (by simp)
  have e10 : L' 10 = L 10 := hL 10 (by simp)
  have et : τ' t = τ t := hτ t (by simp)
  unfold addJ
  rw [e1, e8, e10, et]
  exact ⟨fun h => row_later (h1 h) hx, fun h => row_later (h2 h) hx, fun h => (h3 h).ext hx, fun h => ⟨(h4 h).1, (h4 h).2.ext hx⟩, Nat.le_trans h5 hx.size⟩
/-- The load of the row. -/
theorem addJ_load {N0 base ob t : Nat} {vr : Value} {n : Nat} {news cs : List Value} {L : Nat → Bool} {A : Act} {d : Option Tmp} {v : Value} {w : World} (hd : d ≠ some t) (h : addJ N0 base ob t vr n news cs L (tau A) w) : addJ N0 base ob t vr n news cs (fun j => L j || j == 1) (tau (A.put d v)) w := by
  obtain ⟨h1, h2, h3, h4, h5⟩ := h
  unfold addJ
  rw [or_beq_ne (by decide), or_beq_ne (by decide), or_beq_eq, tau_put hd]
  exact ⟨h1, h2, h3, fun h => ⟨⟨rfl, (h4 h).1.2⟩, (h4 h).2⟩, h5⟩
theorem addJ_no10 {N0 base ob t : Nat} {vr : Value} {n : Nat} {news cs : List Value} {L : Nat → Bool} {τ : Tmp → Value} {w : World} (h : addJ N0 base ob t vr n news cs L τ w) (h1 : L 1 = false ∨ L 8 = false) : L 10 = false := by
  cases h10 : L 10 with
  | false => rfl
  | true =>
    have := (h.2.2.2.1 h10).1
    rcases h1 with h1 | h1
    · rw [this.1] at h1; cases h1
    · rw [this.2] at h1; cases h1
/-- The block of the new one. -/
theorem addJ_new {N0 base ob t : Nat} {vr : Value} {n : Nat} {news cs : List Value} {L : Nat → Bool} {A : Act} {d : Option Tmp} {v : Value} {w w' : World} (hd : d ≠ some t) (hx : Ext w w') (h : addJ N0 base ob t vr n news cs L (tau A) w) : addJ N0 base ob t vr n news cs (fun j => L j || j == 7) (tau (A.put d v)) w' :=
  addJ_looks N0 base ob t vr n news cs L _ _ _ w w' (fun s hs => by
    have : s = 1 ∨ s = 8 ∨ s = 10 := by simpa using hs
    exact or_beq_ne (by rcases this with rfl | rfl | rfl <;> rfl)) (fun s hs => by rw [List.mem_singleton.1 hs]; exact tau_put hd) hx h
/-- The append. -/
theorem addJ_append {N0 base ob t : Nat} {vr : Value} {n : Nat} {news cs : List Value} {L : Nat → Bool} {A : Act} {v8 : Value} {w w8 : World} (ht : t < A.tmps.size) (hob : ob < base) (h8 : L 8 = false) (h : addJ N0 base ob t vr n news cs L (tau A) w)
    (hown : w8.ownsRow base 33 4 v8 (n + 1) (news ++ cs)) (hg : w.grownBy w8 vr.ownBlock) : addJ N0 base ob t vr n news cs (fun j => L j || j == 8) (tau (A.put (some t) v8)) w8 := by
  have h10 := addJ_no10 h (.inr h8)
  obtain ⟨h1, h2, h3, h4, h5⟩ := h
  have hne : vr.ownBlock ≠ some ob := fun e => by have := ((h1 h8).lt ob e).1; omega
  unfold addJ
  rw [or_beq_eq, or_beq_ne (by decide), or_beq_ne (by decide), tau_here ht, h10]
  refine ⟨fun h => (by cases h), fun _ => hown, fun _ => ?_, fun h => (by cases h), Nat.le_trans h5 hg.size⟩
  exact (hg.block ob (h3 h10).lt hne.symm).trans (h3 h10)
/-- The store. -/
theorem addJ_store {N0 base ob t : Nat} {vr : Value} {n : Nat} {news cs : List Value} {L : Nat → Bool} {A : Act} {v8 : Value} {w : World} (hv : tau A t = v8) (hob : ob < base) (h10 : L 10 = false) (h1 : L 1 = true) (h8 : L 8 = true) (h : addJ N0 base ob t vr n news cs L (tau A) w) :
    addJ N0 base ob t vr n news cs (fun j => L j || j == 10) (tau A) (w.setCell ⟨ob, 0, none⟩ v8) := by
  obtain ⟨g1, g2, g3, g4, g5⟩ := h
  have hrow := g2 h8
  rw [hv] at hrow
  unfold addJ
  rw [or_beq_eq, or_beq_ne (by decide), or_beq_ne (by decide), hv, h8, h1]
  refine ⟨fun h => (by cases h), fun _ => hrow.kept (setCell_grown w ob 0 v8) (.inr fun e => ?_), fun h => (by cases h), fun _ => ⟨⟨rfl, rfl⟩, (g3 h10).store1 _⟩, ?_⟩
  · have := (hrow.lt ob e).1; omega
  · exact Nat.le_trans g5 (setCell_grown w ob 0 v8).size

end Go.Proofs.YtjoglnjpgkobeaaGreatDoor

/-
  THE LAWS OF NAMES: put: a file with items more behind those of a module; wire.
-/
namespace Go.Proofs.YtjoglnjpgkobeaaGreatDoor
open Go Go.RowKit
set_option linter.all false
set_option linter.unusedVariables false
set_option linter.unusedSimpArgs false
set_option linter.unusedVariables false
set_option linter.unusedSimpArgs false
attribute [local go_sem] run_store_one

theorem OwnL.kept {α : Type} {R : α → List Value → Prop} {base : Nat} {e : TypeId} {sz : Nat} {l : List α} {v : Value} {X Y : World} {r : Option Nat} (h : OwnL R base e sz l v X) (hg : X.grownBy Y r) (hr : ∀ b, r = some b → v.ownBlock ≠ some b) : OwnL R base e sz l v Y := by
  obtain ⟨xs, h1, h2⟩ := h.ex
  refine ⟨xs, h1.kept hg ?_, h2⟩
  cases hv : v.ownBlock with
  | none => exact .inl rfl
  | some b => exact .inr fun e => hr b e.symm hv
theorem putM_len (f : List Mdl) (k : Nat) (l : List Itm) : (putM f k l).length = f.length := by simp [putM]
theorem putM_step {f : List Mdl} {k i : Nat} {l : List Itm} (hi : i < f.length) : (putM f k l).take (i + 1) = (putM f k l).take i ++ [if i = k then ⟨f[i].name, f[i].params, f[i].ports, f[i].items ++ l⟩ else f[i]] := by
  rw [List.take_succ_eq_append_getElem (by rw [putM_len]; exact hi)]
  simp [putM]
/-- A module of the file, or the one with items more. -/
def RPut (w : World) (B : Nat) (d : Prop) (x : Mdl) (l : List Itm) (v1 v2 vi : Value) (m : Mdl) (cs : List Value) : Prop := RM w B m cs ∨ d ∧ m = ⟨x.name, x.params, x.ports, x.items ++ l⟩ ∧ cs = [.string x.name, v1, v2, vi] ∧ Sl (RB w B) w B 7 x.params v1 ∧ Sl (RP w B) w B 8 x.ports v2
/-- What the loop keeps. -/
structure PutI (w : World) (B : Nat) (f : List Mdl) (k : Nat) (l : List Itm) (x : Mdl) (i : Nat) (X : World) : Prop where
  ext : Ext w X
  ex : ∃ v v1 v2 vi, Blk X (w.heap.size) 24 [v] ∧ OwnL (RPut w B (k < i) x l v1 v2 vi) (w.heap.size + 1) 33 4 ((putM f k l).take i) v X ∧
    (k < i → OwnL (RI w B) (w.heap.size + 1) 53 9 (x.items ++ l) vi X ∧ ∀ b, vi.ownBlock = some b → v.ownBlock ≠ some b)
theorem OwnL.lower {α : Type} {R : α → List Value → Prop} {base base' : Nat} {e : TypeId} {sz : Nat} {l : List α} {v : Value} {X : World} (h : OwnL R base e sz l v X) (hb : base' ≤ base) : OwnL R base' e sz l v X := by
  obtain ⟨xs, h1, h2⟩ := h.ex
  refine ⟨xs, ⟨h1.1, ?_⟩, h2⟩
  rcases h1.2 with h3 | ⟨g, cap, cur, h3, h4, h5⟩
  · exact .inl h3
  · exact .inr ⟨g, cap, cur, h3, Nat.le_trans hb h4, h5⟩
theorem wpList_append_own2 {α : Type} {R : α → List Value → Prop} {P : Program} {w : World} {ops : Array Oper} {rest : List Oper} {o : Oper} {a : Act} {Q : Exit → Act → World → Prop} (hgd : o.guard = none) (s x : Operand) (t : TypeId)
    (ho : o.op = .call { callee := .builtin .append, args := #[s, x], argTypes := #[t, t] })
    (base : Nat) (e : TypeId) (z : Value) (size bytes : Nat) (hi : (P.info? e).map (fun i => (i.zero, i.size, i.bytes)) = some (some z, size, bytes)) (ht : P.underlying t = some (.slice e))
    (hzs : z.cells.size = size) (hsz : 0 < size) (hb : bytes ≤ 1000)
    (l r : List α) (v : Value) (hs : a.eval s = v) (hown : OwnL R base e size l v w)
    (A : Option Addr) (c : Nat) (ys : List Value) (hx : a.eval x = .slice A r.length c) (hr : Flat w size A r.length ys) (hy : Fl R size r ys)
    (hn : l.length ≤ 1000000000) (hm : r.length ≤ 1000000000) (hbase : base ≤ w.heap.size)
    (h : ∀ v' w', OwnL R base e size (l ++ r) v' w' → w.grownBy w' v.ownBlock → (∀ g, v.ownBlock = some g → base ≤ g ∧ g < w.heap.size) → (∀ g, v'.ownBlock = some g → v.ownBlock = some g ∨ w.heap.size ≤ g) → wpList P ops Q rest (a.put o.dst v') w') : wpList P ops Q (o :: rest) a w := by
  obtain ⟨xs, h1, h2⟩ := hown.ex
  obtain ⟨ti, hti, htz, hts, htb⟩ := info_parts hi
  refine wpList_append_flat hgd s x t ho base e ti z size bytes ht hti htz hts htb hzs hsz hb v l.length xs hs h1 A r.length c ys hx hr hn hm hbase ?_
  intro v' w' hown' hg hf
  exact h v' w' ⟨xs ++ ys, by rw [List.length_append]; exact hown', h2.append hy⟩ hg (fun g hg => h1.lt g hg) hf
theorem RPut.turn {w : World} {B : Nat} {d d' : Prop} {x : Mdl} {l : List Itm} {v1 v2 vi v1' v2' vi' : Value} {m : Mdl} {cs : List Value} (h : RPut w B d x l v1 v2 vi m cs) (hd : ¬ d) : RPut w B d' x l v1' v2' vi' m cs := by
  rcases h with h | h
  · exact .inl h
  · exact absurd h.1 hd
theorem RPut.on {w : World} {B : Nat} {d d' : Prop} {x : Mdl} {l : List Itm} {v1 v2 vi : Value} {m : Mdl} {cs : List Value} (h : RPut w B d x l v1 v2 vi m cs) (hd : d → d') : RPut w B d' x l v1 v2 vi m cs := by
  rcases h with h | h
  · exact .inl h
  · exact .inr ⟨hd h.1, h.2⟩
/-- What stands ahead of the append of a round. -/
structure PutB (w : World) (B : Nat) (f : List Mdl) (k : Nat) (l : List Itm) (x : Mdl) (i : Nat) (v v1 v2 vi : Value) (X : World) : Prop where
  ext : Ext w X
  box : Blk X (w.heap.size) 24 [v]
  row : OwnL (RPut w B (k < i + 1) x l v1 v2 vi) (w.heap.size + 1) 33 4 ((putM f k l).take i) v X
  itm : k < i + 1 → OwnL (RI w B) (w.heap.size + 1) 53 9 (x.items ++ l) vi X ∧ ∀ b, vi.ownBlock = some b → v.ownBlock ≠ some b
  big : w.heap.size + 1 ≤ X.heap.size
theorem PutB.later {w : World} {B : Nat} {f : List Mdl} {k : Nat} {l : List Itm} {x : Mdl} {i : Nat} {v v1 v2 vi : Value} {X Y : World} (h : PutB w B f k l x i v v1 v2 vi X) (hx : Ext X Y) : PutB w B f k l x i v v1 v2 vi Y :=
  ⟨h.ext.trans hx, h.box.ext hx, h.row.later hx, fun hk => ⟨(h.itm hk).1.later hx, (h.itm hk).2⟩, Nat.le_trans h.big hx.size⟩
theorem PutB.push {w : World} {B : Nat} {f : List Mdl} {k : Nat} {l : List Itm} {x : Mdl} {i : Nat} {v v1 v2 vi v' : Value} {X Y : World} {m : Mdl} (h : PutB w B f k l x i v v1 v2 vi X) (hm : (putM f k l).take (i + 1) = (putM f k l).take i ++ [m])
    (hown : OwnL (RPut w B (k < i + 1) x l v1 v2 vi) (w.heap.size + 1) 33 4 ((putM f k l).take i ++ [m]) v' Y) (hg : X.grownBy Y v.ownBlock) (hf : ∀ g, v'.ownBlock = some g → v.ownBlock = some g ∨ X.heap.size ≤ g) :
    (Y.cell? ⟨w.heap.size, 0, none⟩ = some v ∧ Y.frozen? ⟨w.heap.size, 0, none⟩ = false) ∧ PutI w B f k l x (i + 1) (Y.setCell ⟨w.heap.size, 0, none⟩ v') := by
  have hge : ∀ b, v.ownBlock = some b → w.heap.size + 1 ≤ b := fun b hb => (h.row.lt b hb).1
  have hbx := blk_beside h.box hg (fun b hb => by have := hge b hb; omega)
  refine ⟨⟨hbx.get1, hbx.free1⟩, ?_, v', v1, v2, vi, hbx.store1 v', ?_, fun hk => ?_⟩
  · exact (h.ext.grown hg (fun b hb => by have := hge b hb; omega)).setCell (Nat.le_refl _) _
  · rw [hm]
    exact hown.beside (setCell_grown _ _ _ _) (fun b hb => by cases hb; omega)
  · obtain ⟨h1, h2⟩ := h.itm hk
    have h3 := h1.kept hg (fun b hb e => h2 b e hb)
    refine ⟨h3.beside (setCell_grown _ _ _ _) (fun b hb => by cases hb; omega), fun b hb e => ?_⟩
    rcases hf b e with hf | hf
    · exact h2 b hb hf
    · have := (h1.lt b hb).2
      omega

theorem OwnL.same {α : Type} {R : α → List Value → Prop} {base : Nat} {e : TypeId} {sz : Nat} {l : List α} {v : Value} {X Y : World} (h : OwnL R base e sz l v X) (hY : ∀ b, v.ownBlock = some b → Y.heap[b]? = X.heap[b]?) : OwnL R base e sz l v Y := by
  obtain ⟨xs, h1, h2⟩ := h.ex
  refine ⟨xs, ⟨h1.1, ?_⟩, h2⟩
  rcases h1.2 with h3 | ⟨g, cap, cur, rfl, h4, h5, h6⟩
  · exact .inl h3
  · exact .inr ⟨g, cap, cur, rfl, h4, (hY g rfl).trans h5, h6⟩
/-- What holds in every world that has, as they were, the blocks below B and those from s to e. -/
def Held (Q : World → Prop) (B s e : Nat) (w : World) : Prop := e ≤ w.heap.size ∧ ∀ Y : World, w.heap.size ≤ Y.heap.size → (∀ b, b < B → Y.heap[b]? = w.heap[b]?) → (∀ b, s ≤ b → b < e → Y.heap[b]? = w.heap[b]?) → Q Y
theorem Held.now {Q : World → Prop} {B s e : Nat} {w : World} (h : Held Q B s e w) : Q w := h.2 w (Nat.le_refl _) (fun _ _ => rfl) (fun _ _ _ => rfl)
theorem Held.ext {Q : World → Prop} {B s e : Nat} {w w' : World} (h : Held Q B s e w) (hx : Ext w w') (hB : B ≤ w.heap.size) : Held Q B s e w' :=
  ⟨Nat.le_trans h.1 hx.size, fun Y h0 h1 h2 => h.2 Y (Nat.le_trans hx.size h0) (fun b hb => (h1 b hb).trans (hx.heap (by omega))) (fun b hb he => (h2 b hb he).trans (hx.heap (Nat.lt_of_lt_of_le he h.1)))⟩
theorem Held.beside {Q : World → Prop} {B s e g : Nat} {w w' : World} (h : Held Q B s e w) (hg : w.grownBy w' (some g)) (hB : B ≤ g) (hBw : B ≤ w.heap.size) (hse : g < s ∨ e ≤ g) : Held Q B s e w' :=
  ⟨Nat.le_trans h.1 hg.size, fun Y h0 h1 h2 => h.2 Y (Nat.le_trans hg.size h0) (fun b hb => (h1 b hb).trans (hg.block b (by omega) (fun e => by injection e with e; omega))) (fun b hb he => (h2 b hb he).trans (hg.block b (Nat.lt_of_lt_of_le he h.1) (fun e => by injection e with e; omega)))⟩

set_option maxRecDepth 20000 in
set_option maxHeartbeats 8000000 in
theorem put7_held (B : Nat) (f : List Mdl) (k : Nat) (hk : k < f.length) (l : List Itm) (w : World) (vf vl : Value) (hS : Sl (RM w B) w B 4 f vf) (hS2 : Sl (RI w B) w B 9 l vl) (hB : B ≤ w.heap.size) (hsz : f.length ≤ 1000000) (hsz2 : l.length ≤ 1000000) (hsi : f[k].items.length ≤ 100000000) :
    Calls Tryz.prog 23 #[.agg #[vf], .int .i64 k, vl] w fun e w' => ∃ v', e = .returned (.agg #[v']) ∧ Ext w w' ∧ Held (fun Y => Sl (RM Y Y.heap.size) Y Y.heap.size 4 (putM f k l) v') B w.heap.size w'.heap.size w' := by
  obtain ⟨la, lc, xl, rfl, hfl, hfll⟩ := hS2.fl
  have HFL := hide hfl
  have HFLL := hide hfll
  obtain ⟨a, cap, rfl, hcap, hrow⟩ := hS
  have HROW := hide hrow
  obtain ⟨W1, hW1, hx1, hb1⟩ := box1 w (.slice a f.length cap) 24
  obtain ⟨W2, hW2, hx2, hb2⟩ := box1 W1 (.slice none 0 0) 24
  obtain ⟨W3, hW3, hx3, hb3⟩ := box1 W2 (.slice none 0 0) 24
  have hV1 := hW1.symm
  have hV2 := hW2.symm
  have hV3 := hW3.symm
  have HX2 := hide (hx1.trans hx2)
  have BX := hide (hb1.ext hx2)
  have BR := hide hb2
  have hge : w.heap.size ≤ W1.heap.size := hx1.size
  obtain ⟨x, hx⟩ : ∃ x, f[k] = x := ⟨_, rfl⟩
  have HXK := hide hx
  rw [hx] at hsi
  have HI0 := hide (show PutI W2 B f k l x 0 W3 from ⟨hx3, .slice none 0 0, .slice none 0 0, .slice none 0 0, .slice none 0 0, hb3, OwnL.none_, fun h => absurd h (by omega)⟩)
  clear hcap hrow hfl hfll hW1 hW2 hW3 hx1 hx2 hx3 hb1 hb2 hb3 hx
  go_enter Tryz.func23, Tryz.ntmps23
  go_wp2_with fail
  clear hV1 hV2 hV3
  go_loopw [8] (fun iv wr => ∃ i : Nat, i ≤ f.length ∧ iv = .int .i64 i ∧ PutI W2 B f k l x i wr) (fun iv _ => f.length - (intOf iv).toNat)
  case atStart => exact ⟨0, Nat.zero_le _, rfl, HI0.out⟩
  case round =>
    obtain ⟨i, hi, rfl, hpi⟩ := hrel
    have hxr := hpi.ext
    obtain ⟨v, v1, v2, vi, hbo, hrw, him⟩ := hpi.ex
    have hbase : W2.heap.size + 1 ≤ wr.heap.size := hbo.lt
    clear hpi HI0
    have hfb := (BX.out.ext hxr).get1
    have HXR := hide hxr
    have HBO := hide hbo
    have HRW := hide hrw
    have HIM := hide him
    by_cases hlt : i < f.length
    · obtain ⟨b, o, c0', c1, c2, c3, rfl, hbB, hR, hC, o0, o1, o2, o3⟩ := HROW.out.open4 hlt
      obtain ⟨d0, d1, d2, d3⟩ := (hC.ext (HX2.out.trans hxr)).get4
      have HRM := hide (hR.ext HX2.out hB)
      obtain ⟨n1, n2, n3, hcs, hps, hqs, his⟩ := hR.ext HX2.out hB
      simp only [List.cons.injEq, and_true] at hcs
      obtain ⟨rfl, rfl, rfl, rfl⟩ := hcs
      obtain ⟨Wb, Wd, hVb, ⟨p0, p1, p2, p3⟩, ⟨q0, q1, q2, q3⟩, hVc, hbd, hxd, -⟩ := varM wr (.string f[i].name) c1 c2 c3
      have HONE := hide (show ∀ u ∈ [Value.string f[i].name, c1, c2, c3], u.oneCell' = true from by
        intro u hu
        simp only [List.mem_cons, List.not_mem_nil, or_false] at hu
        rcases hu with rfl | rfl | rfl | rfl <;> first | assumption | rfl)
      have HST := hide (putM_step (k := k) (l := l) hlt)
      have hbz : W2.heap.size + 1 ≤ Wd.heap.size := Nat.le_trans hbase hxd.size
      by_cases hik : i = k
      · subst hik
        have hxe : f[i] = x := HXK.out
        rw [if_pos rfl, hxe] at HST
        rw [hxe] at HRM HONE d0 hVc hbd hps hqs his
        obtain ⟨c0, hc0⟩ : ∃ c0, x.name = c0 := ⟨_, rfl⟩
        have HC0 := hide hc0
        rw [hc0] at HONE d0 hVc hbd
        clear hc0
        have HPS := hide hps
        have HQS := hide hqs
        obtain ⟨ia, ic, xi, rfl, hif, hifl⟩ := his.fl
        have HIFL := hide hifl
        obtain ⟨W6, hW6⟩ : ∃ W6, W6 = Wd.alloc (.cells #[] 53) := ⟨_, rfl⟩
        have hV6 := hW6.symm
        have hx6 : Ext Wd W6 := by rw [hW6]; exact Ext.new _ _
        have O6 := hide (show OwnL (RI W2 B) Wd.heap.size 53 9 ([] : List Itm) (.slice (some ⟨Wd.heap.size, 0, none⟩) 0 0) W6 from by rw [hW6]; exact OwnL.new Wd _)
        have HIF := hide (hif.ext (HXR.out.trans (hxd.trans hx6)))
        have HLFL := hide (HFL.out.ext (HX2.out.trans (HXR.out.trans (hxd.trans hx6))))
        have HLFLL := hide (HFLL.out.imp fun x cs hr => RI.ext hr HX2.out hB)
        have HX6 := hide hx6
        have hb6 := hx6.size
        have HBD := hide hbd
        have HXD := hide hxd
        obtain ⟨g0, g1, g2, g3⟩ := (hbd.ext hx6).get4
        clear hps hqs his hif hifl hW6 hx6 hbd hxd hxr hC hbo hrw him hR
        go_wp2_with (first
          | (at_builtin; refine wpList_append_own2 (R := RI W2 B) rfl _ _ 31 rfl Wd.heap.size 53 _ 9 184 infoItm Tryz.underlying31 rfl (by decide) (by decide) [] x.items (.slice (some ⟨Wd.heap.size, 0, none⟩) 0 0) rfl O6.out ia ic xi rfl HIF.out HIFL.out (by simp) (by omega) hb6 ?_; intro v7 w7 hown7 hg7 hlt7 hf7
             have HX7 := hide (HX6.out.grown hg7 (fun b hb => (hlt7 b hb).1))
             rw [List.nil_append] at hown7
             have hfl7 := HLFL.out
             obtain ⟨a7, c7, rfl⟩ := hown7.form
             have O7 := hide hown7
             have hb7 := HX7.out.size
             have HL7 := hide (HFL.out.ext (HX2.out.trans (HXR.out.trans (HXD.out.trans HX7.out))))
             clear hown7 hg7 hlt7 hf7 hV6 hfl7)
          | (at_builtin; refine wpList_append_own2 (R := RI W2 B) rfl _ _ 31 rfl Wd.heap.size 53 _ 9 184 infoItm Tryz.underlying31 rfl (by decide) (by decide) x.items l (.slice a7 x.items.length c7) rfl O7.out la lc xl rfl HL7.out HLFLL.out (by omega) (by omega) hb7 ?_; intro v8 w8 hown8 hg8 hlt8 hf8
             have HX8 := hide (HX7.out.grown hg8 (fun b hb => (hlt8 b hb).1))
             have O8 := hide hown8
             obtain ⟨a8, c8, rfl⟩ := hown8.form
             rw [List.length_append] at O8
             have hbd8 := HBD.out.ext HX8.out
             obtain ⟨g0, g1, g2, g3⟩ := hbd8.get4
             obtain ⟨z0, z1, z2, z3⟩ := hbd8.free4
             obtain ⟨We, hWe⟩ : ∃ We, We = w8.setCell ⟨wr.heap.size, 3, none⟩ (.slice a8 (x.items.length + l.length) c8) := ⟨_, rfl⟩
             have hVe := hWe.symm
             have hxe8 : Ext wr We := by rw [hWe]; exact (HXD.out.trans HX8.out).setCell (Nat.le_refl _) _
             have hbe : Blk We wr.heap.size 33 [.string c0, c1, c2, .slice a8 (x.items.length + l.length) c8] := by
               have := hbd8.set_ 3 (.slice a8 (x.items.length + l.length) c8)
               rw [hWe]; simpa using this
             have hsx := HX8.out.size
             have hsd := HXD.out.size
             have hdl := HBD.out.lt
             have hoe : OwnL (RI W2 B) (W2.heap.size + 1) 53 9 (x.items ++ l) (.slice a8 (x.items.length + l.length) c8) We := by
               rw [hWe]
               exact (O8.out.kept (setCell_grown _ _ _ _) (fun b hb e => by cases hb; have := (O8.out.lt _ e).1; omega)).lower hbz
             have hw8 : We.heap.size = w8.heap.size := by rw [hWe]; simp
             have PB := hide (show PutB W2 B f i l x i v c1 c2 (.slice a8 (x.items.length + l.length) c8) We from ⟨HXR.out.trans hxe8, HBO.out.ext hxe8, (HRW.out.later hxe8).imp (fun m cs h => h.turn (fun h => by omega)), fun _ => ⟨hoe, fun b hb e => by
               have h1 := (O8.out.lt b hb).1
               have h2 := (HRW.out.lt b e).2
               omega⟩, by omega⟩)
             have BM := hide hbe
             have HREL := hide (show RPut W2 B (i < i + 1) x l c1 c2 (.slice a8 (x.items.length + l.length) c8) ⟨x.name, x.params, x.ports, x.items ++ l⟩ [.string c0, c1, c2, .slice a8 (x.items.length + l.length) c8] from .inr ⟨by omega, rfl, by rw [HC0.out], HPS.out, HQS.out⟩)
             have HONE := hide (show ∀ u ∈ [Value.string c0, c1, c2, .slice a8 (x.items.length + l.length) c8], u.oneCell' = true from by
               intro u hu
               simp only [List.mem_cons, List.not_mem_nil, or_false] at hu
               rcases hu with rfl | rfl | rfl | rfl <;> first | assumption | rfl)
             obtain ⟨W4, hW4, hx4, hb4⟩ := box4 We (.string c0) c1 c2 (.slice a8 (x.items.length + l.length) c8) 33
             have hV4 := hW4.symm
             have PB4 := hide (PB.out.later hx4)
             have HF4 := hide (show Flat W4 4 (some ⟨We.heap.size, 0, none⟩) 1 [.string c0, c1, c2, .slice a8 (x.items.length + l.length) c8] from ⟨rfl, HONE.out, fun _ => ⟨_, _, rfl, hb4.cells⟩⟩)
             have hbs := PB4.out.big
             have y0 := PB.out.box.get1
             obtain ⟨x0, x1, x2, x3⟩ := BM.out.get4
             have hlt4 : ((putM f i l).take i).length ≤ 1000000000 := by rw [List.length_take, putM_len]; omega
             clear hown8 hg8 hlt8 hf8 hbd8 hWe hxe8 hbe hoe hW4 hx4 hb4 hsx hsd hdl hw8)
          | (at_builtin; refine wpList_append_own2 (R := RPut W2 B (i < i + 1) x l c1 c2 (.slice a8 (x.items.length + l.length) c8)) rfl _ _ 22 rfl (W2.heap.size + 1) 33 _ 4 88 infoM Tryz.underlying22 rfl (by decide) (by decide) ((putM f i l).take i) [⟨x.name, x.params, x.ports, x.items ++ l⟩] v rfl PB4.out.row _ 1 _ rfl HF4.out (Fl.one_ rfl HONE.out HREL.out) hlt4 (by simp) hbs ?_; intro v5 w5 hown5 hg5 hlt5 hf5
             obtain ⟨⟨e0, e1⟩, hpi⟩ := PB4.out.push HST.out hown5 hg5 hf5
             obtain ⟨a5, n5, c5, rfl⟩ : ∃ a n c, v5 = .slice a n c := by obtain ⟨a, c, h⟩ := hown5.form; exact ⟨a, _, c, h⟩
             have HPI := hide hpi
             clear hown5 hg5 hlt5 hf5 hpi hV4 hVe y0 x0 x1 x2 x3))
        go_roundw
        case rel => exact ⟨i + 1, by omega, by go_num, HPI.out⟩
        case measure => simp [intOf]; omega
      · have hpn : (decide ((i : Int) = (k : Int))) = false := by simp; omega
        have hpe : ((i : Int) == (k : Int)) = false := by simp; omega
        rw [if_neg hik] at HST
        have PB := hide (show PutB W2 B f k l x i v v1 v2 vi Wd from ⟨HXR.out.trans hxd, HBO.out.ext hxd, (HRW.out.later hxd).imp (fun m cs h => h.on (fun h => by omega)), fun h => ⟨(HIM.out (by omega)).1.later hxd, (HIM.out (by omega)).2⟩, hbz⟩)
        have BM := hide hbd
        have HREL := hide (show RPut W2 B (k < i + 1) x l v1 v2 vi f[i] [.string f[i].name, c1, c2, c3] from .inl HRM.out)
        obtain ⟨m, hm⟩ : ∃ m, f[i] = m := ⟨_, rfl⟩
        rw [hm] at HREL HST HONE BM d0 hVc
        obtain ⟨c0, hc0⟩ : ∃ c0, m.name = c0 := ⟨_, rfl⟩
        rw [hc0] at HREL HONE BM d0 hVc
        clear hps hqs his hbd hxd hxr hC hbo hrw him hR HRM hm hc0
        obtain ⟨W4, hW4, hx4, hb4⟩ := box4 Wd (.string c0) c1 c2 c3 33
        have hV4 := hW4.symm
        have PB4 := hide (PB.out.later hx4)
        have HF4 := hide (show Flat W4 4 (some ⟨Wd.heap.size, 0, none⟩) 1 [.string c0, c1, c2, c3] from ⟨rfl, HONE.out, fun _ => ⟨_, _, rfl, hb4.cells⟩⟩)
        have hbs := PB4.out.big
        have y0 := PB.out.box.get1
        obtain ⟨z0, z1, z2, z3⟩ := BM.out.get4
        have hlt4 : ((putM f k l).take i).length ≤ 1000000000 := by rw [List.length_take, putM_len]; omega
        clear hW4 hx4 hb4
        go_wp2_with (first
          | (at_builtin; refine wpList_append_own2 (R := RPut W2 B (k < i + 1) x l v1 v2 vi) rfl _ _ 22 rfl (W2.heap.size + 1) 33 _ 4 88 infoM Tryz.underlying22 rfl (by decide) (by decide) ((putM f k l).take i) [m] v rfl PB4.out.row _ 1 _ rfl HF4.out (Fl.one_ rfl HONE.out HREL.out) hlt4 (by simp) hbs ?_; intro v5 w5 hown5 hg5 hlt5 hf5
             obtain ⟨⟨e0, e1⟩, hpi⟩ := PB4.out.push HST.out hown5 hg5 hf5
             obtain ⟨a5, n5, c5, rfl⟩ : ∃ a n c, v5 = .slice a n c := by obtain ⟨a, c, h⟩ := hown5.form; exact ⟨a, _, c, h⟩
             have HPI := hide hpi
             clear hown5 hg5 hlt5 hf5 hpi hV4 y0 z0 z1 z2 z3))
        go_roundw
        case rel => exact ⟨i + 1, by omega, by go_num, HPI.out⟩
        case measure => simp [intOf]; omega
    · have hil : i = f.length := by omega
      rw [hil] at HRW HIM
      have hki : k < f.length := hk
      obtain ⟨a9, n9, c9, rfl⟩ : ∃ a n c, v = .slice a n c := by obtain ⟨a, c, h⟩ := HRW.out.form; exact ⟨a, _, c, h⟩
      have y0 := HBO.out.get1
      have hbr := BR.out.ext HXR.out
      have z0 := hbr.get1
      have z1 := hbr.free1
      have j0 := (hbr.store1 (.slice a9 n9 c9)).get1
      have hxy : Ext w (wr.setCell ⟨W1.heap.size, 0, none⟩ (.slice a9 n9 c9)) := (HX2.out.trans HXR.out).setCell hge _
      have hlt2 : W1.heap.size < W2.heap.size := BR.out.lt
      have hrY := (HRW.out.beside (setCell_grown wr W1.heap.size 0 (.slice a9 n9 c9)) (fun b hb => by cases hb; omega))
      have hiY := (HIM.out hki).1.beside (setCell_grown wr W1.heap.size 0 (.slice a9 n9 c9)) (fun b hb => by cases hb; omega)
      have HFS := hide hxy
      have hgw : w.heap.size ≤ W2.heap.size := HX2.out.size
      have HFT := hide (show Held (fun Y => Sl (RM Y Y.heap.size) Y Y.heap.size 4 (putM f k l) (.slice a9 n9 c9)) B w.heap.size (wr.setCell ⟨W1.heap.size, 0, none⟩ (.slice a9 n9 c9)).heap.size (wr.setCell ⟨W1.heap.size, 0, none⟩ (.slice a9 n9 c9)) from by
        generalize wr.setCell ⟨W1.heap.size, 0, none⟩ (.slice a9 n9 c9) = Y0 at hxy hrY hiY
        refine ⟨Nat.le_refl _, fun Y h0 h1 h2 => ?_⟩
        have hY : ∀ p : Addr, p.block < B → Y.cell? p = W2.cell? p := fun p hp => (World.cell?_of_block (h1 _ hp)).trans ((hxy.cell (by omega)).trans (HX2.out.cell (by omega)).symm)
        have hBY : B ≤ Y.heap.size := Nat.le_trans hB (Nat.le_trans hxy.size h0)
        have hrY' := hrY.same (Y := Y) (fun b hb => h2 b (by have := (hrY.lt b hb).1; omega) (hrY.lt b hb).2)
        have hiY' := hiY.same (Y := Y) (fun b hb => h2 b (by have := (hiY.lt b hb).1; omega) (hiY.lt b hb).2)
        have hsl := hrY'.sl (by decide)
        rw [List.take_of_length_le (by rw [putM_len]; exact Nat.le_refl _)] at hsl
        refine hsl.imp fun m cs h => ?_
        rcases h with h | ⟨-, rfl, rfl, hp, hq⟩
        · exact RM.keep hY hBY _ _ h
        · exact ⟨_, _, _, rfl, hp.keep hY hBY (fun y _ => RB.keep hY hBY y), hq.keep hY hBY (fun y _ => RP.keep hY hBY y), (hiY'.sl (by decide)).imp fun y cs hr => RI.keep hY hBY y cs hr⟩)
      clear hrw him hxy hrY hiY hbr
      go_wp2_with fail
      refine bodyPost_ret (v := .agg #[.slice a9 n9 c9]) (by simp [results, Tryz.results23, go_sem, j0]) rfl ⟨_, rfl, HFS.out, HFT.out⟩
theorem put7_any (B : Nat) (f : List Mdl) (k : Nat) (hk : k < f.length) (l : List Itm) (w : World) (vf vl : Value) (hS : Sl (RM w B) w B 4 f vf) (hS2 : Sl (RI w B) w B 9 l vl) (hB : B ≤ w.heap.size) (hsz : f.length ≤ 1000000) (hsz2 : l.length ≤ 1000000) (hsi : f[k].items.length ≤ 100000000) :
    Calls Tryz.prog 23 #[.agg #[vf], .int .i64 k, vl] w fun e w' => ∃ v', e = .returned (.agg #[v']) ∧ Ext w w' ∧ Sl (RM w' w'.heap.size) w' w'.heap.size 4 (putM f k l) v' :=
  (put7_held B f k hk l w vf vl hS hS2 hB hsz hsz2 hsi).mono fun e w' ⟨v', h1, h2, h3⟩ => ⟨v', h1, h2, h3.now⟩

end Go.Proofs.YtjoglnjpgkobeaaGreatDoor

/-
  THE LAW NamesTwice: what the region keeps in which a module is put behind a file's.
-/
namespace Go.Proofs.YtjoglnjpgkobeaaGreatDoor
open Go Go.RowKit
set_option linter.all false
set_option linter.unusedVariables false
set_option linter.unusedSimpArgs false
set_option linter.unusedVariables false
set_option linter.unusedSimpArgs false
attribute [local go_sem] run_store_one

/-- An append onto an empty row without room: all that lies there stays. -/
theorem run_append_empty {α : Type} {R : α → List Value → Prop} {P : Program} (w : World) (t ty e : TypeId) (z : Value) (size bytes : Nat) (hi : (P.info? e).map (fun i => (i.zero, i.size, i.bytes)) = some (some z, size, bytes)) (ht : P.underlying t = some (.slice e))
    (hzs : z.cells.size = size) (hsz : 0 < size) (hb : bytes ≤ 1000) (b : Addr) (r : List α) (A : Option Addr) (c : Nat) (ys : List Value) (hr : Flat w size A r.length ys) (hy : Fl R size r ys) (h0 : 0 < r.length) (hm : r.length ≤ 1000000000) :
    ∃ v' w', (Builtin.append_ #[t, t] ty #[.slice (some b) 0 0, .slice A r.length c]).run P w = .ok v' w' ∧ OwnL R w.heap.size e size r v' w' ∧ Ext w w' := by
  obtain ⟨ti, hti, htz, hts, htb⟩ := info_parts hi
  obtain ⟨b', o', rfl, hc⟩ := hr.2.2 h0
  have hcells : ∀ j u, ys[j]? = some u → w.cell? ((⟨b', o', none⟩ : Addr).add j) = some u := by
    intro j u hu
    rw [addr_add0]
    exact hc j u hu
  subst hts
  have hbb : r.length * ti.bytes ≤ 1000000000 * 1000 := Nat.mul_le_mul hm (by omega)
  have hrun := run_append_grow (P := P) w t ty e ti z ht hti htz b 0 0 [] (by simp) (by intro j v hj; simp at hj) ⟨b', o', none⟩ r.length c ys hr.1 hcells (by omega) (by omega) (growslice_fits (by omega) (by rw [Nat.zero_add]; omega))
  simp only [Nat.zero_add, Array.empty_append] at hrun
  have hge := grownCap_ge w r.length 0 e
  have hcm : grownCap w r.length 0 e ≤ maxLen := grownCap_le_maxLen w r.length 0 e (by unfold maxLen; omega)
  generalize grownCap w r.length 0 e = cap at hrun hge hcm
  refine ⟨_, _, hrun, ⟨ys, ⟨hr.1, .inr ⟨w.heap.size, cap, _, rfl, Nat.le_refl _, World.alloc_heap_new w.drew _, hge, hcm, ?_, ?_⟩⟩, hy⟩, (Ext.refl w).drew.alloc _⟩
  · simp only [Array.size_append, List.size_toArray, size_zeroCells, hzs, hr.1]
    simp [← Nat.add_mul]
    congr 1
    omega
  · simp [← hr.1]

theorem oper_append_empty {α : Type} {R : α → List Value → Prop} {P : Program} {w : World} {o : Oper} {a : Act} {K : Act → World → Prop} {Q : Exit → Act → World → Prop} (s x : Operand) (t : TypeId)
    (ho : o.op = .call { callee := .builtin .append, args := #[s, x], argTypes := #[t, t] })
    (e : TypeId) (z : Value) (size bytes : Nat) (hi : (P.info? e).map (fun i => (i.zero, i.size, i.bytes)) = some (some z, size, bytes)) (ht : P.underlying t = some (.slice e))
    (hzs : z.cells.size = size) (hsz : 0 < size) (hb : bytes ≤ 1000) (b : Addr) (r : List α) (A : Option Addr) (c : Nat) (ys : List Value) (hs : a.eval s = .slice (some b) 0 0) (hx : a.eval x = .slice A r.length c)
    (hr : Flat w size A r.length ys) (hy : Fl R size r ys) (h0 : 0 < r.length) (hm : r.length ≤ 1000000000)
    (h : ∀ v' w', OwnL R w.heap.size e size r v' w' → Ext w w' → K (a.put o.dst v') w') : o.wp P a w K Q := by
  obtain ⟨v', w', hrun, h2, h3⟩ := run_append_empty (P := P) (R := R) w t o.type e z size bytes hi ht hzs hsz hb b r A c ys hr hy h0 hm
  unfold Oper.wp execOp
  simp only [ho, resolve, invoke, builtin, Sem.run_bind, Sem.run_pure, Result.andThen_ok, List.map_toArray, List.map_cons, List.map_nil, hs, hx, hrun]
  exact h v' w' h2 h3
theorem oper_append_own2 {α : Type} {R : α → List Value → Prop} {P : Program} {w : World} {o : Oper} {a : Act} {K : Act → World → Prop} {Q : Exit → Act → World → Prop} (s x : Operand) (t : TypeId)
    (ho : o.op = .call { callee := .builtin .append, args := #[s, x], argTypes := #[t, t] })
    (base : Nat) (e : TypeId) (z : Value) (size bytes : Nat) (hi : (P.info? e).map (fun i => (i.zero, i.size, i.bytes)) = some (some z, size, bytes)) (ht : P.underlying t = some (.slice e))
    (hzs : z.cells.size = size) (hsz : 0 < size) (hb : bytes ≤ 1000)
    (l r : List α) (v : Value) (hs : a.eval s = v) (hown : OwnL R base e size l v w)
    (A : Option Addr) (c : Nat) (ys : List Value) (hx : a.eval x = .slice A r.length c) (hr : Flat w size A r.length ys) (hy : Fl R size r ys)
    (hn : l.length ≤ 1000000000) (hm : r.length ≤ 1000000000) (hbase : base ≤ w.heap.size)
    (h : ∀ v' w', OwnL R base e size (l ++ r) v' w' → w.grownBy w' v.ownBlock → (∀ g, v.ownBlock = some g → base ≤ g ∧ g < w.heap.size) → (∀ g, v'.ownBlock = some g → v.ownBlock = some g ∨ w.heap.size ≤ g) → K (a.put o.dst v') w') : o.wp P a w K Q := by
  obtain ⟨xs, h1, h2⟩ := hown.ex
  obtain ⟨ti, hti, htz, hts, htb⟩ := info_parts hi
  refine oper_append_flat s x t ho base e ti z size bytes ht hti htz hts htb hzs hsz hb v l.length xs hs h1 A r.length c ys hx hr hn hm hbase ?_
  intro v' w' hown' hg hf
  exact h v' w' ⟨xs ++ ys, by rw [List.length_append]; exact hown', h2.append hy⟩ hg (fun g hg => h1.lt g hg) hf

/-- What is known of the values. -/
def twF (N0 fb : Nat) (vf : Value) (k n : Nat) (p : Addr) (nm : ByteArray) (i : Nat) (v : Value) (_ : World) : Prop := match i with
  | 0 => ∃ g, v = .slice (some ⟨g, 0, none⟩) 0 0
  | 1 => v = .pointer (some ⟨fb, 0, none⟩)
  | 2 => v = vf
  | 3 => ∃ a c, v = .slice a n c
  | 4 => v = .pointer (some ⟨fb, 0, none⟩)
  | 5 => v = vf
  | 6 => v = .int .i64 k
  | 7 => v = .pointer (some p)
  | 8 => v = .pointer (some p)
  | 9 => v = .string nm
  | 10 => v = .agg #[.string nm, .slice none 0 0, .slice none 0 0, .slice none 0 0]
  | 11 => ∃ g, v = .slice (some ⟨g, 0, none⟩) 1 1
  | 12 => ∃ a c, v = .slice a (n + 1) c
  | 13 => ∃ a c, v = .agg #[.slice a (n + 1) c]
  | 14 => ∃ g, v = .pointer (some ⟨g, 0, none⟩)
  | _ => True
/-- A module of the file, or an empty one of a name. -/
def RTw (w : World) (B : Nat) (nm : ByteArray) (m : Mdl) (cs : List Value) : Prop := RM w B m cs ∨ m = mSolo nm [] ∧ cs = [.string nm, .slice none 0 0, .slice none 0 0, .slice none 0 0]
def cTw (nm : ByteArray) : List Value := [.string nm, .slice none 0 0, .slice none 0 0, .slice none 0 0]
theorem one_Tw (nm : ByteArray) : ∀ u ∈ cTw nm, u.oneCell' = true := by
  intro u hu
  simp only [cTw, List.mem_cons, List.not_mem_nil, or_false] at hu
  rcases hu with rfl | rfl | rfl | rfl <;> rfl
structure TwJ (R : Mdl → List Value → Prop) (N0 : Nat) (f : List Mdl) (nm : ByteArray) (L : Nat → Bool) (τ : Tmp → Value) (w : World) : Prop where
  row3 : L 3 = true → L 12 = false → OwnL R N0 33 4 f (τ 42) w
  new : L 11 = true → L 12 = false → ∃ g, τ 50 = .slice (some ⟨g, 0, none⟩) 1 1 ∧ Blk w g 33 (cTw nm)
  row12 : L 12 = true → OwnL R N0 33 4 (f ++ [mSolo nm []]) (τ 51) w
  fil : L 13 = true → τ 52 = .agg #[τ 51]
  box : L 14 = true → ∃ g u, τ 8 = .pointer (some ⟨g, 0, none⟩) ∧ N0 ≤ g ∧ Blk w g 24 [u] ∧ (L 3 = true → L 12 = false → (τ 42).ownBlock ≠ some g) ∧ (L 12 = true → (τ 51).ownBlock ≠ some g) ∧ (L 15 = true → u = τ 51)
  o12 : L 12 = true → L 3 = true ∧ L 11 = true
  o13 : L 13 = true → L 12 = true
  o15 : L 15 = true → L 14 = true ∧ L 13 = true
  big : N0 ≤ w.heap.size
theorem orb_ne {L : Nat → Bool} (i j : Nat) (h : (i == j) = false) : (L i || i == j) = L i := by rw [h, Bool.or_false]
theorem orb_eq {L : Nat → Bool} (i : Nat) : (L i || i == i) = true := by simp
section
variable {R : Mdl → List Value → Prop} {N0 : Nat} {f : List Mdl} {nm : ByteArray} {L : Nat → Bool} {A : Act} {w w' : World}
theorem twJ_looks : Looks (TwJ R N0 f nm) [3, 11, 12, 13, 14, 15] [42, 50, 51, 52, 8] := by
  intro L L' τ τ' w w' hL hτ hx h
  have e3 : L' 3 = L 3 := hL 3 (by simp)
  have e11 : L' 11 = L 11 := hL 11 (by simp)
  have e12 : L' 12 = L 12 := hL 12 (by simp)
  have e13 : L' 13 = L 13 := hL 13 (by simp)
  have e14 : L' 14 = L 14 := hL 14 (by simp)
  have e15 : L' 15 = L 15 := hL 15 (by simp)
  have t42 : τ' 42 = τ 42 := hτ 42 (by simp)
  have t50 : τ' 50 = τ 50 := hτ 50 (by simp)
  have t51 : τ' 51 = τ 51 := hτ 51 (by simp)
  have t52 : τ' 52 = τ 52 := hτ 52 (by simp)
  have t8 : τ' 8 = τ 8 := hτ 8 (by simp)
  refine ⟨?_, ?_, ?_, ?_, ?_, ?_, ?_, by rw [e15, e14, e13]; exact h.o15, Nat.le_trans h.big hx.size⟩
  · rw [e3, e12, t42]; exact fun a b => (h.row3 a b).later hx
  · rw [e11, e12, t50]; exact fun a b => by obtain ⟨g, h1, h2⟩ := h.new a b; exact ⟨g, h1, h2.ext hx⟩
  · rw [e12, t51]; exact fun a => (h.row12 a).later hx
  · rw [e13, t52, t51]; exact h.fil
  · rw [e14, t8, e3, e12, t42, t51, e15]; exact fun a => by obtain ⟨g, u, h1, h2, h3, h4⟩ := h.box a; exact ⟨g, u, h1, h2, h3.ext hx, h4⟩
  · rw [e12, e3, e11]; exact h.o12
  · rw [e13, e12]; exact h.o13
theorem twJ_no13 (h : TwJ R N0 f nm L (tau A) w) (h12 : L 12 = false) : L 13 = false := by
  cases e : L 13 with
  | false => rfl
  | true => rw [h.o13 e] at h12; cases h12
theorem twJ_no12 (h : TwJ R N0 f nm L (tau A) w) (h3 : L 3 = false ∨ L 11 = false) : L 12 = false := by
  cases e : L 12 with
  | false => rfl
  | true =>
    have := h.o12 e
    rcases h3 with h3 | h3
    · rw [this.1] at h3; cases h3
    · rw [this.2] at h3; cases h3
theorem twJ_3 {v : Value} (hz : 42 < A.tmps.size) (h3 : L 3 = false) (h : TwJ R N0 f nm L (tau A) w) (ho : OwnL R w.heap.size 33 4 f v w') (hx : Ext w w') : TwJ R N0 f nm (fun j => L j || j == 3) (tau (A.put (some 42) v)) w' := by
  have h12 := twJ_no12 h (.inl h3)
  refine ⟨fun _ _ => by rw [tau_here hz]; exact ho.lower h.big, ?_, ?_, ?_, ?_, ?_, ?_, (by simp only [orb_ne 11 3 rfl, orb_ne 12 3 rfl, orb_ne 13 3 rfl, orb_ne 14 3 rfl, orb_ne 15 3 rfl, orb_eq]; exact h.o15), Nat.le_trans h.big hx.size⟩
  · simp only [orb_ne 11 3 rfl, orb_ne 12 3 rfl, orb_ne 13 3 rfl, orb_ne 14 3 rfl, orb_ne 15 3 rfl, orb_eq]; rw [tau_put (by decide)]; exact fun a b => by obtain ⟨g, h1, h2⟩ := h.new a b; exact ⟨g, h1, h2.ext hx⟩
  · simp only [orb_ne 11 3 rfl, orb_ne 12 3 rfl, orb_ne 13 3 rfl, orb_ne 14 3 rfl, orb_ne 15 3 rfl, orb_eq]; rw [h12]; intro h; cases h
  · simp only [orb_ne 11 3 rfl, orb_ne 12 3 rfl, orb_ne 13 3 rfl, orb_ne 14 3 rfl, orb_ne 15 3 rfl, orb_eq]; rw [tau_put (by decide), tau_put (by decide)]; exact h.fil
  · simp only [orb_ne 11 3 rfl, orb_ne 12 3 rfl, orb_ne 13 3 rfl, orb_ne 14 3 rfl, orb_ne 15 3 rfl, orb_eq]; rw [h12, tau_here hz, tau_put (by decide), tau_put (by decide)]
    intro a
    obtain ⟨g, u, h1, h2, h3', h4, h5, h6⟩ := h.box a
    refine ⟨g, u, h1, h2, h3'.ext hx, fun _ _ e => ?_, fun h => (by cases h), h6⟩
    have := (ho.lt g e).1
    have := h3'.lt
    omega
  · simp only [orb_ne 11 3 rfl, orb_ne 12 3 rfl, orb_ne 13 3 rfl, orb_ne 14 3 rfl, orb_ne 15 3 rfl, orb_eq]; rw [h12]; intro h; cases h
  · simp only [orb_ne 11 3 rfl, orb_ne 12 3 rfl, orb_ne 13 3 rfl, orb_ne 14 3 rfl, orb_ne 15 3 rfl, orb_eq]; exact h.o13
theorem twJ_11 {g : Nat} (hz : 50 < A.tmps.size) (h11 : L 11 = false) (h : TwJ R N0 f nm L (tau A) w) (hb : Blk w' g 33 (cTw nm)) (hx : Ext w w') : TwJ R N0 f nm (fun j => L j || j == 11) (tau (A.put (some 50) (.slice (some ⟨g, 0, none⟩) 1 1))) w' := by
  have h12 := twJ_no12 h (.inr h11)
  have h13 := twJ_no13 h h12
  refine ⟨?_, fun _ _ => ⟨g, by rw [tau_here hz], hb⟩, ?_, ?_, ?_, ?_, ?_, (by simp only [orb_ne 3 11 rfl, orb_ne 12 11 rfl, orb_ne 13 11 rfl, orb_ne 14 11 rfl, orb_ne 15 11 rfl, orb_eq]; exact h.o15), Nat.le_trans h.big hx.size⟩
  · simp only [orb_ne 3 11 rfl, orb_ne 12 11 rfl, orb_ne 13 11 rfl, orb_ne 14 11 rfl, orb_ne 15 11 rfl, orb_eq]; rw [tau_put (by decide)]; exact fun a b => (h.row3 a b).later hx
  · simp only [orb_ne 3 11 rfl, orb_ne 12 11 rfl, orb_ne 13 11 rfl, orb_ne 14 11 rfl, orb_ne 15 11 rfl, orb_eq]; rw [h12]; intro h; cases h
  · simp only [orb_ne 3 11 rfl, orb_ne 12 11 rfl, orb_ne 13 11 rfl, orb_ne 14 11 rfl, orb_ne 15 11 rfl, orb_eq]; rw [h13]; intro h; cases h
  · simp only [orb_ne 3 11 rfl, orb_ne 12 11 rfl, orb_ne 13 11 rfl, orb_ne 14 11 rfl, orb_ne 15 11 rfl, orb_eq]; rw [tau_put (by decide), tau_put (by decide), tau_put (by decide)]
    intro a
    obtain ⟨g', u, h1, h2, h3', h4⟩ := h.box a
    exact ⟨g', u, h1, h2, h3'.ext hx, h4⟩
  · simp only [orb_ne 3 11 rfl, orb_ne 12 11 rfl, orb_ne 13 11 rfl, orb_ne 14 11 rfl, orb_ne 15 11 rfl, orb_eq]; rw [h12]; intro h; cases h
  · simp only [orb_ne 3 11 rfl, orb_ne 12 11 rfl, orb_ne 13 11 rfl, orb_ne 14 11 rfl, orb_ne 15 11 rfl, orb_eq]; rw [h13]; intro h; cases h
theorem twJ_12 {v : Value} (hz : 51 < A.tmps.size) (h12 : L 12 = false) (h3 : L 3 = true) (h11 : L 11 = true) (h : TwJ R N0 f nm L (tau A) w) (ho : OwnL R N0 33 4 (f ++ [mSolo nm []]) v w') (hg : w.grownBy w' (tau A 42).ownBlock)
    (hf : ∀ g, v.ownBlock = some g → (tau A 42).ownBlock = some g ∨ w.heap.size ≤ g) : TwJ R N0 f nm (fun j => L j || j == 12) (tau (A.put (some 51) v)) w' := by
  have h13 := twJ_no13 h h12
  have h15 : L 15 = false := by
    cases e : L 15 with
    | false => rfl
    | true => rw [(h.o15 e).2] at h13; cases h13
  refine ⟨?_, ?_, fun _ => by rw [tau_here hz]; exact ho, ?_, ?_, ?_, ?_, (by simp only [orb_ne 3 12 rfl, orb_ne 11 12 rfl, orb_ne 13 12 rfl, orb_ne 14 12 rfl, orb_ne 15 12 rfl, orb_eq]; exact h.o15), Nat.le_trans h.big hg.size⟩
  · simp only [orb_ne 3 12 rfl, orb_ne 11 12 rfl, orb_ne 13 12 rfl, orb_ne 14 12 rfl, orb_ne 15 12 rfl, orb_eq]; intro _ h; cases h
  · simp only [orb_ne 3 12 rfl, orb_ne 11 12 rfl, orb_ne 13 12 rfl, orb_ne 14 12 rfl, orb_ne 15 12 rfl, orb_eq]; intro _ h; cases h
  · simp only [orb_ne 3 12 rfl, orb_ne 11 12 rfl, orb_ne 13 12 rfl, orb_ne 14 12 rfl, orb_ne 15 12 rfl, orb_eq]; rw [h13]; intro h; cases h
  · simp only [orb_ne 3 12 rfl, orb_ne 11 12 rfl, orb_ne 13 12 rfl, orb_ne 14 12 rfl, orb_ne 15 12 rfl, orb_eq]; rw [tau_here hz, tau_put (by decide), tau_put (by decide), h15]
    intro a
    obtain ⟨g', u, h1, h2, h3', h4, h5, h6⟩ := h.box a
    refine ⟨g', u, h1, h2, blk_beside h3' hg (fun b hb e => h4 h3 h12 (by rw [hb, e])), fun _ h => (by cases h), fun _ e => ?_, fun h => (by cases h)⟩
    rcases hf g' e with hf | hf
    · exact h4 h3 h12 hf
    · have := h3'.lt
      omega
  · simp only [orb_ne 3 12 rfl, orb_ne 11 12 rfl, orb_ne 13 12 rfl, orb_ne 14 12 rfl, orb_ne 15 12 rfl, orb_eq]; exact fun _ => ⟨h3, h11⟩
  · simp only [orb_ne 3 12 rfl, orb_ne 11 12 rfl, orb_ne 13 12 rfl, orb_ne 14 12 rfl, orb_ne 15 12 rfl, orb_eq]; rw [h13]; intro h; cases h
theorem twJ_13 {v : Value} (hz : 52 < A.tmps.size) (h12 : L 12 = true) (hv : v = .agg #[tau A 51]) (h : TwJ R N0 f nm L (tau A) w) : TwJ R N0 f nm (fun j => L j || j == 13) (tau (A.put (some 52) v)) w := by
  refine ⟨?_, ?_, ?_, fun _ => by rw [tau_here hz, tau_put (by decide)]; exact hv, ?_, ?_, ?_, (by simp only [orb_ne 3 13 rfl, orb_ne 11 13 rfl, orb_ne 12 13 rfl, orb_ne 14 13 rfl, orb_ne 15 13 rfl, orb_eq]; exact fun a => ⟨(h.o15 a).1, trivial⟩), h.big⟩
  · simp only [orb_ne 3 13 rfl, orb_ne 11 13 rfl, orb_ne 12 13 rfl, orb_ne 14 13 rfl, orb_ne 15 13 rfl, orb_eq]; rw [tau_put (by decide)]; exact h.row3
  · simp only [orb_ne 3 13 rfl, orb_ne 11 13 rfl, orb_ne 12 13 rfl, orb_ne 14 13 rfl, orb_ne 15 13 rfl, orb_eq]; rw [tau_put (by decide)]; exact h.new
  · simp only [orb_ne 3 13 rfl, orb_ne 11 13 rfl, orb_ne 12 13 rfl, orb_ne 14 13 rfl, orb_ne 15 13 rfl, orb_eq]; rw [tau_put (by decide)]; exact h.row12
  · simp only [orb_ne 3 13 rfl, orb_ne 11 13 rfl, orb_ne 12 13 rfl, orb_ne 14 13 rfl, orb_ne 15 13 rfl, orb_eq]; rw [tau_put (by decide), tau_put (by decide), tau_put (by decide)]; exact h.box
  · simp only [orb_ne 3 13 rfl, orb_ne 11 13 rfl, orb_ne 12 13 rfl, orb_ne 14 13 rfl, orb_ne 15 13 rfl, orb_eq]; exact h.o12
  · simp only [orb_ne 3 13 rfl, orb_ne 11 13 rfl, orb_ne 12 13 rfl, orb_ne 14 13 rfl, orb_ne 15 13 rfl, orb_eq]; exact fun _ => h12
theorem twJ_14 {g : Nat} {u : Value} (hz : 8 < A.tmps.size) (h15 : L 15 = false) (hN : N0 ≤ g) (hw : w.heap.size ≤ g) (h : TwJ R N0 f nm L (tau A) w) (hb : Blk w' g 24 [u]) (hx : Ext w w') : TwJ R N0 f nm (fun j => L j || j == 14) (tau (A.put (some 8) (.pointer (some ⟨g, 0, none⟩)))) w' := by
  refine ⟨?_, ?_, ?_, ?_, fun _ => ⟨g, u, by rw [tau_here hz], hN, hb, ?_, ?_, ?_⟩, ?_, ?_, (by simp only [orb_ne 3 14 rfl, orb_ne 11 14 rfl, orb_ne 12 14 rfl, orb_ne 13 14 rfl, orb_ne 15 14 rfl, orb_eq]; exact fun a => ⟨trivial, (h.o15 a).2⟩), Nat.le_trans h.big hx.size⟩
  · simp only [orb_ne 3 14 rfl, orb_ne 11 14 rfl, orb_ne 12 14 rfl, orb_ne 13 14 rfl, orb_ne 15 14 rfl, orb_eq]; rw [tau_put (by decide)]; exact fun a b => (h.row3 a b).later hx
  · simp only [orb_ne 3 14 rfl, orb_ne 11 14 rfl, orb_ne 12 14 rfl, orb_ne 13 14 rfl, orb_ne 15 14 rfl, orb_eq]; rw [tau_put (by decide)]; exact fun a b => by obtain ⟨g, h1, h2⟩ := h.new a b; exact ⟨g, h1, h2.ext hx⟩
  · simp only [orb_ne 3 14 rfl, orb_ne 11 14 rfl, orb_ne 12 14 rfl, orb_ne 13 14 rfl, orb_ne 15 14 rfl, orb_eq]; rw [tau_put (by decide)]; exact fun a => (h.row12 a).later hx
  · simp only [orb_ne 3 14 rfl, orb_ne 11 14 rfl, orb_ne 12 14 rfl, orb_ne 13 14 rfl, orb_ne 15 14 rfl, orb_eq]; rw [tau_put (by decide), tau_put (by decide)]; exact h.fil
  · simp only [orb_ne 3 14 rfl, orb_ne 11 14 rfl, orb_ne 12 14 rfl, orb_ne 13 14 rfl, orb_ne 15 14 rfl, orb_eq]; rw [tau_put (by decide)]
    intro a b e
    have := ((h.row3 a b).lt g e).2
    omega
  · simp only [orb_ne 3 14 rfl, orb_ne 11 14 rfl, orb_ne 12 14 rfl, orb_ne 13 14 rfl, orb_ne 15 14 rfl, orb_eq]; rw [tau_put (by decide)]
    intro a e
    have := ((h.row12 a).lt g e).2
    omega
  · simp only [orb_ne 3 14 rfl, orb_ne 11 14 rfl, orb_ne 12 14 rfl, orb_ne 13 14 rfl, orb_ne 15 14 rfl, orb_eq]; rw [h15]; intro h; cases h
  · simp only [orb_ne 3 14 rfl, orb_ne 11 14 rfl, orb_ne 12 14 rfl, orb_ne 13 14 rfl, orb_ne 15 14 rfl, orb_eq]; exact h.o12
  · simp only [orb_ne 3 14 rfl, orb_ne 11 14 rfl, orb_ne 12 14 rfl, orb_ne 13 14 rfl, orb_ne 15 14 rfl, orb_eq]; exact h.o13
theorem twJ_15 {g : Nat} {v : Value} (h12 : L 12 = true) (h13 : L 13 = true) (h14 : L 14 = true) (hv : tau A 51 = v) (hg : tau A 8 = .pointer (some ⟨g, 0, none⟩)) (h : TwJ R N0 f nm L (tau A) w) : TwJ R N0 f nm (fun j => L j || j == 15) (tau A) (w.setCell ⟨g, 0, none⟩ v) := by
  obtain ⟨g', u, h1, h2, h3, h4, h5, h6⟩ := h.box h14
  rw [hg] at h1
  obtain rfl : g = g' := by cases h1; rfl
  refine ⟨?_, ?_, ?_, ?_, fun _ => ⟨g, v, hg, h2, h3.store1 v, ?_, ?_, fun _ => hv.symm⟩, ?_, ?_, (by simp only [orb_ne 3 15 rfl, orb_ne 11 15 rfl, orb_ne 12 15 rfl, orb_ne 13 15 rfl, orb_ne 14 15 rfl, orb_eq]; exact fun _ => ⟨h14, h13⟩), Nat.le_trans h.big (setCell_grown w g 0 v).size⟩
  · simp only [orb_ne 3 15 rfl, orb_ne 11 15 rfl, orb_ne 12 15 rfl, orb_ne 13 15 rfl, orb_ne 14 15 rfl, orb_eq]; rw [h12]; intro _ h; cases h
  · simp only [orb_ne 3 15 rfl, orb_ne 11 15 rfl, orb_ne 12 15 rfl, orb_ne 13 15 rfl, orb_ne 14 15 rfl, orb_eq]; rw [h12]; intro _ h; cases h
  · simp only [orb_ne 3 15 rfl, orb_ne 11 15 rfl, orb_ne 12 15 rfl, orb_ne 13 15 rfl, orb_ne 14 15 rfl, orb_eq]; exact fun a => (h.row12 a).kept (setCell_grown w g 0 v) (fun b hb e => by cases hb; exact h5 h12 e)
  · simp only [orb_ne 3 15 rfl, orb_ne 11 15 rfl, orb_ne 12 15 rfl, orb_ne 13 15 rfl, orb_ne 14 15 rfl, orb_eq]; exact h.fil
  · simp only [orb_ne 3 15 rfl, orb_ne 11 15 rfl, orb_ne 12 15 rfl, orb_ne 13 15 rfl, orb_ne 14 15 rfl, orb_eq]; exact h4
  · simp only [orb_ne 3 15 rfl, orb_ne 11 15 rfl, orb_ne 12 15 rfl, orb_ne 13 15 rfl, orb_ne 14 15 rfl, orb_eq]; exact h5
  · simp only [orb_ne 3 15 rfl, orb_ne 11 15 rfl, orb_ne 12 15 rfl, orb_ne 13 15 rfl, orb_ne 14 15 rfl, orb_eq]; exact h.o12
  · simp only [orb_ne 3 15 rfl, orb_ne 11 15 rfl, orb_ne 12 15 rfl, orb_ne 13 15 rfl, orb_ne 14 15 rfl, orb_eq]; exact h.o13
end

end Go.Proofs.YtjoglnjpgkobeaaGreatDoor
