/-
  EXPRESSIONS IN BLOCKS OF A KIND: RXD says which blocks an expression's cells may lie in.
-/
import Derived.Laws.MakeOwn
import Derived.Test.YtonbgnaopkopoaaDoorTreePk
import Derived.Test.YtonbgnaopkopoaaDoorKevPk
import Derived.Test.YtonbgnaopkopoaaDoorAppPk
namespace Go.Proofs.YtonbgnaopkopoaaDoor
open Go Go.RowKit
set_option linter.all false
set_option linter.unusedVariables false
set_option linter.unusedSimpArgs false
set_option linter.unusedVariables false
set_option linter.unusedSimpArgs false

/-- Element k of a row, in a block of the kind D. -/
def ElemD (w : World) (D : Nat → Prop) (a : Option Addr) (sz k : Nat) (R : List Value → Prop) : Prop :=
  ∃ b o cs, a = some ⟨b, o, none⟩ ∧ D b ∧ cs.length = sz ∧ Cells w b (o + k * sz) cs ∧ (∀ v, v ∈ cs → v.oneCell' = true) ∧ R cs
def RowD {α : Type} (R : α → List Value → Prop) (w : World) (D : Nat → Prop) (sz : Nat) (l : List α) (a : Option Addr) : Prop :=
  ∀ k, (h : k < l.length) → ElemD w D a sz k (R l[k])
def SlD {α : Type} (R : α → List Value → Prop) (w : World) (D : Nat → Prop) (sz : Nat) (l : List α) (v : Value) : Prop :=
  ∃ a cap, v = .slice a l.length cap ∧ l.length ≤ cap ∧ RowD R w D sz l a
theorem ElemD.keep {w w' : World} {D D' : Nat → Prop} {a : Option Addr} {sz k : Nat} {R R' : List Value → Prop} (h : ElemD w D a sz k R) (hw : ∀ p : Addr, D p.block → w'.cell? p = w.cell? p) (hD : ∀ b, D b → D' b) (hR : ∀ cs, R cs → R' cs) : ElemD w' D' a sz k R' := by
  obtain ⟨b, o, cs, ha, hb, hl, hc, h1, hr⟩ := h
  exact ⟨b, o, cs, ha, hD b hb, hl, fun j v hv => (hw _ hb).trans (hc j v hv), h1, hR _ hr⟩
theorem SlD.keep {α : Type} {R R' : α → List Value → Prop} {w w' : World} {D D' : Nat → Prop} {sz : Nat} {l : List α} {v : Value} (h : SlD R w D sz l v) (hw : ∀ p : Addr, D p.block → w'.cell? p = w.cell? p) (hD : ∀ b, D b → D' b)
    (hR : ∀ y, y ∈ l → ∀ cs, R y cs → R' y cs) : SlD R' w' D' sz l v := by
  obtain ⟨a, cap, hv, hc, hr⟩ := h
  exact ⟨a, cap, hv, hc, fun k hk => (hr k hk).keep hw hD (hR _ (List.getElem_mem hk))⟩
theorem SlD.nil {α : Type} {R : α → List Value → Prop} {w : World} {D : Nat → Prop} {sz : Nat} : SlD R w D sz [] (.slice none 0 0) := ⟨none, 0, rfl, Nat.le_refl _, fun k hk => absurd hk (by simp)⟩
theorem SlD.oneCell {α : Type} {R : α → List Value → Prop} {w : World} {D : Nat → Prop} {sz : Nat} {l : List α} {v : Value} (h : SlD R w D sz l v) : v.oneCell' = true := by
  obtain ⟨a, cap, rfl, _, _⟩ := h; rfl

def RXD (w : World) (D : Nat → Prop) : X → List Value → Prop
  | .mk op nm n wd v l, cs => ∃ a cap, cs = [.int .i64 op, .string nm, .int .i64 n, .int .i64 wd, .int .u64 v, .slice a l.length cap] ∧ l.length ≤ cap ∧
      ∀ k, (h : k < l.length) → ElemD w D a 6 k (fun c => RXD w D l[k] c)
termination_by x => SizeOf.sizeOf x
decreasing_by
  have := List.sizeOf_lt_of_mem (List.getElem_mem h)
  simp only [X.mk.sizeOf_spec]
  omega
theorem RXD_iff {w : World} {D : Nat → Prop} {x : X} {cs : List Value} :
    RXD w D x cs ↔ ∃ v, cs = [.int .i64 x.op, .string x.name, .int .i64 x.n, .int .i64 x.w, .int .u64 x.v, v] ∧ SlD (RXD w D) w D 6 x.l v := by
  obtain ⟨op, nm, n, wd, v, l⟩ := x
  rw [RXD]
  constructor
  · rintro ⟨a, cap, h1, h2, h3⟩
    exact ⟨_, h1, a, cap, rfl, h2, h3⟩
  · rintro ⟨_, h1, a, cap, rfl, h2, h3⟩
    exact ⟨a, cap, h1, h2, h3⟩
theorem RXD.keep {w w' : World} {D D' : Nat → Prop} (hw : ∀ p : Addr, D p.block → w'.cell? p = w.cell? p) (hD : ∀ b, D b → D' b) (x : X) : ∀ cs, RXD w D x cs → RXD w' D' x cs := by
  induction x using X.ind with
  | h x ih =>
    intro cs h
    obtain ⟨v, rfl, hr⟩ := RXD_iff.1 h
    exact RXD_iff.2 ⟨v, rfl, hr.keep hw hD ih⟩
theorem RXD.rx {w : World} {D : Nat → Prop} {B : Nat} (hD : ∀ b, D b → b < B) (x : X) : ∀ cs, RXD w D x cs → RX w B x cs := by
  induction x using X.ind with
  | h x ih =>
    intro cs h
    obtain ⟨v, rfl, a, cap, hv, hc, hr⟩ := RXD_iff.1 h
    refine RX_iff.2 ⟨v, rfl, a, cap, hv, hc, fun k hk => ?_⟩
    obtain ⟨b, o, cs, ha, hb, hl, hC, h1, hR⟩ := hr k hk
    exact ⟨b, o, cs, ha, hD b hb, hl, hC, h1, ih _ (List.getElem_mem hk) _ hR⟩
theorem RX.rxd {w : World} {D : Nat → Prop} {B : Nat} (hD : ∀ b, b < B → D b) (x : X) : ∀ cs, RX w B x cs → RXD w D x cs := by
  induction x using X.ind with
  | h x ih =>
    intro cs h
    obtain ⟨v, rfl, a, cap, hv, hc, hr⟩ := RX_iff.1 h
    refine RXD_iff.2 ⟨v, rfl, a, cap, hv, hc, fun k hk => ?_⟩
    obtain ⟨b, o, cs, ha, hb, hl, hC, h1, hR⟩ := hr k hk
    exact ⟨b, o, cs, ha, hD b hb, hl, hC, h1, ih _ (List.getElem_mem hk) _ hR⟩
theorem RXD.len {w : World} {D : Nat → Prop} {x : X} {cs : List Value} (h : RXD w D x cs) : cs.length = 6 := by
  obtain ⟨v, rfl, -⟩ := RXD_iff.1 h; rfl
/-- Six cells, one after the other, set in the middle of some. -/
theorem set6r (xs r : List Value) (o0 o1 o2 o3 o4 o5 z0 z1 z2 z3 z4 z5 : Value) : ((((((xs ++ o0 :: o1 :: o2 :: o3 :: o4 :: o5 :: r).set xs.length z0).set (xs.length + 1) z1).set (xs.length + 2) z2).set (xs.length + 3) z3).set (xs.length + 4) z4).set (xs.length + 5) z5 = xs ++ z0 :: z1 :: z2 :: z3 :: z4 :: z5 :: r := by
  induction xs with
  | nil => rfl
  | cons x xs ih =>
    simp only [List.cons_append, List.length_cons, show xs.length + 1 + 1 = (xs.length + 1) + 1 by omega, show xs.length + 1 + 2 = (xs.length + 2) + 1 by omega, show xs.length + 1 + 3 = (xs.length + 3) + 1 by omega, show xs.length + 1 + 4 = (xs.length + 4) + 1 by omega, show xs.length + 1 + 5 = (xs.length + 5) + 1 by omega, List.set_cons_succ]
    rw [ih]
theorem six {l : List Value} (h : 6 ≤ l.length) : ∃ o0 o1 o2 o3 o4 o5 r, l = o0 :: o1 :: o2 :: o3 :: o4 :: o5 :: r := by
  match l, h with
  | o0 :: o1 :: o2 :: o3 :: o4 :: o5 :: r, _ => exact ⟨o0, o1, o2, o3, o4, o5, r, rfl⟩

end Go.Proofs.YtonbgnaopkopoaaDoor

/-
  PACKAGE konst: Subst.
-/
namespace Go.Proofs.YtonbgnaopkopoaaDoor
open Go Go.RowKit
set_option linter.all false
set_option linter.unusedVariables false
set_option linter.unusedSimpArgs false
set_option linter.unusedVariables false
set_option linter.unusedSimpArgs false
attribute [local go_sem] run_store_one

/-- The blocks in which what is put in may lie: the argument's, and new ones. -/
def DN (B N M : Nat) (b : Nat) : Prop := b < B ∨ N ≤ b ∧ b < M
theorem DN.mono {B N N' M M' b : Nat} (h : DN B N M b) (hN : N' ≤ N) (hM : M ≤ M') : DN B N' M' b := h.elim .inl (fun h => .inr ⟨by omega, by omega⟩)
theorem zeroX_cells : (Value.agg #[.int .i64 0, .string ⟨#[]⟩, .int .i64 0, .int .i64 0, .int .u64 0, .slice none 0 0]).cells.size = 6 := rfl
theorem infoX' : (Tryd.prog.info? 25).map (fun i => (i.zero, i.size, i.bytes)) = some (some (.agg #[.int .i64 0, .string ⟨#[]⟩, .int .i64 0, .int .i64 0, .int .u64 0, .slice none 0 0]), 6, 72) := by kernel_rfl
theorem make_X (n : Nat) (h : n ≤ 1000000000) : ∃ arr : Array Value, arr.size = n * 6 ∧ ∀ w : World, (Instr.makeSlice 23 (.int .i64 n) (.int .i64 n)).run Tryd.prog w = .ok (.slice (some ⟨w.heap.size, 0, none⟩) n n) (w.alloc (.cells arr 25)) := by
  obtain ⟨ti, hti, htz, hts, htb⟩ := info_parts infoX'
  refine ⟨madeCells (Value.agg #[.int .i64 0, .string ⟨#[]⟩, .int .i64 0, .int .i64 0, .int .u64 0, .slice none 0 0]).cells (n * 6), size_madeCells _ _, fun w => ?_⟩
  have := run_make (P := Tryd.prog) w 23 25 ti _ Tryd.underlying23 hti htz .i64 .i64 n n (by omega) (Int.le_refl _) (by rw [htb]; omega) (by omega)
  rw [hts] at this
  simpa using this

/-- What is asked of Subst at one expression. -/
def SubOk (B : Nat) (env : List (ByteArray × Int)) (ve : Value) (x : X) : Prop := ∀ (w : World) (cs : List Value), RX w B x cs → B ≤ w.heap.size → Sl RNm w B 2 env ve →
  Calls Tryd.prog 23 #[.agg cs.toArray, ve] w fun e w' => ∃ cs', e = .returned (.agg cs'.toArray) ∧ RXD w' (DN B w.heap.size w'.heap.size) (substX (lookE env) x) cs' ∧ Ext w w'

set_option maxRecDepth 100000 in
set_option maxHeartbeats 4000000 in
theorem ksub_name (B : Nat) (env : List (ByteArray × Int)) (ve : Value) (hln : env.length ≤ 1000000000) (x : X) (h1 : x.op = 2) : SubOk B env ve x := by
  intro w cs hR hB hE
  have HR := hide hR
  have HE := hide hE
  obtain ⟨x5, rfl, hS⟩ := RX_iff.1 hR
  rw [h1] at HR ⊢
  have o5 := hS.oneCell
  have oe := hE.oneCell
  obtain ⟨W1, hW1, hx1, hb1⟩ := box6 w (.int .i64 2) (.string x.name) (.int .i64 x.n) (.int .i64 x.w) (.int .u64 x.v) x5 25
  obtain ⟨W2, hW2, hx2, hb2⟩ := box6 W1 (.int .i64 0) (.string ⟨#[]⟩) (.int .i64 0) (.int .i64 0) (.int .u64 0) (.slice none 0 0) 25
  obtain ⟨e2, he2⟩ := Later.mk_ex (Ext.refl W2)
  have hV1 := hW1.symm
  have hV2 := hW2.symm.trans he2
  have q02 := hx1.trans hx2
  have z1 := size_box hW1
  have hg2 : w.heap.size ≤ W1.heap.size := hx1.size
  have hB2 : B ≤ W2.heap.size := Nat.le_trans hB q02.size
  obtain ⟨c0, c1, c2, c3, c4, c5⟩ := (hb1.ext hx2).later6
  have KL := hide (show ECalls Tryd.prog 16 #[ve, .string x.name] W2 (.tuple #[.int .i64 ((lookE env x.name).getD 0), .bool (lookE env x.name).isSome]) from fun w' hw => klookup_any B env x.name w' ve (HE.out.extN (q02.trans hw) hB) (Nat.le_trans hB2 hw.size) hln)
  have HB1 := hide (hb1.ext hx2)
  have HB2 := hide hb2
  have Q02 := hide q02
  have KI := hide (fun (z : Int) (w : World) => kinside_any z w)
  have hsub := substX_name (env := lookE env) h1
  have HSUB := hide hsub
  clear hR hS hE hW1 hW2 hx1 hx2 hb1 hb2 he2 q02 hsub HB1 HE z1
  clear h1
  cases hz : lookE env x.name with
  | none =>
    rw [hz] at KL HSUB
    simp only [Option.getD_none, Option.isSome_none] at KL HSUB
    rw [HSUB.out]
    clear hz HSUB
    go_enter Tryd.func23, Tryd.ntmps23
    go_wp2_with fail
    refine (KL.out.at_ _).mono ?_
    rintro _ _ ⟨rfl, e, rfl⟩
    have hbe := HB2.out.ext e.ext
    obtain ⟨d0, d1, d2, d3, d4, d5⟩ := hbe.get6
    obtain ⟨f0, f1, f2, f3, f4, f5⟩ := hbe.free6
    obtain ⟨Wz, hWz⟩ : ∃ Wz, Wz = (((((e.w.setCell ⟨W1.heap.size, 0, none⟩ (.int .i64 2)).setCell ⟨W1.heap.size, 1, none⟩ (.string x.name)).setCell ⟨W1.heap.size, 2, none⟩ (.int .i64 x.n)).setCell ⟨W1.heap.size, 3, none⟩ (.int .i64 x.w)).setCell ⟨W1.heap.size, 4, none⟩ (.int .u64 x.v)).setCell ⟨W1.heap.size, 5, none⟩ (x5) := ⟨_, rfl⟩
    have hbz := hbe.store6 (.int .i64 2) (.string x.name) (.int .i64 x.n) (.int .i64 x.w) (.int .u64 x.v) (x5)
    rw [← hWz] at hbz
    obtain ⟨y0, y1, y2, y3, y4, y5⟩ := hbz.get6
    have x0z : Ext w Wz := by rw [hWz]; exact (((((((Q02.out.trans e.ext).setCell hg2 _).setCell hg2 _).setCell hg2 _).setCell hg2 _).setCell hg2 _).setCell hg2 _)
    have HFIN := hide x0z
    have hVz := hWz.symm
    clear hbe hbz hWz x0z
    go_wp2_with (go_at_call 41; refine (KI.out _ _).mono ?_; rintro _ _ ⟨rfl, rfl⟩)
    refine bodyPost_ret (v := .agg #[.int .i64 2, .string x.name, .int .i64 x.n, .int .i64 x.w, .int .u64 x.v, x5]) (by simp [results, Tryd.results23, go_sem, y0, y1, y2, y3, y4, y5]) rfl ?_
    exact ⟨[.int .i64 2, .string x.name, .int .i64 x.n, .int .i64 x.w, .int .u64 x.v, x5], rfl, (HR.out.ext HFIN.out hB).rxd (fun b hb => .inl hb) x _, HFIN.out⟩
  | some z =>
    rw [hz] at KL HSUB
    simp only [Option.getD_some, Option.isSome_some] at KL HSUB
    clear hz
    by_cases hin : insideK z
    · rw [if_pos hin] at HSUB
      rw [HSUB.out]
      have hi0 := hin.1
      have hi1 := hin.2
      have KI := hide (fun w => decide_eq_true hin ▸ kinside_any z w)
      clear HSUB hin
      go_enter Tryd.func23, Tryd.ntmps23
      go_wp2_with fail
      refine (KL.out.at_ _).mono ?_
      rintro _ _ ⟨rfl, e, rfl⟩
      have hbe := HB2.out.ext e.ext
      obtain ⟨d0, d1, d2, d3, d4, d5⟩ := hbe.get6
      obtain ⟨f0, f1, f2, f3, f4, f5⟩ := hbe.free6
      obtain ⟨Wz, hWz⟩ : ∃ Wz, Wz = (((((e.w.setCell ⟨W1.heap.size, 0, none⟩ (.int .i64 1)).setCell ⟨W1.heap.size, 1, none⟩ (.string ⟨#[]⟩)).setCell ⟨W1.heap.size, 2, none⟩ (.int .i64 0)).setCell ⟨W1.heap.size, 3, none⟩ (.int .i64 0)).setCell ⟨W1.heap.size, 4, none⟩ (.int .u64 z)).setCell ⟨W1.heap.size, 5, none⟩ (.slice none 0 0) := ⟨_, rfl⟩
      have hbz := hbe.store6 (.int .i64 1) (.string ⟨#[]⟩) (.int .i64 0) (.int .i64 0) (.int .u64 z) (.slice none 0 0)
      rw [← hWz] at hbz
      obtain ⟨y0, y1, y2, y3, y4, y5⟩ := hbz.get6
      have x0z : Ext w Wz := by rw [hWz]; exact (((((((Q02.out.trans e.ext).setCell hg2 _).setCell hg2 _).setCell hg2 _).setCell hg2 _).setCell hg2 _).setCell hg2 _)
      have HFIN := hide x0z
      have hVz := hWz.symm
      clear hbe hbz hWz x0z
      go_wp2_with (go_at_call 41; refine (KI.out _).mono ?_; rintro _ _ ⟨rfl, rfl⟩)
      refine bodyPost_ret (v := .agg #[.int .i64 1, .string ⟨#[]⟩, .int .i64 0, .int .i64 0, .int .u64 z, .slice none 0 0]) (by simp [results, Tryd.results23, go_sem, y0, y1, y2, y3, y4, y5]) rfl ?_
      exact ⟨[.int .i64 1, .string ⟨#[]⟩, .int .i64 0, .int .i64 0, .int .u64 z, .slice none 0 0], rfl, RXD_iff.2 ⟨_, rfl, SlD.nil⟩, HFIN.out⟩
    · rw [if_neg hin] at HSUB
      rw [HSUB.out]
      have KI := hide (fun w => decide_eq_false hin ▸ kinside_any z w)
      clear HSUB
      go_enter Tryd.func23, Tryd.ntmps23
      go_wp2_with fail
      refine (KL.out.at_ _).mono ?_
      rintro _ _ ⟨rfl, e, rfl⟩
      have hbe := HB2.out.ext e.ext
      obtain ⟨d0, d1, d2, d3, d4, d5⟩ := hbe.get6
      obtain ⟨f0, f1, f2, f3, f4, f5⟩ := hbe.free6
      obtain ⟨Wz, hWz⟩ : ∃ Wz, Wz = (((((e.w.setCell ⟨W1.heap.size, 0, none⟩ (.int .i64 2)).setCell ⟨W1.heap.size, 1, none⟩ (.string x.name)).setCell ⟨W1.heap.size, 2, none⟩ (.int .i64 x.n)).setCell ⟨W1.heap.size, 3, none⟩ (.int .i64 x.w)).setCell ⟨W1.heap.size, 4, none⟩ (.int .u64 x.v)).setCell ⟨W1.heap.size, 5, none⟩ (x5) := ⟨_, rfl⟩
      have hbz := hbe.store6 (.int .i64 2) (.string x.name) (.int .i64 x.n) (.int .i64 x.w) (.int .u64 x.v) (x5)
      rw [← hWz] at hbz
      obtain ⟨y0, y1, y2, y3, y4, y5⟩ := hbz.get6
      have x0z : Ext w Wz := by rw [hWz]; exact (((((((Q02.out.trans e.ext).setCell hg2 _).setCell hg2 _).setCell hg2 _).setCell hg2 _).setCell hg2 _).setCell hg2 _)
      have HFIN := hide x0z
      have hVz := hWz.symm
      clear hbe hbz hWz x0z
      go_wp2_with (go_at_call 41; refine (KI.out _).mono ?_; rintro _ _ ⟨rfl, rfl⟩)
      refine bodyPost_ret (v := .agg #[.int .i64 2, .string x.name, .int .i64 x.n, .int .i64 x.w, .int .u64 x.v, x5]) (by simp [results, Tryd.results23, go_sem, y0, y1, y2, y3, y4, y5]) rfl ?_
      exact ⟨[.int .i64 2, .string x.name, .int .i64 x.n, .int .i64 x.w, .int .u64 x.v, x5], rfl, (HR.out.ext HFIN.out hB).rxd (fun b hb => .inl hb) x _, HFIN.out⟩

set_option maxRecDepth 100000 in
set_option maxHeartbeats 4000000 in
theorem ksub_other (B : Nat) (env : List (ByteArray × Int)) (ve : Value) (hln : env.length ≤ 1000000000) (x : X) (h1 : x.op ≠ 2) (hsz : x.l.length ≤ 100000000) (IH : ∀ y, y ∈ x.l → SubOk B env ve y) : SubOk B env ve x := by
  intro w cs hR hB hE
  have HR := hide hR
  have HE := hide hE
  obtain ⟨x5, rfl, hS⟩ := RX_iff.1 hR
  have o5 := hS.oneCell
  have oe := hE.oneCell
  obtain ⟨W1, hW1, hx1, hb1⟩ := box6 w (.int .i64 x.op) (.string x.name) (.int .i64 x.n) (.int .i64 x.w) (.int .u64 x.v) x5 25
  obtain ⟨W2, hW2, hx2, hb2⟩ := box6 W1 (.int .i64 0) (.string ⟨#[]⟩) (.int .i64 0) (.int .i64 0) (.int .u64 0) (.slice none 0 0) 25
  obtain ⟨e2, he2⟩ := Later.mk_ex (Ext.refl W2)
  have hV1 := hW1.symm
  have hV2 := hW2.symm.trans he2
  have q02 := hx1.trans hx2
  have z1 := size_box hW1
  have hg2 : w.heap.size ≤ W1.heap.size := hx1.size
  have hB2 : B ≤ W2.heap.size := Nat.le_trans hB q02.size
  obtain ⟨c0, c1, c2, c3, c4, c5⟩ := (hb1.ext hx2).later6
  have KL := hide (show ECalls Tryd.prog 16 #[ve, .string x.name] W2 (.tuple #[.int .i64 ((lookE env x.name).getD 0), .bool (lookE env x.name).isSome]) from fun w' hw => klookup_any B env x.name w' ve (HE.out.extN (q02.trans hw) hB) (Nat.le_trans hB2 hw.size) hln)
  have HB1 := hide (hb1.ext hx2)
  have HB2 := hide hb2
  have Q02 := hide q02
  have KI := hide (fun (z : Int) (w : World) => kinside_any z w)
  have hsub := substX_other (env := lookE env) h1
  have HSUB := hide hsub
  obtain ⟨ax, capx, rfl, hcapx, hrow⟩ := hS
  obtain ⟨arr, harr, hmk⟩ := make_X x.l.length (by omega)
  obtain ⟨W3, hW3⟩ : ∃ W3, W3 = e2.w.alloc (.cells arr 25) := ⟨_, rfl⟩
  have hb3 : Blk W3 e2.w.heap.size 25 arr.toList := by rw [hW3]; exact Blk.new e2.w _ arr.toList
  have s3 : W3.heap.size = e2.w.heap.size + 1 := by rw [hW3]; simp
  have hx23 : Ext W2 W3 := by rw [hW3]; exact e2.ext.trans (Ext.new _ _)
  obtain ⟨e3, he3⟩ := Later.mk_ex (Ext.refl W3)
  have hV3 := hW3.symm.trans he3
  have hg3 : w.heap.size ≤ e2.w.heap.size := Nat.le_trans q02.size e2.ext.size
  have hg3' : W1.heap.size < e2.w.heap.size := Nat.lt_of_lt_of_le hb2.lt e2.ext.size
  have hg3'' : w.heap.size < W1.heap.size := by omega
  have hN3 := hb3.lt
  have h1' : ((x.op : Int) == 2) = false := by simpa using h1
  have Q03 := hide (q02.trans hx23)
  have X23 := hide hx23
  have HB3 := hide hb3
  have X2W := hide (show Ext e2.w W3 by rw [hW3]; exact Ext.new _ _)
  have HROW := hide hrow
  have HARR := hide (show arr.toList.length = x.l.length * 6 by simpa using harr)
  have C0 := hide (And.intro c0 (And.intro c1 (And.intro c2 (And.intro c3 (And.intro c4 c5)))))
  have c0 := cellL c0 hx23
  have c1 := cellL c1 hx23
  have c2 := cellL c2 hx23
  have c3 := cellL c3 hx23
  have c4 := cellL c4 hx23
  have c5 := cellL c5 hx23
  clear hR hE hW1 hW2 hW3 hx1 hx2 hx23 hb1 hb2 hb3 he2 he3 q02 hsub hrow hcapx harr h1 KL KI z1
  go_enter Tryd.func23, Tryd.ntmps23
  go_wp2_with fail
  go_loopw [36] (fun i wr => ∃ (k : Nat) (news rest : List Value), k ≤ x.l.length ∧ i = .int .i64 k ∧ Blk wr e2.w.heap.size 25 (news ++ rest) ∧ news.length = k * 6 ∧ rest.length = (x.l.length - k) * 6 ∧ (∀ u ∈ news, u.oneCell' = true) ∧
      (∀ j, (h : j < x.l.length) → j < k → RXD wr (DN B W3.heap.size wr.heap.size) (substX (lookE env) x.l[j]) ((news.drop (j * 6)).take 6)) ∧ Ext e2.w wr) (fun i _ => x.l.length - (intOf i).toNat)
  case atStart =>
    exact ⟨0, [], arr.toList, Nat.zero_le _, rfl, HB3.out.ext e3.ext, by simp, by rw [HARR.out]; simp, (fun u hu => nomatch hu), fun j _ h => by omega, X2W.out.trans e3.ext⟩
  case round =>
    obtain ⟨k, news, rest, hk, rfl, hblk, hnl, hrl, hone, hch, hx⟩ := hrel
    have hx2 := e2.ext.trans hx
    have hx0 := Q02.out.trans hx2
    have s9 := hblk.lt
    have HB1W := hide (HB1.out.ext hx2)
    have HB2W := hide (HB2.out.ext hx2)
    by_cases hlt : k < x.l.length
    · have IHk := IH x.l[k] (List.getElem_mem hlt)
      obtain ⟨b, o, v0, v1, v2, v3, v4, v5, rfl, hbB, hRk, hCk, p0, p1, p2, p3, p4, p5⟩ := HROW.out.open6 hlt
      obtain ⟨d0, d1, d2, d3, d4, d5⟩ := (hCk.ext hx0).get6
      obtain ⟨g0, g1, g2, g3, g4, g5⟩ := HB1W.out.get6
      clear c0 c1 c2 c3 c4 c5
      obtain ⟨r0, r1, r2, r3, r4, r5, rest', hrest⟩ := six (l := rest) (by rw [hrl]; omega)
      subst hrest
      obtain ⟨W4, hW4, hx4, hb4⟩ := box6 wr v0 v1 v2 v3 v4 v5 25
      obtain ⟨b0, b1, b2, b3, b4, b5⟩ := hb4.get6
      have KS := hide (IHk W4 _ (hRk.ext (hx0.trans hx4) hB) (Nat.le_trans hB (hx0.trans hx4).size) (HE.out.extN (hx0.trans hx4) hB))
      have hV4 := hW4.symm
      have HREL := hide (And.intro hblk (And.intro hnl (And.intro hrl (And.intro hone (And.intro hch (And.intro hx hx4))))))
      clear hRk hCk hW4 hb4 hblk hnl hrl hone hch hx4 IHk
      go_wp2_with fail
      refine KS.out.mono ?_
      rintro _ w5 ⟨cs', rfl, hD5, hx5⟩
      obtain ⟨hblk, hnl, hrl, hone, hch, -, hx4⟩ := HREL.out
      have hx45 := hx4.trans hx5
      generalize hsy : substX (lookE env) x.l[k] = y at *
      obtain ⟨y5, rfl, hy5⟩ := RXD_iff.1 hD5
      have oy := hy5.oneCell
      have hb5 := hblk.ext hx45
      have hcell : ∀ j u, (news ++ r0 :: r1 :: r2 :: r3 :: r4 :: r5 :: rest')[k * 6 + j]? = some u → w5.cell? ⟨e2.w.heap.size, k * 6 + j, none⟩ = some u := fun j u hu => (hb5.cell _).trans hu
      have hidx : ∀ j, (news ++ r0 :: r1 :: r2 :: r3 :: r4 :: r5 :: rest')[k * 6 + j]? = (r0 :: r1 :: r2 :: r3 :: r4 :: r5 :: rest')[j]? := fun j => by rw [← hnl, List.getElem?_append_right (by omega)]; congr 1; omega
      have k0 := hcell 0 r0 (by rw [hidx]; rfl)
      have k1 := hcell 1 r1 (by rw [hidx]; rfl)
      have k2 := hcell 2 r2 (by rw [hidx]; rfl)
      have k3 := hcell 3 r3 (by rw [hidx]; rfl)
      have k4 := hcell 4 r4 (by rw [hidx]; rfl)
      have k5 := hcell 5 r5 (by rw [hidx]; rfl)
      have fr := hb5.frozen
      have f0 := fr (k * 6)
      have f1 := fr (k * 6 + 1)
      have f2 := fr (k * 6 + 2)
      have f3 := fr (k * 6 + 3)
      have f4 := fr (k * 6 + 4)
      have f5 := fr (k * 6 + 5)
      simp only [Nat.add_zero] at k0
      obtain ⟨W6, hW6⟩ : ∃ W6, W6 = (((((w5.setCell ⟨e2.w.heap.size, k * 6, none⟩ (.int .i64 y.op)).setCell ⟨e2.w.heap.size, k * 6 + 1, none⟩ (.string y.name)).setCell ⟨e2.w.heap.size, k * 6 + 2, none⟩ (.int .i64 y.n)).setCell ⟨e2.w.heap.size, k * 6 + 3, none⟩ (.int .i64 y.w)).setCell ⟨e2.w.heap.size, k * 6 + 4, none⟩ (.int .u64 y.v)).setCell ⟨e2.w.heap.size, k * 6 + 5, none⟩ (y5) := ⟨_, rfl⟩
      have hb6 := (((((hb5.set_ (k * 6) (.int .i64 y.op)).set_ (k * 6 + 1) (.string y.name)).set_ (k * 6 + 2) (.int .i64 y.n)).set_ (k * 6 + 3) (.int .i64 y.w)).set_ (k * 6 + 4) (.int .u64 y.v)).set_ (k * 6 + 5) y5
      rw [← hW6] at hb6
      rw [← hnl, set6r] at hb6
      have hkeep : ∀ q : Addr, q.block ≠ e2.w.heap.size → W6.cell? q = w5.cell? q := fun q hq => by
        rw [hW6]
        exact World.cell?_of_block (by simp [Below.heap_setCell, hq])
      have hs6 : W6.heap.size = w5.heap.size := by rw [hW6]; simp [World.setCell]
      have hs4 : W4.heap.size ≤ w5.heap.size := hx5.size
      have hs4' : wr.heap.size ≤ W4.heap.size := hx4.size
      have hDw : ∀ bb, DN B W3.heap.size wr.heap.size bb → bb < wr.heap.size ∧ bb ≠ e2.w.heap.size := fun bb hbb => by
        rcases hbb with h | h
        · constructor <;> omega
        · constructor <;> omega
      have hDne : ∀ bb, DN B W3.heap.size w5.heap.size bb → bb ≠ e2.w.heap.size := fun bb hbb e => by
        rcases hbb with h | h <;> omega
      have FIN := hide (show ∃ (k' : Nat) (news' rest'' : List Value), k' ≤ x.l.length ∧ Value.int .i64 ((k : Int) + 1) = .int .i64 k' ∧ Blk W6 e2.w.heap.size 25 (news' ++ rest'') ∧ news'.length = k' * 6 ∧ rest''.length = (x.l.length - k') * 6 ∧ (∀ u ∈ news', u.oneCell' = true) ∧
          (∀ j, (h : j < x.l.length) → j < k' → RXD W6 (DN B W3.heap.size W6.heap.size) (substX (lookE env) x.l[j]) ((news'.drop (j * 6)).take 6)) ∧ Ext e2.w W6 from by
        refine ⟨k + 1, news ++ [.int .i64 y.op, .string y.name, .int .i64 y.n, .int .i64 y.w, .int .u64 y.v, y5], rest', by omega, by go_num, by simpa using hb6, by simp [hnl]; omega, by simp at hrl; omega, ?_, ?_, ?_⟩
        · intro u hu
          rcases List.mem_append.1 hu with hu | hu
          · exact hone u hu
          · simp only [List.mem_cons, List.not_mem_nil, or_false] at hu
            rcases hu with rfl | rfl | rfl | rfl | rfl | rfl
            all_goals first | rfl | exact oy
        · intro j hj hjk
          by_cases hjl : j < k
          · rw [List.drop_append_of_le_length (by omega), List.take_append_of_le_length (by rw [List.length_drop]; omega)]
            refine (hch j hj hjl).keep (fun q hq => ?_) (fun b hb => hb.mono (Nat.le_refl _) (by omega)) _ _
            exact (hkeep q (hDw _ hq).2).trans (hx45.cell (hDw _ hq).1)
          · have hjk : j = k := by omega
            subst hjk
            rw [hsy, ← hnl, List.drop_left]
            refine RXD.keep (D := DN B W4.heap.size w5.heap.size) (fun q hq => hkeep q (hDne _ (hq.mono (by omega) (Nat.le_refl _)))) (fun b hb => hb.mono (by omega) (by omega)) _ _ (RXD_iff.2 ⟨y5, rfl, hy5⟩)
        · rw [hW6]
          exact (((((((hx.trans hx45).setCell (Nat.le_refl _) _).setCell (Nat.le_refl _) _).setCell (Nat.le_refl _) _).setCell (Nat.le_refl _) _).setCell (Nat.le_refl _) _).setCell (Nat.le_refl _) _))
      have hV6 := hW6.symm
      clear hb5 hcell hidx fr hW6 hb6 hkeep hs6 hDne hblk hnl hrl hone hch hx4 hx45 HREL hD5 hy5 hDw hsy KS hx5 hs4 hs4'
      go_wp2_with fail
      go_roundw
      case rel => exact FIN.out
      case measure => simp [intOf]; omega
    · have hkl : k = x.l.length := by omega
      subst hkl
      have hr0 : rest = [] := List.eq_nil_of_length_eq_zero (by omega)
      subst hr0
      rw [List.append_nil] at hblk
      have hbA := HB1W.out
      have hbB := HB2W.out
      obtain ⟨g0, g1, g2, g3, g4, g5⟩ := hbA.get6
      obtain ⟨m0, m1, m2, m3, m4, m5⟩ := hbA.free6
      obtain ⟨Wa, hWa⟩ : ∃ Wa, Wa = wr.setCell ⟨w.heap.size, 5, none⟩ (.slice (some ⟨e2.w.heap.size, 0, none⟩) x.l.length x.l.length) := ⟨_, rfl⟩
      have hbA2 : Blk Wa w.heap.size 25 [.int .i64 x.op, .string x.name, .int .i64 x.n, .int .i64 x.w, .int .u64 x.v, .slice (some ⟨e2.w.heap.size, 0, none⟩) x.l.length x.l.length] := by rw [hWa]; exact hbA.set_ 5 _
      have hbB2 : Blk Wa W1.heap.size 25 [.int .i64 0, .string ⟨#[]⟩, .int .i64 0, .int .i64 0, .int .u64 0, .slice none 0 0] := by rw [hWa]; exact hbB.far (by show W1.heap.size ≠ w.heap.size; omega) _
      obtain ⟨n0, n1, n2, n3, n4, n5⟩ := hbA2.get6
      obtain ⟨q0, q1, q2, q3, q4, q5⟩ := hbB2.get6
      obtain ⟨f0, f1, f2, f3, f4, f5⟩ := hbB2.free6
      obtain ⟨Wz, hWz⟩ : ∃ Wz, Wz = (((((Wa.setCell ⟨W1.heap.size, 0, none⟩ (.int .i64 x.op)).setCell ⟨W1.heap.size, 1, none⟩ (.string x.name)).setCell ⟨W1.heap.size, 2, none⟩ (.int .i64 x.n)).setCell ⟨W1.heap.size, 3, none⟩ (.int .i64 x.w)).setCell ⟨W1.heap.size, 4, none⟩ (.int .u64 x.v)).setCell ⟨W1.heap.size, 5, none⟩ (.slice (some ⟨e2.w.heap.size, 0, none⟩) x.l.length x.l.length) := ⟨_, rfl⟩
      have hbz := hbB2.store6 (.int .i64 x.op) (.string x.name) (.int .i64 x.n) (.int .i64 x.w) (.int .u64 x.v) (.slice (some ⟨e2.w.heap.size, 0, none⟩) x.l.length x.l.length)
      rw [← hWz] at hbz
      obtain ⟨y0, y1, y2, y3, y4, y5⟩ := hbz.get6
      have hsz : Wz.heap.size = wr.heap.size := by rw [hWz, hWa]; simp [World.setCell]
      have hkz : ∀ q : Addr, q.block ≠ w.heap.size → q.block ≠ W1.heap.size → Wz.cell? q = wr.cell? q := fun q h1 h2 => by
        rw [hWz, hWa]
        exact World.cell?_of_block (by simp [Below.heap_setCell, h1, h2])
      have hbk : Blk Wz e2.w.heap.size 25 news := by
        rw [hWz, hWa]
        exact (((((((hblk.far (by show e2.w.heap.size ≠ w.heap.size; omega) _).far (by show e2.w.heap.size ≠ W1.heap.size; omega) _).far (by show e2.w.heap.size ≠ W1.heap.size; omega) _).far (by show e2.w.heap.size ≠ W1.heap.size; omega) _).far (by show e2.w.heap.size ≠ W1.heap.size; omega) _).far (by show e2.w.heap.size ≠ W1.heap.size; omega) _).far (by show e2.w.heap.size ≠ W1.heap.size; omega) _)
      have FIN := hide (show RXD Wz (DN B w.heap.size Wz.heap.size) (substX (lookE env) x) [.int .i64 x.op, .string x.name, .int .i64 x.n, .int .i64 x.w, .int .u64 x.v, .slice (some ⟨e2.w.heap.size, 0, none⟩) x.l.length x.l.length] ∧ Ext w Wz from by
        constructor
        · rw [HSUB.out]
          refine RXD_iff.2 ⟨_, rfl, some ⟨e2.w.heap.size, 0, none⟩, x.l.length, ?_, ?_, fun k hk => ?_⟩
          · show Value.slice _ _ _ = Value.slice _ (x.l.map (substX (lookE env))).length _; rw [List.length_map]
          · show (x.l.map (substX (lookE env))).length ≤ _; rw [List.length_map]; exact Nat.le_refl _
          · have hk' : k < x.l.length := by simpa [X.l] using hk
            have hj := hch k hk' hk'
            refine ⟨e2.w.heap.size, 0, _, rfl, .inr ⟨by omega, by omega⟩, hj.len, ?_, fun u hu => hone u (List.mem_of_mem_drop (List.mem_of_mem_take hu)), ?_⟩
            · intro j u hu
              rw [Nat.zero_add, hbk.cell]
              have hj6 : j < 6 := by have := (List.getElem?_eq_some_iff.1 hu).1; rw [hj.len] at this; exact this
              rw [List.getElem?_take_of_lt hj6, List.getElem?_drop] at hu
              exact hu
            · show RXD Wz _ ((x.l.map (substX (lookE env)))[k]'(by rw [List.length_map]; exact hk')) _
              rw [List.getElem_map]
              refine hj.keep (fun q hq => ?_) (fun b hb => hb.mono (by omega) (by omega)) _ _
              rcases hq with h | h
              · exact hkz q (by omega) (by omega)
              · exact hkz q (by omega) (by omega)
        · rw [hWz, hWa]
          exact ((((((((Q02.out.trans (e2.ext.trans hx)).setCell (Nat.le_refl _) _).setCell hg2 _).setCell hg2 _).setCell hg2 _).setCell hg2 _).setCell hg2 _).setCell hg2 _))
      have hVa := hWa.symm
      have hVz := hWz.symm
      clear hbA hbB hbA2 hbB2 hbz hWa hWz hsz hkz hbk hblk hch hone c0 c1 c2 c3 c4 c5
      go_wp2_with fail
      refine bodyPost_ret (v := .agg #[.int .i64 x.op, .string x.name, .int .i64 x.n, .int .i64 x.w, .int .u64 x.v, .slice (some ⟨e2.w.heap.size, 0, none⟩) x.l.length x.l.length]) (by simp [results, Tryd.results23, go_sem, y0, y1, y2, y3, y4, y5]) rfl ?_
      exact ⟨[.int .i64 x.op, .string x.name, .int .i64 x.n, .int .i64 x.w, .int .u64 x.v, .slice (some ⟨e2.w.heap.size, 0, none⟩) x.l.length x.l.length], rfl, FIN.out.1, FIN.out.2⟩

end Go.Proofs.YtonbgnaopkopoaaDoor
