/-
  PACKAGE konst: eval.
-/
import Derived.Test.YtonbgnaopkopoaaDoorKtwoPk
import Derived.Test.YtonbgnaopkopoaaDoorWordPk
namespace Go.Proofs.YtonbgnaopkopoaaDoor
open Go Go.RowKit
set_option linter.all false
set_option linter.unusedVariables false
set_option linter.unusedSimpArgs false
set_option linter.unusedVariables false
set_option linter.unusedSimpArgs false
attribute [local go_sem] run_store_one

/-- A map of the program's that holds constants. -/
def EnvM (w : World) (m : Nat) (env : ByteArray → Option Int) : Prop := ∃ L, MV w m L ∧ (∀ p, p ∈ L → MapKept.IsKey .string p.1) ∧ ∀ s : ByteArray, getV L (.string s) = (env s).map (Value.int .i64)
theorem EnvM.ext {w w' : World} {m : Nat} {env : ByteArray → Option Int} (h : EnvM w m env) (hx : Ext w w') : EnvM w' m env := by
  obtain ⟨L, h1, h2, h3⟩ := h
  exact ⟨L, h1.ext hx, h2, h3⟩
theorem EnvM.look {w : World} {m : Nat} {env : ByteArray → Option Int} (h : EnvM w m env) (s : ByteArray) :
    (Instr.lookup 59 (.map (some m)) (.string s) true).run Tryd.prog w = .ok (.tuple #[.int .i64 ((env s).getD 0), .bool (env s).isSome]) w := by
  obtain ⟨L, h1, h2, h3⟩ := h
  have := h1.lookup (et := 3) Tryd.underlying59 Tryd.underlying9 (k := .string s) trivial h2 (z := .int .i64 0) (by kernel_rfl) true
  rw [this, h3]
  cases env s <;> rfl
/-- What eval tells. -/
def pairV (r : Int × Int) : Value := .tuple #[.int .i64 r.1, .int .i64 r.2]
theorem told_min {v : Int} (h : 0 ≤ v) : toldK (min v 1099511627776) = toldK v := by
  by_cases h1 : v ≤ 2147483647
  · rw [show min v 1099511627776 = v by omega]
  · rw [show toldK v = (0, 62) from if_neg (fun h : insideK v => h1 h.2)]
    exact if_neg (fun h : insideK _ => by have := h.2; omega)

/-- What is asked of eval at one expression. -/
def EvalOk (B m : Nat) (env : ByteArray → Option Int) (x : X) : Prop := ∀ (w : World) (cs : List Value), RX w B x cs → B ≤ w.heap.size → EnvM w m env →
  Calls Tryd.prog 37 #[.agg cs.toArray, .map (some m)] w fun e w' => e = .returned (pairV (evalX env x)) ∧ Ext w w'

set_option maxRecDepth 100000 in
set_option maxHeartbeats 4000000 in
theorem keval_num (B m : Nat) (env : ByteArray → Option Int) (x : X) (h1 : x.op = 1) (h2 : x.w = 0) (IH : ∀ y, y ∈ x.l → EvalOk B m env y) (hmay : MayX x) (hv : VX x) : EvalOk B m env x := by
  intro w cs hR hB hE
  have HR := hide hR
  obtain ⟨x5, rfl, hS⟩ := RX_iff.1 hR
  have o5 := hS.oneCell
  obtain ⟨hv0, hv1, -, -⟩ := VX_iff.1 hv
  obtain ⟨⟨hpt, -, -, -⟩, -⟩ := MayX_iff.1 hmay
  have hev := evalX_eq env x
  obtain ⟨W1, e1, hV1, hx1, hs1, c0, c1, c2, c3, c4, c5⟩ := boxL6 w (.int .i64 x.op) (.string x.name) (.int .i64 x.n) (.int .i64 x.w) (.int .u64 x.v) x5 25
  have GM := hide (show ECalls Tryd.prog 51 #[.int .i64 x.n] W1 (madeV x.n) from fun w' hw => made_any x.n w')
  have KT := hide (fun (z : Int) (w : World) => ktold_any z w)
  have KB := hide (fun (b : Bool) (w : World) => kbit_any b w)
  have hnf : ∀ w : World, (binOp BinOp.neq 73 .nilFunc .nilFunc).run Tryd.prog w = .ok (.bool false) w := fun _ => by kernel_rfl
  have hff : ∀ (f : Nat) (w : World), (binOp BinOp.neq 73 (.func (.func f) #[] #[]) .nilFunc).run Tryd.prog w = .ok (.bool true) w := fun _ _ => by kernel_rfl
  have Q01 := hide hx1
  have hev : evalX env x = toldK (min x.v 1099511627776) := by rw [hev]; unfold combK; rw [if_pos ⟨h1, h2⟩, told_min hv0]
  rw [hev]
  have hm0 : 0 ≤ min x.v 1099511627776 := by omega
  have hm1 : min x.v 1099511627776 ≤ 1099511627776 := by omega
  unfold pairV
  clear hev hR hS HR hmay hv hpt IH hE hx1
  generalize x.op = op at *
  generalize x.w = wd at *
  subst h1 h2
  generalize madeV x.n = mv at *
  go_enter Tryd.func37, Tryd.ntmps37
  go_wp2_with (first
    | (go_at_call 51; refine (GM.out.at_ _).mono ?_; rintro _ _ ⟨rfl, e, rfl⟩)
    | (go_at_call 52; refine (KT.out _ _).mono ?_; rintro _ _ ⟨rfl, rfl⟩)
    | (go_at_call 53; refine (KB.out _ _).mono ?_; rintro _ _ ⟨rfl, rfl⟩))
  go_ret2
  exact ⟨rfl, Q01.out.trans (Later.ext _)⟩

set_option maxRecDepth 100000 in
set_option maxHeartbeats 4000000 in
theorem keval_name (B m : Nat) (env : ByteArray → Option Int) (x : X) (h1 : x.op = 2) (IH : ∀ y, y ∈ x.l → EvalOk B m env y) (hmay : MayX x) (hv : VX x) : EvalOk B m env x := by
  intro w cs hR hB hE
  have HR := hide hR
  obtain ⟨x5, rfl, hS⟩ := RX_iff.1 hR
  have o5 := hS.oneCell
  obtain ⟨hv0, hv1, -, -⟩ := VX_iff.1 hv
  obtain ⟨⟨hpt, -, -, -⟩, -⟩ := MayX_iff.1 hmay
  have hev := evalX_eq env x
  obtain ⟨W1, e1, hV1, hx1, hs1, c0, c1, c2, c3, c4, c5⟩ := boxL6 w (.int .i64 x.op) (.string x.name) (.int .i64 x.n) (.int .i64 x.w) (.int .u64 x.v) x5 25
  have GM := hide (show ECalls Tryd.prog 51 #[.int .i64 x.n] W1 (madeV x.n) from fun w' hw => made_any x.n w')
  have KT := hide (fun (z : Int) (w : World) => ktold_any z w)
  have KB := hide (fun (b : Bool) (w : World) => kbit_any b w)
  have hnf : ∀ w : World, (binOp BinOp.neq 73 .nilFunc .nilFunc).run Tryd.prog w = .ok (.bool false) w := fun _ => by kernel_rfl
  have hff : ∀ (f : Nat) (w : World), (binOp BinOp.neq 73 (.func (.func f) #[] #[]) .nilFunc).run Tryd.prog w = .ok (.bool true) w := fun _ _ => by kernel_rfl
  have Q01 := hide hx1
  have hev : evalX env x = nameK (env x.name) := by rw [hev]; unfold combK; rw [if_neg (by omega), if_pos h1]
  rw [hev]
  have hlk := fun e : Later W1 => (hE.ext (hx1.trans e.ext)).look x.name
  unfold pairV
  clear hev hR hS HR hmay hv hpt IH hE hx1
  generalize x.op = op at *
  subst h1
  generalize madeV x.n = mv at *
  cases hz : env x.name with
  | none =>
    rw [hz] at hlk
    rw [show nameK none = (0, 60) from rfl]
    simp only [Option.getD_none, Option.isSome_none] at hlk
    clear hz
    go_enter Tryd.func37, Tryd.ntmps37
    go_wp2_with (first
    | (go_at_call 51; refine (GM.out.at_ _).mono ?_; rintro _ _ ⟨rfl, e, rfl⟩)
    | (go_at_call 52; refine (KT.out _ _).mono ?_; rintro _ _ ⟨rfl, rfl⟩)
    | (go_at_call 53; refine (KB.out _ _).mono ?_; rintro _ _ ⟨rfl, rfl⟩))
    go_ret2
    exact ⟨rfl, Q01.out.trans (Later.ext _)⟩
  | some z =>
    rw [hz] at hlk
    rw [show nameK (some z) = toldK z from rfl]
    simp only [Option.getD_some, Option.isSome_some] at hlk
    clear hz
    go_enter Tryd.func37, Tryd.ntmps37
    go_wp2_with (first
    | (go_at_call 51; refine (GM.out.at_ _).mono ?_; rintro _ _ ⟨rfl, e, rfl⟩)
    | (go_at_call 52; refine (KT.out _ _).mono ?_; rintro _ _ ⟨rfl, rfl⟩)
    | (go_at_call 53; refine (KB.out _ _).mono ?_; rintro _ _ ⟨rfl, rfl⟩))
    go_ret2
    exact ⟨rfl, Q01.out.trans (Later.ext _)⟩

set_option maxRecDepth 100000 in
set_option maxHeartbeats 4000000 in
theorem keval_no (B m : Nat) (env : ByteArray → Option Int) (x : X) (h1 : ¬ (x.op = 1 ∧ x.w = 0)) (h2 : x.op ≠ 2) (h3 : ¬ opK x.op x.n) (IH : ∀ y, y ∈ x.l → EvalOk B m env y) (hmay : MayX x) (hv : VX x) : EvalOk B m env x := by
  intro w cs hR hB hE
  have HR := hide hR
  obtain ⟨x5, rfl, hS⟩ := RX_iff.1 hR
  have o5 := hS.oneCell
  obtain ⟨hv0, hv1, -, -⟩ := VX_iff.1 hv
  obtain ⟨⟨hpt, -, -, -⟩, -⟩ := MayX_iff.1 hmay
  have hev := evalX_eq env x
  obtain ⟨W1, e1, hV1, hx1, hs1, c0, c1, c2, c3, c4, c5⟩ := boxL6 w (.int .i64 x.op) (.string x.name) (.int .i64 x.n) (.int .i64 x.w) (.int .u64 x.v) x5 25
  have GM := hide (show ECalls Tryd.prog 51 #[.int .i64 x.n] W1 (madeV x.n) from fun w' hw => made_any x.n w')
  have KT := hide (fun (z : Int) (w : World) => ktold_any z w)
  have KB := hide (fun (b : Bool) (w : World) => kbit_any b w)
  have hnf : ∀ w : World, (binOp BinOp.neq 73 .nilFunc .nilFunc).run Tryd.prog w = .ok (.bool false) w := fun _ => by kernel_rfl
  have hff : ∀ (f : Nat) (w : World), (binOp BinOp.neq 73 (.func (.func f) #[] #[]) .nilFunc).run Tryd.prog w = .ok (.bool true) w := fun _ _ => by kernel_rfl
  have Q01 := hide hx1
  have hev : evalX env x = (0, 61) := by rw [hev]; unfold combK; rw [if_neg h1, if_neg h2, if_neg h3]
  rw [hev]
  unfold pairV
  have hn6 : x.op = 6 → madeV x.n = .nilFunc := fun h => by
    unfold madeV
    rw [madeF_none (fun hr => h3 (.inr (.inl ⟨h, hr.1, hr.2⟩)))]
  have hb2 : ((x.op : Int) == 2) = false := by simpa using h2
  have hb7 : ((x.op : Int) == 7) = false := by simpa using (fun h : x.op = 7 => h3 (.inr (.inr h)))
  have h56 : ((x.op : Int) == 5) = false ∨ ((x.n : Int) == 6) = false := by
    by_cases h : x.op = 5
    · right; simpa using (fun h' : x.n = 6 => h3 (.inl ⟨h, h'⟩))
    · left; simpa using h
  have h10 : ((x.op : Int) == 1) = false ∨ ((x.w : Int) == 0) = false := by
    by_cases h : x.op = 1
    · right; simpa using (fun h' : x.w = 0 => h1 ⟨h, h'⟩)
    · left; simpa using h
  have H := hide (And.intro h56 h10)
  clear hev hR hS HR hmay hv hpt IH hE hx1 h1 h2 h3 h56 h10
  by_cases h6 : x.op = 6
  · rw [hn6 h6] at GM
    clear hn6 H hb2 hb7
    generalize x.op = op at *
    subst h6
    go_enter Tryd.func37, Tryd.ntmps37
    go_wp2_with (first
    | (go_at_call 51; refine (GM.out.at_ _).mono ?_; rintro _ _ ⟨rfl, e, rfl⟩)
    | (go_at_call 52; refine (KT.out _ _).mono ?_; rintro _ _ ⟨rfl, rfl⟩)
    | (go_at_call 53; refine (KB.out _ _).mono ?_; rintro _ _ ⟨rfl, rfl⟩))
    all_goals
      go_ret2
      exact ⟨rfl, Q01.out.trans (Later.ext _)⟩
  · have hb6 : ((x.op : Int) == 6) = false := by simpa using h6
    clear h6 hn6
    generalize madeV x.n = mv at *
    obtain ⟨h56, h10⟩ := H.out
    rcases h56 with h56 | h56 <;> rcases h10 with h10 | h10
    all_goals
      clear H
      go_enter Tryd.func37, Tryd.ntmps37
      go_wp2_with (first
    | (go_at_call 51; refine (GM.out.at_ _).mono ?_; rintro _ _ ⟨rfl, e, rfl⟩)
    | (go_at_call 52; refine (KT.out _ _).mono ?_; rintro _ _ ⟨rfl, rfl⟩)
    | (go_at_call 53; refine (KB.out _ _).mono ?_; rintro _ _ ⟨rfl, rfl⟩))
      all_goals
        go_ret2
        exact ⟨rfl, Q01.out.trans (Later.ext _)⟩

set_option maxRecDepth 100000 in
set_option maxHeartbeats 4000000 in
theorem keval_not (B m : Nat) (env : ByteArray → Option Int) (x : X) (h1 : x.op = 5) (h2 : x.n = 6) (IH : ∀ y, y ∈ x.l → EvalOk B m env y) (hmay : MayX x) (hv : VX x) : EvalOk B m env x := by
  intro w cs hR hB hE
  have HR := hide hR
  obtain ⟨x5, rfl, hS⟩ := RX_iff.1 hR
  have o5 := hS.oneCell
  obtain ⟨hv0, hv1, -, -⟩ := VX_iff.1 hv
  obtain ⟨⟨hpt, -, -, -⟩, -⟩ := MayX_iff.1 hmay
  have hev := evalX_eq env x
  obtain ⟨W1, e1, hV1, hx1, hs1, c0, c1, c2, c3, c4, c5⟩ := boxL6 w (.int .i64 x.op) (.string x.name) (.int .i64 x.n) (.int .i64 x.w) (.int .u64 x.v) x5 25
  have GM := hide (show ECalls Tryd.prog 51 #[.int .i64 x.n] W1 (madeV x.n) from fun w' hw => made_any x.n w')
  have KT := hide (fun (z : Int) (w : World) => ktold_any z w)
  have KB := hide (fun (b : Bool) (w : World) => kbit_any b w)
  have hnf : ∀ w : World, (binOp BinOp.neq 73 .nilFunc .nilFunc).run Tryd.prog w = .ok (.bool false) w := fun _ => by kernel_rfl
  have hff : ∀ (f : Nat) (w : World), (binOp BinOp.neq 73 (.func (.func f) #[] #[]) .nilFunc).run Tryd.prog w = .ok (.bool true) w := fun _ _ => by kernel_rfl
  have Q01 := hide hx1
  have hlen : x.l.length = 1 := by unfold partsOk at hpt; omega
  obtain ⟨ax, capx, rfl, hcapx, hrow⟩ := hS
  have hl0 : 0 < x.l.length := by omega
  have IH0 := IH x.l[0] (List.getElem_mem hl0)
  obtain ⟨b0, o0, u00, u01, u02, u03, u04, u05, hab0, hbB0, hRk0, hCk0, -, -, -, -, -, -⟩ := hrow.open6 hl0
  have KE0 := hide (show ECalls Tryd.prog 37 #[.agg #[u00, u01, u02, u03, u04, u05], .map (some m)] W1 (pairV (evalX env x.l[0])) from fun w' hw => IH0 w' _ (hRk0.ext (hx1.trans hw) hB) (Nat.le_trans (Nat.le_trans hB hx1.size) hw.size) (hE.ext (hx1.trans hw)))
  obtain ⟨d00, d01, d02, d03, d04, d05⟩ := (hCk0.ext hx1).later6
  clear IH0 hRk0 hCk0
  have hev : evalX env x = if (evalX env x.l[0]).2 ≠ 0 then ((0 : Int), (evalX env x.l[0]).2) else (bitK ((evalX env x.l[0]).1 == 0), (0 : Int)) := by
    rw [hev]; unfold combK
    rw [if_neg (by omega), if_neg (by omega), if_pos (.inl ⟨h1, h2⟩), if_pos h1]
    simp [hlen]
  rw [hev]
  generalize evalX env x.l[0] = r0 at *
  obtain ⟨r01, r02⟩ := r0
  subst hab0
  unfold pairV at *
  simp only at KE0 ⊢
  clear hev hR HR hmay hv hpt IH hE hx1 hrow hlen hcapx
  generalize x.op = op at *
  generalize x.n = nn at *
  subst h1 h2
  generalize madeV 6 = mv at *
  simp only [Nat.zero_mul, Nat.one_mul, Nat.add_zero, Nat.reduceMul, Nat.reduceAdd, Nat.add_assoc] at d00 d01 d02 d03 d04 d05
  by_cases he : r02 = 0
  · subst he
    rw [if_neg (by simp)]
    go_enter Tryd.func37, Tryd.ntmps37
    go_wp2_with (first
    | (go_at_call 51; refine (GM.out.at_ _).mono ?_; rintro _ _ ⟨rfl, e, rfl⟩)
    | (go_at_call 52; refine (KT.out _ _).mono ?_; rintro _ _ ⟨rfl, rfl⟩)
    | (go_at_call 53; refine (KB.out _ _).mono ?_; rintro _ _ ⟨rfl, rfl⟩)
    | (go_at_call 37; with_reducible refine (KE0.out.at_ _).mono ?_; rintro _ _ ⟨rfl, e, rfl⟩))
    go_ret2
    exact ⟨rfl, Q01.out.trans (Later.ext _)⟩
  · rw [if_pos he]
    have he' : ((r02 : Int) == 0) = false := by simpa using he
    have he2 : ((r02 : Int) != 0) = true := by simpa using he
    clear he
    go_enter Tryd.func37, Tryd.ntmps37
    go_wp2_with (first
    | (go_at_call 51; refine (GM.out.at_ _).mono ?_; rintro _ _ ⟨rfl, e, rfl⟩)
    | (go_at_call 52; refine (KT.out _ _).mono ?_; rintro _ _ ⟨rfl, rfl⟩)
    | (go_at_call 53; refine (KB.out _ _).mono ?_; rintro _ _ ⟨rfl, rfl⟩)
    | (go_at_call 37; with_reducible refine (KE0.out.at_ _).mono ?_; rintro _ _ ⟨rfl, e, rfl⟩))
    go_ret2
    exact ⟨rfl, Q01.out.trans (Later.ext _)⟩

set_option maxRecDepth 100000 in
set_option maxHeartbeats 4000000 in
theorem keval_cond (B m : Nat) (env : ByteArray → Option Int) (x : X) (h1 : x.op = 7) (IH : ∀ y, y ∈ x.l → EvalOk B m env y) (hmay : MayX x) (hv : VX x) : EvalOk B m env x := by
  intro w cs hR hB hE
  have HR := hide hR
  obtain ⟨x5, rfl, hS⟩ := RX_iff.1 hR
  have o5 := hS.oneCell
  obtain ⟨hv0, hv1, -, -⟩ := VX_iff.1 hv
  obtain ⟨⟨hpt, -, -, -⟩, -⟩ := MayX_iff.1 hmay
  have hev := evalX_eq env x
  obtain ⟨W1, e1, hV1, hx1, hs1, c0, c1, c2, c3, c4, c5⟩ := boxL6 w (.int .i64 x.op) (.string x.name) (.int .i64 x.n) (.int .i64 x.w) (.int .u64 x.v) x5 25
  have GM := hide (show ECalls Tryd.prog 51 #[.int .i64 x.n] W1 (madeV x.n) from fun w' hw => made_any x.n w')
  have KT := hide (fun (z : Int) (w : World) => ktold_any z w)
  have KB := hide (fun (b : Bool) (w : World) => kbit_any b w)
  have hnf : ∀ w : World, (binOp BinOp.neq 73 .nilFunc .nilFunc).run Tryd.prog w = .ok (.bool false) w := fun _ => by kernel_rfl
  have hff : ∀ (f : Nat) (w : World), (binOp BinOp.neq 73 (.func (.func f) #[] #[]) .nilFunc).run Tryd.prog w = .ok (.bool true) w := fun _ _ => by kernel_rfl
  have Q01 := hide hx1
  have hlen : x.l.length = 3 := by unfold partsOk at hpt; omega
  obtain ⟨ax, capx, rfl, hcapx, hrow⟩ := hS
  have hl0 : 0 < x.l.length := by omega
  have IH0 := IH x.l[0] (List.getElem_mem hl0)
  obtain ⟨b0, o0, u00, u01, u02, u03, u04, u05, hab0, hbB0, hRk0, hCk0, -, -, -, -, -, -⟩ := hrow.open6 hl0
  have KE0 := hide (show ECalls Tryd.prog 37 #[.agg #[u00, u01, u02, u03, u04, u05], .map (some m)] W1 (pairV (evalX env x.l[0])) from fun w' hw => IH0 w' _ (hRk0.ext (hx1.trans hw) hB) (Nat.le_trans (Nat.le_trans hB hx1.size) hw.size) (hE.ext (hx1.trans hw)))
  obtain ⟨d00, d01, d02, d03, d04, d05⟩ := (hCk0.ext hx1).later6
  clear IH0 hRk0 hCk0
  have hl1 : 1 < x.l.length := by omega
  have IH1 := IH x.l[1] (List.getElem_mem hl1)
  obtain ⟨b1, o1, u10, u11, u12, u13, u14, u15, hab1, hbB1, hRk1, hCk1, -, -, -, -, -, -⟩ := hrow.open6 hl1
  have KE1 := hide (show ECalls Tryd.prog 37 #[.agg #[u10, u11, u12, u13, u14, u15], .map (some m)] W1 (pairV (evalX env x.l[1])) from fun w' hw => IH1 w' _ (hRk1.ext (hx1.trans hw) hB) (Nat.le_trans (Nat.le_trans hB hx1.size) hw.size) (hE.ext (hx1.trans hw)))
  obtain ⟨d10, d11, d12, d13, d14, d15⟩ := (hCk1.ext hx1).later6
  clear IH1 hRk1 hCk1
  have hl2 : 2 < x.l.length := by omega
  have IH2 := IH x.l[2] (List.getElem_mem hl2)
  obtain ⟨b2, o2, u20, u21, u22, u23, u24, u25, hab2, hbB2, hRk2, hCk2, -, -, -, -, -, -⟩ := hrow.open6 hl2
  have KE2 := hide (show ECalls Tryd.prog 37 #[.agg #[u20, u21, u22, u23, u24, u25], .map (some m)] W1 (pairV (evalX env x.l[2])) from fun w' hw => IH2 w' _ (hRk2.ext (hx1.trans hw) hB) (Nat.le_trans (Nat.le_trans hB hx1.size) hw.size) (hE.ext (hx1.trans hw)))
  obtain ⟨d20, d21, d22, d23, d24, d25⟩ := (hCk2.ext hx1).later6
  clear IH2 hRk2 hCk2
  have KB0 := hide (show ECalls Tryd.prog 53 #[.bool false] W1 (.int .i64 0) from ECalls.still fun w' _ => kbit_any false w')
  have KB1 := hide (show ECalls Tryd.prog 53 #[.bool true] W1 (.int .i64 1) from ECalls.still fun w' _ => kbit_any true w')
  have hev : evalX env x = if (evalX env x.l[0]).2 ≠ 0 then ((0 : Int), (evalX env x.l[0]).2) else if (evalX env x.l[0]).1 = 0 then evalX env x.l[2] else evalX env x.l[1] := by
    rw [hev]; unfold combK
    rw [if_neg (by omega), if_neg (by omega), if_pos (.inr (.inr h1)), if_neg (show ¬ x.op = 5 by omega), if_pos h1]
    by_cases hz : (evalX env x.l[0]).1 = 0
    · simp [hlen, hz]
    · simp [hlen, hz]
  rw [hev]
  generalize evalX env x.l[0] = r0 at *
  generalize evalX env x.l[1] = r1 at *
  generalize evalX env x.l[2] = r2 at *
  obtain ⟨r01, r02⟩ := r0
  obtain ⟨r11, r12⟩ := r1
  obtain ⟨r21, r22⟩ := r2
  subst hab0
  obtain ⟨rfl, rfl⟩ : b0 = b1 ∧ o0 = o1 := by simpa using hab1
  obtain ⟨rfl, rfl⟩ : b0 = b2 ∧ o0 = o2 := by simpa using hab2
  unfold pairV at *
  simp only at KE0 KE1 KE2 ⊢
  clear hev hR HR hmay hv hpt IH hE hx1 hrow hlen hcapx hab1 hab2
  generalize x.op = op at *
  subst h1
  generalize madeV x.n = mv at *
  simp only [Nat.zero_mul, Nat.one_mul, Nat.add_zero, Nat.reduceMul, Nat.reduceAdd, Nat.add_assoc] at d00 d01 d02 d03 d04 d05 d10 d11 d12 d13 d14 d15 d20 d21 d22 d23 d24 d25
  by_cases he0 : r02 = 0
  · subst he0
    rw [if_neg (by simp)]
    by_cases hz : r01 = 0
    · subst hz
      simp only [if_true]
      go_enter Tryd.func37, Tryd.ntmps37
      go_wp2_with (first
    | (go_at_call 51; refine (GM.out.at_ _).mono ?_; rintro _ _ ⟨rfl, e, rfl⟩)
    | (go_at_call 52; refine (KT.out _ _).mono ?_; rintro _ _ ⟨rfl, rfl⟩)
    | (go_at_call 53; refine (KB.out _ _).mono ?_; rintro _ _ ⟨rfl, rfl⟩)
    | (go_at_call 37; with_reducible refine (KE0.out.at_ _).mono ?_; rintro _ _ ⟨rfl, e, rfl⟩))
      refine wp_region_later (W := W1) (by kernel_rfl) (by kernel_rfl) (Later.ext _) ?_
      repeat (go_big_quiet_step (first
        | (go_at_call 53; with_reducible exact KB0.out.at_ _) | (go_at_call 53; with_reducible exact KB1.out.at_ _)
        | (go_at_call 37; exact KE2.out.at_ _)))
      refine wpQuiet_nil ?_
      rintro _ ⟨e, rfl⟩
      go_wp2_with fail
      go_ret2
      exact ⟨rfl, Q01.out.trans (Later.ext _)⟩
    · rw [if_neg hz]
      have hz' : ((r01 : Int) == 0) = false := by simpa using hz
      clear hz
      go_enter Tryd.func37, Tryd.ntmps37
      go_wp2_with (first
    | (go_at_call 51; refine (GM.out.at_ _).mono ?_; rintro _ _ ⟨rfl, e, rfl⟩)
    | (go_at_call 52; refine (KT.out _ _).mono ?_; rintro _ _ ⟨rfl, rfl⟩)
    | (go_at_call 53; refine (KB.out _ _).mono ?_; rintro _ _ ⟨rfl, rfl⟩)
    | (go_at_call 37; with_reducible refine (KE0.out.at_ _).mono ?_; rintro _ _ ⟨rfl, e, rfl⟩))
      refine wp_region_later (W := W1) (by kernel_rfl) (by kernel_rfl) (Later.ext _) ?_
      repeat (go_big_quiet_step (first
        | (go_at_call 53; with_reducible exact KB0.out.at_ _) | (go_at_call 53; with_reducible exact KB1.out.at_ _)
        | (go_at_call 37; exact KE1.out.at_ _)))
      refine wpQuiet_nil ?_
      rintro _ ⟨e, rfl⟩
      go_wp2_with fail
      go_ret2
      exact ⟨rfl, Q01.out.trans (Later.ext _)⟩
  · rw [if_pos he0]
    have he' : ((r02 : Int) == 0) = false := by simpa using he0
    have he2 : ((r02 : Int) != 0) = true := by simpa using he0
    clear he0
    go_enter Tryd.func37, Tryd.ntmps37
    go_wp2_with (first
    | (go_at_call 51; refine (GM.out.at_ _).mono ?_; rintro _ _ ⟨rfl, e, rfl⟩)
    | (go_at_call 52; refine (KT.out _ _).mono ?_; rintro _ _ ⟨rfl, rfl⟩)
    | (go_at_call 53; refine (KB.out _ _).mono ?_; rintro _ _ ⟨rfl, rfl⟩)
    | (go_at_call 37; with_reducible refine (KE0.out.at_ _).mono ?_; rintro _ _ ⟨rfl, e, rfl⟩))
    go_ret2
    exact ⟨rfl, Q01.out.trans (Later.ext _)⟩

set_option maxRecDepth 100000 in
set_option maxHeartbeats 4000000 in
theorem keval_two (B m : Nat) (env : ByteArray → Option Int) (x : X) (h1 : x.op = 6) (hn : 14 ≤ x.n ∧ x.n ≤ 26) (IH : ∀ y, y ∈ x.l → EvalOk B m env y) (hmay : MayX x) (hv : VX x) : EvalOk B m env x := by
  intro w cs hR hB hE
  have HR := hide hR
  obtain ⟨x5, rfl, hS⟩ := RX_iff.1 hR
  have o5 := hS.oneCell
  obtain ⟨hv0, hv1, -, -⟩ := VX_iff.1 hv
  obtain ⟨⟨hpt, -, -, -⟩, -⟩ := MayX_iff.1 hmay
  have hev := evalX_eq env x
  obtain ⟨W1, e1, hV1, hx1, hs1, c0, c1, c2, c3, c4, c5⟩ := boxL6 w (.int .i64 x.op) (.string x.name) (.int .i64 x.n) (.int .i64 x.w) (.int .u64 x.v) x5 25
  have GM := hide (show ECalls Tryd.prog 51 #[.int .i64 x.n] W1 (madeV x.n) from fun w' hw => made_any x.n w')
  have KT := hide (fun (z : Int) (w : World) => ktold_any z w)
  have KB := hide (fun (b : Bool) (w : World) => kbit_any b w)
  have hnf : ∀ w : World, (binOp BinOp.neq 73 .nilFunc .nilFunc).run Tryd.prog w = .ok (.bool false) w := fun _ => by kernel_rfl
  have hff : ∀ (f : Nat) (w : World), (binOp BinOp.neq 73 (.func (.func f) #[] #[]) .nilFunc).run Tryd.prog w = .ok (.bool true) w := fun _ _ => by kernel_rfl
  have Q01 := hide hx1
  have hlen : x.l.length = 2 := by unfold partsOk at hpt; omega
  obtain ⟨ax, capx, rfl, hcapx, hrow⟩ := hS
  have hl0 : 0 < x.l.length := by omega
  have IH0 := IH x.l[0] (List.getElem_mem hl0)
  obtain ⟨b0, o0, u00, u01, u02, u03, u04, u05, hab0, hbB0, hRk0, hCk0, -, -, -, -, -, -⟩ := hrow.open6 hl0
  have KE0 := hide (show ECalls Tryd.prog 37 #[.agg #[u00, u01, u02, u03, u04, u05], .map (some m)] W1 (pairV (evalX env x.l[0])) from fun w' hw => IH0 w' _ (hRk0.ext (hx1.trans hw) hB) (Nat.le_trans (Nat.le_trans hB hx1.size) hw.size) (hE.ext (hx1.trans hw)))
  obtain ⟨d00, d01, d02, d03, d04, d05⟩ := (hCk0.ext hx1).later6
  clear IH0 hRk0 hCk0
  have hl1 : 1 < x.l.length := by omega
  have IH1 := IH x.l[1] (List.getElem_mem hl1)
  obtain ⟨b1, o1, u10, u11, u12, u13, u14, u15, hab1, hbB1, hRk1, hCk1, -, -, -, -, -, -⟩ := hrow.open6 hl1
  have KE1 := hide (show ECalls Tryd.prog 37 #[.agg #[u10, u11, u12, u13, u14, u15], .map (some m)] W1 (pairV (evalX env x.l[1])) from fun w' hw => IH1 w' _ (hRk1.ext (hx1.trans hw) hB) (Nat.le_trans (Nat.le_trans hB hx1.size) hw.size) (hE.ext (hx1.trans hw)))
  obtain ⟨d10, d11, d12, d13, d14, d15⟩ := (hCk1.ext hx1).later6
  clear IH1 hRk1 hCk1
  obtain ⟨f, hf⟩ := madeF_some hn
  have hmv : madeV x.n = .func (.func f) #[] #[] := by unfold madeV fnV; rw [hf]
  have hcf := (madeF_enters hf).out
  have HTWO := hide (fun (a b : Int) (w : World) (h : 0 ≤ a ∧ a ≤ 2147483647) (h' : 0 ≤ b ∧ b ≤ 2147483647) => madeF_any hf a b w h.1 h.2 h'.1 h'.2)
  have hbd0 := eval_val (env := env) (x := x.l[0])
  have hbd1 := eval_val (env := env) (x := x.l[1])
  have hev : evalX env x = if (evalX env x.l[0]).2 ≠ 0 then ((0 : Int), (evalX env x.l[0]).2) else if (evalX env x.l[1]).2 ≠ 0 then ((0 : Int), (evalX env x.l[1]).2) else toldK (twoK x.n (evalX env x.l[0]).1 (evalX env x.l[1]).1) := by
    rw [hev]; unfold combK
    rw [if_neg (by omega), if_neg (by omega), if_pos (.inr (.inl ⟨h1, hn.1, hn.2⟩)), if_neg (show ¬ x.op = 5 by omega), if_neg (show ¬ x.op = 7 by omega)]
    simp [hlen]
  rw [hev]
  rw [hmv] at GM
  generalize evalX env x.l[0] = r0 at *
  generalize evalX env x.l[1] = r1 at *
  obtain ⟨r01, r02⟩ := r0
  obtain ⟨r11, r12⟩ := r1
  subst hab0
  obtain ⟨rfl, rfl⟩ : b0 = b1 ∧ o0 = o1 := by simpa using hab1
  have HBD := hide (And.intro hbd0 hbd1)
  unfold pairV at *
  simp only at KE0 KE1 HBD ⊢
  clear hev hR HR hmay hv hpt IH hE hx1 hrow hlen hcapx hab1 hf hmv hn hbd0 hbd1
  generalize x.op = op at *
  subst h1
  simp only [Nat.zero_mul, Nat.one_mul, Nat.add_zero, Nat.reduceMul, Nat.reduceAdd, Nat.add_assoc] at d00 d01 d02 d03 d04 d05 d10 d11 d12 d13 d14 d15
  by_cases he0 : r02 = 0
  · subst he0
    rw [if_neg (by simp)]
    by_cases hz : r12 = 0
    · subst hz
      rw [if_neg (by simp)]
      go_enter Tryd.func37, Tryd.ntmps37
      go_wp2_with (first
    | (go_at_call 51; refine (GM.out.at_ _).mono ?_; rintro _ _ ⟨rfl, e, rfl⟩)
    | (go_at_call 52; refine (KT.out _ _).mono ?_; rintro _ _ ⟨rfl, rfl⟩)
    | (go_at_call 53; refine (KB.out _ _).mono ?_; rintro _ _ ⟨rfl, rfl⟩)
    | (go_at_call 37; with_reducible refine (KE0.out.at_ _).mono ?_; rintro _ _ ⟨rfl, e, rfl⟩)
    | (go_at_call 37; with_reducible refine (KE1.out.at_ _).mono ?_; rintro _ _ ⟨rfl, e, rfl⟩))
      refine (HTWO.out _ _ _ HBD.out.1 HBD.out.2).mono ?_
      rintro _ _ ⟨rfl, rfl⟩
      go_wp2_with (first
    | (go_at_call 51; refine (GM.out.at_ _).mono ?_; rintro _ _ ⟨rfl, e, rfl⟩)
    | (go_at_call 52; refine (KT.out _ _).mono ?_; rintro _ _ ⟨rfl, rfl⟩)
    | (go_at_call 53; refine (KB.out _ _).mono ?_; rintro _ _ ⟨rfl, rfl⟩)
    | (go_at_call 37; with_reducible refine (KE0.out.at_ _).mono ?_; rintro _ _ ⟨rfl, e, rfl⟩)
    | (go_at_call 37; with_reducible refine (KE1.out.at_ _).mono ?_; rintro _ _ ⟨rfl, e, rfl⟩))
      go_ret2
      exact ⟨rfl, Q01.out.trans (Later.ext _)⟩
    · rw [if_pos hz]
      have hz' : ((r12 : Int) == 0) = false := by simpa using hz
      have hz2 : ((r12 : Int) != 0) = true := by simpa using hz
      clear hz
      go_enter Tryd.func37, Tryd.ntmps37
      go_wp2_with (first
    | (go_at_call 51; refine (GM.out.at_ _).mono ?_; rintro _ _ ⟨rfl, e, rfl⟩)
    | (go_at_call 52; refine (KT.out _ _).mono ?_; rintro _ _ ⟨rfl, rfl⟩)
    | (go_at_call 53; refine (KB.out _ _).mono ?_; rintro _ _ ⟨rfl, rfl⟩)
    | (go_at_call 37; with_reducible refine (KE0.out.at_ _).mono ?_; rintro _ _ ⟨rfl, e, rfl⟩)
    | (go_at_call 37; with_reducible refine (KE1.out.at_ _).mono ?_; rintro _ _ ⟨rfl, e, rfl⟩))
      go_ret2
      exact ⟨rfl, Q01.out.trans (Later.ext _)⟩
  · rw [if_pos he0]
    have he' : ((r02 : Int) == 0) = false := by simpa using he0
    have he2 : ((r02 : Int) != 0) = true := by simpa using he0
    clear he0
    go_enter Tryd.func37, Tryd.ntmps37
    go_wp2_with (first
    | (go_at_call 51; refine (GM.out.at_ _).mono ?_; rintro _ _ ⟨rfl, e, rfl⟩)
    | (go_at_call 52; refine (KT.out _ _).mono ?_; rintro _ _ ⟨rfl, rfl⟩)
    | (go_at_call 53; refine (KB.out _ _).mono ?_; rintro _ _ ⟨rfl, rfl⟩)
    | (go_at_call 37; with_reducible refine (KE0.out.at_ _).mono ?_; rintro _ _ ⟨rfl, e, rfl⟩))
    go_ret2
    exact ⟨rfl, Q01.out.trans (Later.ext _)⟩

theorem keval_any (B m : Nat) (env : ByteArray → Option Int) (x : X) : MayX x → VX x → EvalOk B m env x := by
  induction x using X.ind with
  | h x ih =>
    intro hm hv
    have hm' := (MayX_iff.1 hm).2
    have hv' := (VX_iff.1 hv).2.2.2
    have IH : ∀ y, y ∈ x.l → EvalOk B m env y := fun y hy => ih y hy (hm' y hy) (hv' y hy)
    by_cases h1 : x.op = 1 ∧ x.w = 0
    · exact keval_num B m env x h1.1 h1.2 IH hm hv
    · by_cases h2 : x.op = 2
      · exact keval_name B m env x h2 IH hm hv
      · by_cases h3 : opK x.op x.n
        · rcases h3 with h3 | h3 | h3
          · exact keval_not B m env x h3.1 h3.2 IH hm hv
          · exact keval_two B m env x h3.1 h3.2 IH hm hv
          · exact keval_cond B m env x h3 IH hm hv
        · exact keval_no B m env x h1 h2 h3 IH hm hv

end Go.Proofs.YtonbgnaopkopoaaDoor
