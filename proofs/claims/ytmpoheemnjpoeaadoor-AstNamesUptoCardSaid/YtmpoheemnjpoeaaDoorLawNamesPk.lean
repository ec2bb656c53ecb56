/-
  THE LAW AstNames: WHAT IT COMPUTES.
-/
import Derived.Test.YtmpoheemnjpoeaaDoorLivePk
import Derived.Test.YtmpoheemnjpoeaaDoorLawPPk
import Derived.Test.YtmpoheemnjpoeaaDoorAppPk
import Derived.Test.YtmpoheemnjpoeaaDoorRefFPk
import Derived.Test.YtmpoheemnjpoeaaDoorRefGPk
namespace Go.Proofs.YtmpoheemnjpoeaaDoor
open Go Go.RowKit
set_option linter.all false
set_option linter.unusedVariables false
set_option linter.unusedSimpArgs false
set_option linter.unusedVariables false
set_option linter.unusedSimpArgs false
attribute [local go_sem] run_store_one

theorem mem_addOne {o : List ByteArray} {s t : ByteArray} : t ∈ addOne o s ↔ t ∈ o ∨ t = s := by
  by_cases h : s ∈ o
  · rw [addOne_in h]; exact ⟨.inl, fun h' => h'.elim id (fun e => e ▸ h)⟩
  · rw [addOne_out h]; simp
theorem mem_addAll {t : ByteArray} (l : List ByteArray) : ∀ o : List ByteArray, t ∈ addAll o l ↔ t ∈ o ∨ t ∈ l := by
  induction l with
  | nil => intro o; simp [addAll]
  | cons s r ih => intro o; show t ∈ addAll (addOne o s) r ↔ _; rw [ih, mem_addOne, List.mem_cons, or_assoc]
theorem addAll_of_addOne (o p : List ByteArray) (s : ByteArray) : addAll o (addOne p s) = addOne (addAll o p) s := by
  by_cases h : s ∈ p
  · rw [addOne_in h, addOne_in ((mem_addAll p o).2 (.inr h))]
  · rw [addOne_out h, addAll_append, addAll_one]
theorem addAll_addAll (l : List ByteArray) : ∀ o p : List ByteArray, addAll o (addAll p l) = addAll (addAll o p) l := by
  induction l with
  | nil => intro o p; rfl
  | cons s r ih => intro o p; show addAll o (addAll (addOne p s) r) = addAll (addOne (addAll o p) s) r; rw [ih, addAll_of_addOne]
theorem nodup_addAll (l : List ByteArray) : ∀ o : List ByteArray, o.Nodup → (addAll o l).Nodup := by
  induction l with
  | nil => intro o h; exact h
  | cons s r ih =>
    intro o h
    refine ih (addOne o s) ?_
    by_cases hs : s ∈ o
    · rw [addOne_in hs]; exact h
    · rw [addOne_out hs]
      refine List.nodup_append.2 ⟨h, by simp, fun a ha b hb => ?_⟩
      simp at hb
      subst hb
      intro e
      exact hs (e ▸ ha)
/-- Two expressions as the operands of a third. -/
def xBoth (x y : X) : X := .mk 6 tE 14 0 0 [x, y]
theorem free_both (x y : X) : freeX (xBoth x y) = addAll (freeX x) (freeX y) := by
  show addAll [] (namesX (xBoth x y)) = addAll (freeX x) (addAll [] (namesX y))
  rw [addAll_addAll, namesX_eq]
  simp [xBoth, X.op, X.l, hasName, addAll_append, freeX, addAll_nil]
theorem free_nodup (x : X) : (freeX x).Nodup := nodup_addAll _ [] (by simp)
theorem size_both (x y : X) : sizeX (xBoth x y) = 1 + sizeX x + sizeX y := by rw [sizeX_eq]; simp [xBoth, X.l, msize]; omega
theorem freeX_le (x : X) : (freeX x).length ≤ sizeX x := by
  have := addAll_le (namesX x) []
  have := namesX_le x
  unfold freeX
  simp at *
  omega
theorem not_before {x : X} {k : Nat} (hk : k < (freeX x).length) : ¬ (freeX x)[k] ∈ (freeX x).take k := fun h => by
  obtain ⟨i, hi, he⟩ := List.getElem_of_mem h
  rw [List.length_take] at hi
  rw [List.getElem_take] at he
  have := (List.getElem_inj (free_nodup x)).1 he
  omega

theorem SStr.block {w : World} {l : List ByteArray} {v : Value} (h : SStr w l v) {w' : World} {row : Option Nat} (hg : w.grownBy w' row) (hne : ∀ g, v.ownBlock = some g → row ≠ some g) : SStr w' l v := by
  obtain ⟨a, cap, rfl, hc, hr⟩ := h
  refine ⟨a, cap, rfl, hc, fun k hk => ?_⟩
  obtain ⟨b, o, rfl, h1⟩ := hr k hk
  exact ⟨b, o, rfl, hg.cell h1 (fun e => hne b rfl e.symm)⟩
theorem SStr.take {w : World} {l : List ByteArray} {a : Option Addr} {n cap k : Nat} (h : SStr w l (.slice a n cap)) (hk : k < l.length) : SStr w (l.take k) (Go.sliced a 0 k cap 1) := by
  obtain ⟨a', cap', he, hc, hr⟩ := h
  obtain ⟨rfl, rfl, rfl⟩ := Value.slice.inj he
  refine ⟨_, cap - 0, by unfold Go.sliced; rw [List.length_take, Nat.min_eq_left (by omega)]; rfl, by rw [List.length_take]; omega, fun i hi => ?_⟩
  rw [List.length_take] at hi
  obtain ⟨b, o, rfl, h1⟩ := hr i (by omega)
  rw [if_neg (by omega), List.getElem_take]
  exact ⟨b, o, congrArg some (addr_add0 b o (0 * 1)), by simpa using h1⟩
/-- A slice that is a row of the call's own, with its cells. -/
theorem Flat.of_own {w : World} {base : Nat} {e : TypeId} {sz n : Nat} {v : Value} {xs : List Value} (h : w.ownsRow base e sz v n xs) (h1 : ∀ u ∈ xs, u.oneCell' = true) : ∃ a cap, v = .slice a n cap ∧ Flat w sz a n xs := by
  have hl := h.1
  rcases h.2 with ⟨rfl, rfl⟩ | ⟨g, cap, cur, rfl, -⟩
  · obtain rfl : xs = [] := List.eq_nil_of_length_eq_zero (by simpa using hl)
    exact ⟨none, 0, rfl, Flat.none_⟩
  · exact ⟨_, cap, rfl, hl, h1, fun _ => ⟨g, 0, rfl, fun j u hu => by have := h.cells (g := g) rfl j u hu; rw [addr_add0] at this; exact this⟩⟩
theorem one_strs (l : List ByteArray) : ∀ u ∈ l.map Value.string, u.oneCell' = true := by
  intro u hu
  obtain ⟨s, -, rfl⟩ := List.mem_map.1 hu
  rfl

theorem own_form {w : World} {base : Nat} {t : TypeId} {sz n : Nat} {v : Value} {xs : List Value} (h : w.ownsRow base t sz v n xs) : ∃ a cap, v = .slice a n cap := by
  rcases h.2 with ⟨rfl, rfl⟩ | ⟨g, cap, cur, rfl, -⟩ <;> exact ⟨_, _, rfl⟩
theorem own_ext {w w' : World} {base : Nat} {e : TypeId} {sz n : Nat} {v : Value} {xs : List Value} (h : w.ownsRow base e sz v n xs) (hx : Ext w w') : w'.ownsRow base e sz v n xs :=
  h.kept (Ext.grow hx) (by cases v.ownBlock <;> simp)

def FCalls (P : Program) (args : Array Value) (W : World) (l : List ByteArray) : Prop := ∀ w, Ext W w → Calls P 19 args w fun x w' => ∃ a cap, x = .returned (.slice a l.length cap) ∧ w'.ownsRow w.heap.size 9 1 (.slice a l.length cap) l.length (l.map .string) ∧ Ext w w'

theorem infoStr : (Tryd.prog.info? 9).map (fun i => (i.zero, i.size, i.bytes)) = some (some (.string ⟨#[]⟩), 1, 16) := by kernel_rfl

set_option maxRecDepth 20000 in
set_option maxHeartbeats 8000000 in
theorem lawNames_any (B : Nat) (x y : X) (w : World) (cx cy : List Value) (hT : Tabs w) (hB : B ≤ w.heap.size) (hx : RX w B x cx) (hy : RX w B y cy) (zx : sizeX x ≤ 10000000) (zy : sizeX y ≤ 10000000) (Vx : VX x) (Vy : VX y) :
    Calls Tryd.prog 8 #[.agg cx.toArray, .agg cy.toArray] w fun e w' => e = .returned (.bool true) ∧ Ext w w' := by
  have HX := hide hx
  have HY := hide hy
  have HTab := hide hT
  obtain ⟨x5, rfl, hx5⟩ := RX_iff.1 hx
  obtain ⟨y5, rfl, hy5⟩ := RX_iff.1 hy
  have ox := hx5.oneCell
  have oy := hy5.oneCell
  clear hx hy hT hx5 hy5
  obtain ⟨W1, e1, hV1, hx1, -, c0, c1, c2, c3, c4, c5⟩ := boxL6 w (.int .i64 x.op) (.string x.name) (.int .i64 x.n) (.int .i64 x.w) (.int .u64 x.v) x5 25
  obtain ⟨W2, e2, hV2, hx2, -, d0, d1, d2, d3, d4, d5⟩ := boxL6 e1.w (.int .i64 y.op) (.string y.name) (.int .i64 y.n) (.int .i64 y.w) (.int .u64 y.v) y5 25
  have q12 := e1.ext.trans hx2
  have q02 := hx1.trans q12
  have c0 := cellL c0 q12
  have c1 := cellL c1 q12
  have c2 := cellL c2 q12
  have c3 := cellL c3 q12
  have c4 := cellL c4 q12
  have c5 := cellL c5 q12
  have hB2 : B ≤ W2.heap.size := Nat.le_trans hB q02.size
  have GL := hide (show ECalls Tryd.prog 11 #[] W2 (.bool true) from fun w' hw => live_any w' (HTab.out.ext (q02.trans hw)))
  have GX := hide (show ECalls Tryd.prog 12 #[.agg #[.int .i64 x.op, .string x.name, .int .i64 x.n, .int .i64 x.w, .int .u64 x.v, x5]] W2 (.bool (yes (fewP (sizeX x) (deepX x)))) from fun w' hw => fewX_any B x w' _ (HX.out.ext (q02.trans hw) hB) (Nat.le_trans hB2 hw.size) (by omega))
  have GY := hide (show ECalls Tryd.prog 12 #[.agg #[.int .i64 y.op, .string y.name, .int .i64 y.n, .int .i64 y.w, .int .u64 y.v, y5]] W2 (.bool (yes (fewP (sizeX y) (deepX y)))) from fun w' hw => fewX_any B y w' _ (HY.out.ext (q02.trans hw) hB) (Nat.le_trans hB2 hw.size) (by omega))
  have free_of : ∀ (z : X) (cz : List Value) (W' : World) (B' : Nat), RX W' B' z cz → B' ≤ W'.heap.size → sizeX z ≤ 100000000 → FCalls Tryd.prog #[.agg cz.toArray] W' (freeX z) := fun z cz W' B' hR hB' hz w' hw =>
    (Free_any B' z w' cz (hR.ext hw hB') (Nat.le_trans hB' hw.size) hz).mono fun _ _ ⟨v, h1, h2, h3⟩ => by
      obtain ⟨a, cap, rfl, -⟩ := Flat.of_own h2 (one_strs _)
      exact ⟨a, cap, h1, h2, h3⟩
  have FX := hide (free_of x _ W2 B (HX.out.ext q02 hB) hB2 (by omega))
  have FY := hide (free_of y _ W2 B (HY.out.ext q02 hB) hB2 (by omega))
  have FB := hide (fun (W' : World) (q : Nat) (hw : Ext W2 W') (hc : Blk W' q 25 ([.int .i64 x.op, .string x.name, .int .i64 x.n, .int .i64 x.w, .int .u64 x.v, x5] ++ [.int .i64 y.op, .string y.name, .int .i64 y.n, .int .i64 y.w, .int .u64 y.v, y5])) =>
    free_of (xBoth x y) [.int .i64 6, .string ⟨#[]⟩, .int .i64 14, .int .i64 0, .int .u64 0, .slice (some ⟨q, 0, none⟩) 2 2] W' W'.heap.size
      (RX_iff.2 ⟨_, rfl, Sl.two hc.lt rfl rfl hc.cells (by intro v hv; simp only [List.cons_append, List.nil_append, List.mem_cons, List.not_mem_nil, or_false] at hv; rcases hv with rfl | rfl | rfl | rfl | rfl | rfl | rfl | rfl | rfl | rfl | rfl | rfl <;> first | exact ox | exact oy | rfl)
        ((HX.out.ext (q02.trans hw) hB).more (Nat.le_trans hB2 hw.size)) ((HY.out.ext (q02.trans hw) hB).more (Nat.le_trans hB2 hw.size))⟩) (Nat.le_refl _) (by rw [size_both]; omega))
  rw [free_both] at FB
  have lx := freeX_le x
  have ly := freeX_le y
  have lb := freeX_le (xBoth x y)
  rw [size_both, free_both] at lb
  have NB := hide (fun (k : Nat) (hk : k < (addAll (freeX x) (freeX y)).length) => (show ¬ (addAll (freeX x) (freeX y))[k] ∈ (addAll (freeX x) (freeX y)).take k by
    have := not_before (x := xBoth x y) (k := k)
    simp only [free_both] at this
    exact this hk))
  have Q02 := hide q02
  have hlx : (freeX x).length ≤ 10000000 := by omega
  have hly : (freeX y).length ≤ 10000000 := by omega
  have hlb : (addAll (freeX x) (freeX y)).length ≤ 100000000 := by omega
  clear HX HY HTab hx1 hx2 q12 q02 zx zy Vx Vy free_of lx ly lb
  generalize yes (fewP (sizeX x) (deepX x)) = b1 at *
  generalize yes (fewP (sizeX y) (deepX y)) = b2 at *
  generalize freeX x = fx at *
  generalize freeX y = fy at *
  by_cases hfew : b1 = true ∧ b2 = true
  case neg =>
    go_enter Tryd.func8, Tryd.ntmps8
    go_wp2_with (first
      | (go_at_call 11; refine (GL.out.at_ _).mono ?_; rintro _ _ ⟨rfl, e, rfl⟩)
      | (go_at_call 12; with_reducible refine (GX.out.at_ _).mono ?_; rintro _ _ ⟨rfl, e, rfl⟩)
      | (go_at_call 12; with_reducible refine (GY.out.at_ _).mono ?_; rintro _ _ ⟨rfl, e, rfl⟩))
    all_goals first
      | (go_ret
         exact ⟨rfl, Q02.out.trans (Later.ext _)⟩)
      | (exfalso; clear GL GX GY FX FY FB NB; simp_all; done)
  case pos =>
    obtain ⟨rfl, rfl⟩ := hfew
    obtain ⟨ti, hti, htz, hts, htb⟩ := info_parts infoStr
    go_enter Tryd.func8, Tryd.ntmps8
    go_wp2_with (first
      | (go_at_call 11; refine (GL.out.at_ _).mono ?_; rintro _ _ ⟨rfl, e, rfl⟩)
      | (go_at_call 12; with_reducible refine (GX.out.at_ _).mono ?_; rintro _ _ ⟨rfl, e, rfl⟩))
    refine (GY.out.at_ _).mono ?_
    rintro _ _ ⟨rfl, e, rfl⟩
    obtain ⟨Wq, hWq⟩ : ∃ Wq, Wq = e.w.alloc (.cells #[.int .i64 x.op, .string x.name, .int .i64 x.n, .int .i64 x.w, .int .u64 x.v, x5, .int .i64 y.op, .string y.name, .int .i64 y.n, .int .i64 y.w, .int .u64 y.v, y5] 25) := ⟨_, rfl⟩
    have hbq : Blk Wq e.w.heap.size 25 ([.int .i64 x.op, .string x.name, .int .i64 x.n, .int .i64 x.w, .int .u64 x.v, x5] ++ [.int .i64 y.op, .string y.name, .int .i64 y.n, .int .i64 y.w, .int .u64 y.v, y5]) := by rw [hWq]; exact Blk.new _ _ ([_, _, _, _, _, _] ++ [_, _, _, _, _, _])
    have hxq : Ext e.w Wq := by rw [hWq]; exact Ext.new _ _
    obtain ⟨eq, heq⟩ := Later.mk_ex (e.ext.trans hxq)
    subst heq
    obtain ⟨Wr, hWr, hxr, hbr⟩ := box6 eq.w (.int .i64 6) (.string ⟨#[]⟩) (.int .i64 14) (.int .i64 0) (.int .u64 0) (.slice (some ⟨e.w.heap.size, 0, none⟩) 2 2) 25
    obtain ⟨er, her⟩ := Later.mk_ex (eq.ext.trans hxr)
    subst her
    have hVq := hWq.symm
    have hVr := hWr.symm
    have HBQ := hide (hbq.ext hxr)
    have HBR := hide hbr
    clear hWq hWr hxq hxr hbq hbr
    obtain ⟨Ws, hWs⟩ : ∃ Ws, Ws = er.w.alloc (.cells #[] 9) := ⟨_, rfl⟩
    have hxs : Ext er.w Ws := by rw [hWs]; exact Ext.new _ _
    have hszs : er.w.heap.size + 1 = Ws.heap.size := by rw [hWs]; simp
    have howns : Ws.ownsRow er.w.heap.size 9 1 (.slice (some ⟨er.w.heap.size, 0, none⟩) 0 0) 0 [] := by
      refine ⟨by simp, .inr ⟨er.w.heap.size, 0, #[], rfl, Nat.le_refl _, ?_, Nat.le_refl _, by decide, by simp, by simp⟩⟩
      rw [hWs]
      exact Blk.new _ _ []
    obtain ⟨es, hes⟩ := Later.mk_ex (er.ext.trans hxs)
    subst hes
    have HXS := hide hxs
    have HSZS := hide hszs
    have HOWNS := hide howns
    have hVs := hWs.symm
    clear hWs hxs hszs howns
    go_wp2_with fail
    refine (FX.out _ es.ext).mono ?_
    rintro _ w3 ⟨ax, capx, rfl, hown3, hx3⟩
    obtain ⟨a3', c3', he3, hfl3⟩ := Flat.of_own hown3 (one_strs _)
    obtain ⟨rfl, -, rfl⟩ := Value.slice.inj he3
    have hownS3 := own_ext HOWNS.out hx3
    have hx23 := es.ext.trans hx3
    have hxr3 := HXS.out.trans hx3
    obtain ⟨e3, he3'⟩ := Later.mk_ex hx23
    subst he3'
    have HFL3 := hide hfl3
    have HOS3 := hide hownS3
    have HXR3 := hide hxr3
    clear hown3 hx3 hfl3 hownS3 hx23 hxr3 he3
    go_wp2_with (at_builtin; refine wpList_append_flat rfl _ _ 36 rfl er.w.heap.size 9 ti _ 1 16 Tryd.underlying36 hti htz hts htb rfl (by decide) (by decide) (.slice (some ⟨er.w.heap.size, 0, none⟩) 0 0) 0 [] rfl HOS3.out ax fx.length capx (fx.map .string) rfl HFL3.out (by omega) (by omega) (by have := HXR3.out.size; omega) ?_; intro v4 w4 hown4 hg4 hf4
                 simp only [Nat.zero_add, List.nil_append] at hown4
                 have hxr4 : Ext er.w w4 := HXR3.out.grown hg4 (by intro r hr; simp [Value.ownBlock] at hr; omega)
                 have hx24 := er.ext.trans hxr4
                 obtain ⟨e4, he4⟩ := Later.mk_ex hx24
                 subst he4
                 obtain ⟨A4, c4', rfl⟩ := own_form hown4
                 have HO4 := hide hown4
                 have HXR4 := hide hxr4
                 clear hown4 hg4 hf4 hxr4 hx24)
    refine (FY.out _ e4.ext).mono ?_
    rintro _ w5 ⟨am, capm, rfl, hown5, hx5⟩
    have hsm := SStr.of_row hown5
    have hmb : ∀ g, (Value.slice am fy.length capm).ownBlock = some g → e4.w.heap.size ≤ g ∧ g < w5.heap.size := fun g hg => hown5.lt g hg
    have hownW := own_ext HO4.out hx5
    have hwb : ∀ g, (Value.slice A4 fx.length c4').ownBlock = some g → er.w.heap.size ≤ g ∧ g < e4.w.heap.size := fun g hg => HO4.out.lt g hg
    have hxr5 := HXR4.out.trans hx5
    have hx25 := e4.ext.trans hx5
    obtain ⟨e5, he5⟩ := Later.mk_ex hx25
    subst he5
    have HMB := hide hmb
    have HWB := hide hwb
    have HXR5 := hide hxr5
    have HS45 := hide hx5.size
    have HSM := hide hsm
    have HOW := hide hownW
    clear hown5 hx5 hsm hmb hownW hwb hxr5 hx25
    go_wp2_with fail
    go_loopw [7, 9] (fun v i wr => ∃ k : Nat, k ≤ fy.length ∧ i = .int .i64 k ∧ wr.ownsRow er.w.heap.size 9 1 v (addAll fx (fy.take k)).length ((addAll fx (fy.take k)).map .string) ∧ SStr wr fy (.slice am fy.length capm) ∧
        (∀ g, v.ownBlock = some g → g < e4.w.heap.size ∨ e5.w.heap.size ≤ g) ∧ e5.w.heap.size ≤ wr.heap.size ∧ Ext er.w wr) (fun _ i _ => fy.length - (intOf i).toNat)
    case atStart => exact ⟨0, Nat.zero_le _, rfl, by simpa [addAll_nil] using HOW.out, HSM.out, fun g hg => .inl (HWB.out g hg).2, Nat.le_refl _, HXR5.out⟩
    case round =>
      obtain ⟨k, hk, rfl, hown, hsm, hfr, hsz, hxr⟩ := hrel
      have hll := addAll_le (fy.take k) fx
      rw [List.length_take] at hll
      by_cases hlt : k < fy.length
      · have CA := hide (refAmong_any _ fy[k] wr u7 (SStr.of_row hown) (by omega))
        obtain ⟨am', capm', he, hcm, hrm⟩ := id hsm
        obtain ⟨rfl, -, rfl⟩ := Value.slice.inj he
        obtain ⟨bm, om, rfl, hcell⟩ := hrm k hlt
        have hstep : addAll fx (fy.take (k + 1)) = addOne (addAll fx (fy.take k)) fy[k] := by rw [List.take_succ_eq_append_getElem hlt, addAll_append, addAll_one]
        have HST := hide hstep
        have HALL := hide (And.intro hown (And.intro hsm (And.intro hfr (And.intro hsz hxr))))
        have HLL := hide hll
        clear hown hsm hfr hsz hxr hrm he hcm hstep hll
        by_cases hin : fy[k] ∈ addAll fx (fy.take k)
        · rw [yes_iff.2 hin] at CA
          have hst := hide (HST.out.trans (addOne_in hin))
          clear hin
          generalize fy[k] = s at *
          go_wp2_with (go_at_call 32; refine CA.out.mono ?_; rintro _ wr ⟨rfl, rfl⟩)
          go_roundw
          case rel => exact ⟨k + 1, by omega, by go_num, by rw [hst.out]; exact HALL.out.1, HALL.out.2.1, HALL.out.2.2.1, HALL.out.2.2.2.1, HALL.out.2.2.2.2⟩
          case measure => simp [intOf]; omega
        · rw [yes_no.2 hin] at CA
          have hst := hide (HST.out.trans (addOne_out hin))
          clear hin
          generalize fy[k] = s at *
          go_wp2_with (first
            | (go_at_call 32; refine CA.out.mono ?_; rintro _ wr ⟨rfl, rfl⟩)
            | (at_builtin; refine wpList_append_flat rfl _ _ 36 rfl er.w.heap.size 9 ti _ 1 16 Tryd.underlying36 hti htz hts htb rfl (by decide) (by decide) u7 (addAll fx (fy.take k)).length ((addAll fx (fy.take k)).map .string) rfl (HALL.out.1.alloc _) (some ⟨wr.heap.size, 0, none⟩) 1 1 [.string s] rfl ⟨rfl, (by intro u hu; simp at hu; subst hu; rfl), (fun _ => ⟨_, _, rfl, (Blk.new wr _ [.string s]).cells⟩)⟩ (by have := HLL.out; omega) (by omega) (by have := HALL.out.2.2.2.2.size; simp; omega) ?_; intro v' w' hown' hg' hf'
               have hxw := (HALL.out.2.2.2.2.alloc _).grown hg' (fun r hr => (HALL.out.1.lt r hr).1)
               have HNEW := hide (And.intro hown' (And.intro hxw (And.intro hf' hg')))
               clear hown' hxw hf' hg'))
          go_roundw
          case rel =>
            obtain ⟨h1, h2, h3, h4, h5⟩ := HALL.out
            obtain ⟨n1, n2, n3, n4⟩ := HNEW.out
            refine ⟨k + 1, by omega, by go_num, by rw [hst.out]; simpa using n1, (h2.ext (Ext.new _ _)).block n4 (fun g hg hr => ?_), fun g hg => ?_, ?_, n2⟩
            · have m1 := HMB.out g hg
              have m2 := h3 g hr
              omega
            · rcases n3 g hg with h | h
              · exact h3 g h
              · right; simp at h; omega
            · have := n4.size; simp at this; omega
          case measure => simp [intOf]; omega
      · have hkl : k = fy.length := by omega
        subst hkl
        rw [List.take_length] at hown
        have FB9 := hide (FB.out er.w e.w.heap.size er.ext HBQ.out wr hxr)
        obtain ⟨g0, g1, g2, g3, g4, g5⟩ := (HBR.out.ext hxr).get6
        have HWANT := hide (And.intro hown hxr)
        clear hown hsm hfr hsz hxr hll FB HBQ HMB HWB HXR5 HS45 HSM HOW FX FY GX GY GL
        generalize addAll fx fy = L at *
        go_wp2_with fail
        refine FB9.out.mono ?_
        rintro _ w8 ⟨al, cl, rfl, hown8, hx8⟩
        obtain ⟨W8, hW8⟩ : ∃ W8, W8 = w8 := ⟨_, rfl⟩
        have hsl : SStr W8 L (.slice al L.length cl) := by rw [hW8]; exact SStr.of_row hown8
        have hsw : SStr W8 L u7 := by rw [hW8]; exact SStr.ext (SStr.of_row HWANT.out.1) hx8
        have hx28 : Ext W2 W8 := by rw [hW8]; exact (er.ext.trans HWANT.out.2).trans hx8
        obtain ⟨e8, he8⟩ := Later.mk_ex (W := W8) (w := w8) (by rw [hW8]; exact Ext.refl _)
        subst he8
        have KT := hide (show ECalls Tryd.prog 18 #[.slice al L.length cl, u7] W8 (.bool true) from fun w' hw => (refTexts_any L L w' _ u7 (hsl.ext hw) (hsw.ext hw) (by omega) (by omega)).mono fun _ _ ⟨h1, h2⟩ => ⟨by rw [h1, yes_iff.2 rfl], h2⟩)
        obtain ⟨al', cl', hal, hcl, hrl⟩ := id hsl
        obtain ⟨rfl, -, rfl⟩ := Value.slice.inj hal
        have HSL := hide hsl
        have HRL := hide hrl
        have HCL := hide hcl
        have Q08 := hide (Q02.out.trans hx28)
        have ut : Tryd.prog.underlying 36 = some (.slice (Tryd.prog.elem 36)) := by kernel_rfl
        have sz1 : ∀ w : World, (sizeOf (Tryd.prog.elem 36)).run Tryd.prog w = .ok 1 w := fun _ => by kernel_rfl
        have HUT := hide ut
        have HS1 := hide sz1
        clear hsl hsw hx28 hown8 hx8 hW8 hal hcl hrl FB9 HWANT HBR g0 g1 g2 g3 g4 g5 ut sz1
        go_wp2_with fail
        go_loopw [11] (fun i wr => ∃ k : Nat, k ≤ L.length ∧ i = .int .i64 k ∧ ∃ e : Later W8, wr = e.w) (fun i _ => L.length - (intOf i).toNat)
        case atStart => exact ⟨0, Nat.zero_le _, rfl, _, rfl⟩
        case round =>
          obtain ⟨k, hk, rfl, e9, rfl⟩ := hrel
          by_cases hlt : k < L.length
          · obtain ⟨bl, ol, rfl, hcell⟩ := HRL.out k hlt
            obtain ⟨vs, hvs⟩ : ∃ vs, vs = Go.sliced (some ⟨bl, ol, none⟩) 0 k cl 1 := ⟨_, rfl⟩
            have hrun : ∀ w : World, (Instr.slice 36 (.slice (some ⟨bl, ol, none⟩) L.length cl) none (some (.int .i64 k)) none).run Tryd.prog w = .ok vs w := fun w => by
              have hcl := HCL.out
              rw [run_slice_h (ht := HUT.out) (h := (k : Int)) (h0 := by omega) (h2 := by omega), HS1.out, hvs]; rfl
            have hss : SStr W8 (L.take k) vs := by rw [hvs]; exact HSL.out.take hlt
            have KA := hide (show ECalls Tryd.prog 32 #[vs, .string L[k]] W8 (.bool false) from fun w' hw => (refAmong_any (L.take k) L[k] w' vs (hss.ext hw) (by rw [List.length_take]; omega)).mono fun _ _ ⟨h1, h2⟩ => ⟨by rw [h1, yes_no.2 (NB.out k hlt)], by rw [h2]; exact Ext.refl _⟩)
            have hcells := cellAt hcell
            clear hvs hss hcell
            generalize L[k] = s at *
            go_wp2_with fail
            refine wp_region_later (W := W8) (by kernel_rfl) (by kernel_rfl) (Later.ext _) ?_
            repeat (go_big_quiet_step ((go_at_call 32; exact KA.out.at_ _)))
            refine wpQuiet_nil ?_
            rintro _ ⟨e9, rfl⟩
            go_wp2_with fail
            go_roundw
            case rel => exact ⟨k + 1, by omega, by go_num, _, rfl⟩
            case measure => simp [intOf]; omega
          · have hkl : k = L.length := by omega
            subst hkl
            go_wp2_with (go_at_call 18; refine (KT.out.at_ _).mono ?_; rintro _ _ ⟨rfl, e, rfl⟩)
            go_ret
            exact ⟨rfl, Q08.out.trans (Later.ext _)⟩

end Go.Proofs.YtmpoheemnjpoeaaDoor
