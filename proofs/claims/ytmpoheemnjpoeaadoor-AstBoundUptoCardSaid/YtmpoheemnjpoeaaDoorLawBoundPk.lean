/-
  THE LAW AstBound: WHAT IT COMPUTES.
-/
import Derived.Test.YtmpoheemnjpoeaaDoorLivePk
import Derived.Test.YtmpoheemnjpoeaaDoorLawPPk
import Derived.Test.YtmpoheemnjpoeaaDoorWirePk
namespace Go.Proofs.YtmpoheemnjpoeaaDoor
open Go Go.RowKit
set_option linter.all false
set_option linter.unusedVariables false
set_option linter.unusedSimpArgs false
set_option linter.unusedVariables false
set_option linter.unusedSimpArgs false
attribute [local go_sem] run_store_one

/-- An expression, put into so many signs of one operand. -/
def unN (x : X) : Nat → X
  | 0 => x
  | n + 1 => .mk 5 tE 1 0 0 [unN x n]
theorem sizeX_unN (x : X) : ∀ n, sizeX (unN x n) = sizeX x + n
  | 0 => rfl
  | n + 1 => by rw [unN, sizeX_eq]; simp [X.l, msize, sizeX_unN x n]; omega
theorem deepX_unN (x : X) : ∀ n, deepX (unN x n) = deepX x + n
  | 0 => rfl
  | n + 1 => by rw [unN, deepX_eq]; simp [X.l, mdeep, deepX_unN x n]; omega
theorem may_unN {x : X} (h : MayX x) : ∀ n, MayX (unN x n)
  | 0 => h
  | n + 1 => .mk _ ⟨.inr (.inl ⟨.inr rfl, rfl⟩), .inl ⟨rfl, (show (1 : Int) ≤ 1 by decide), (show (1 : Int) ≤ 6 by decide)⟩, .inl ⟨(show (5 : Int) ≠ 1 by decide), rfl, rfl⟩, .inr ⟨(show ¬ isNamed 5 by unfold isNamed; decide), rfl⟩⟩ (all_one (may_unN h n))
theorem vx_unN {x : X} (h : VX x) : ∀ n, VX (unN x n)
  | 0 => h
  | n + 1 => .mk _ (show (0 : Int) ≤ 0 by decide) (show (0 : Int) < 18446744073709551616 by decide) (show (0 : Nat) < 4294967281 by decide) (all_one (vx_unN h n))
theorem check_unN {x : X} (h : checkX x = 0) (n : Nat) (hs : sizeX x + n ≤ 65536) : checkX (unN x n) = if deepX x + n ≤ 64 then 0 else 2 := by
  obtain ⟨h1, h2, h3⟩ := checkX_zero.1 h
  split
  · exact checkX_zero.2 ⟨by rw [sizeX_unN]; exact hs, by rw [deepX_unN]; assumption, may_unN h3 n⟩
  · exact told_two.2 (.inr (by rw [deepX_unN]; omega))

/-- The cells of an expression within so many signs, the outermost in a box of its own that no other uses. -/
inductive Ch (B g : Nat) (w : World) (x : X) : Nat → List Value → Prop
  | zero (cs : List Value) (h : RX w B x cs) : Ch B g w x 0 cs
  | succ (n q : Nat) (cs : List Value) (h : Ch B g w x n cs) (hq : q ≠ g) (hb : Blk w q 25 cs) : Ch B g w x (n + 1) [.int .i64 5, .string tE, .int .i64 1, .int .i64 0, .int .u64 0, .slice (some ⟨q, 0, none⟩) 1 1]
theorem Ch.keep {B g : Nat} {w w' : World} {x : X} (hB : B ≤ g) (hBw : B ≤ w.heap.size) (hw : ∀ b, b ≠ g → b < w.heap.size → w'.heap[b]? = w.heap[b]?) {n : Nat} {cs : List Value} (h : Ch B g w x n cs) : Ch B g w' x n cs := by
  induction h with
  | zero cs h => exact .zero cs (RX.keep (fun p hp => World.cell?_of_block (hw p.block (by omega) (by omega))) (Nat.le_refl _) x cs h)
  | succ n q cs h hq hb ih => exact .succ n q cs ih hq ((hw q hq hb.lt).trans hb)
theorem Ch.rx {B g : Nat} {w : World} {x : X} (hB : B ≤ w.heap.size) {n : Nat} {cs : List Value} (h : Ch B g w x n cs) : RX w w.heap.size (unN x n) cs := by
  induction h with
  | zero cs h => exact h.more hB
  | succ n q cs h hq hb ih =>
    obtain ⟨a5, hcs, hS⟩ := RX_iff.1 ih
    refine RX_iff.2 ⟨_, rfl, Sl.one hb.lt (by rw [hcs]; rfl) hb.cells ?_ ih⟩
    intro v hv
    rw [hcs] at hv
    simp only [List.mem_cons, List.not_mem_nil, or_false] at hv
    rcases hv with rfl | rfl | rfl | rfl | rfl | rfl <;> first | exact hS.oneCell | rfl
theorem Ch.cells6 {B g : Nat} {w : World} {x : X} (hB : B ≤ w.heap.size) {n : Nat} {cs : List Value} (h : Ch B g w x n cs) : ∃ op nm k wd v a5, cs = [.int .i64 op, .string nm, .int .i64 k, .int .i64 wd, .int .u64 v, a5] ∧ a5.oneCell' = true := by
  obtain ⟨a5, hcs, hS⟩ := RX_iff.1 (h.rx hB)
  exact ⟨_, _, _, _, _, _, hcs, hS.oneCell⟩

set_option maxRecDepth 20000 in
set_option maxHeartbeats 8000000 in
theorem lawBound_any (B : Nat) (x : X) (n : Int) (w : World) (cx : List Value) (hT : Tabs w) (hB : B ≤ w.heap.size) (hx : RX w B x cx) (zx : sizeX x ≤ 100000000) (Vx : VX x) :
    Calls Tryd.prog 9 #[.agg cx.toArray, .int .i64 n] w fun e w' => e = .returned (.bool true) ∧ Ext w w' := by
  have HX := hide hx
  have HTab := hide hT
  obtain ⟨x5, rfl, hx5⟩ := RX_iff.1 hx
  have ox := hx5.oneCell
  obtain ⟨W1, e1, hV1, hx1, hs1, c0, c1, c2, c3, c4, c5⟩ := boxL6 w (.int .i64 x.op) (.string x.name) (.int .i64 x.n) (.int .i64 x.w) (.int .u64 x.v) x5 25
  have hB1 : B ≤ W1.heap.size := Nat.le_trans hB hx1.size
  have GL := hide (show ECalls Tryd.prog 11 #[] W1 (.bool true) from fun w' hw => live_any w' (HTab.out.ext (hx1.trans hw)))
  have GX := hide (show ECalls Tryd.prog 12 #[.agg #[.int .i64 x.op, .string x.name, .int .i64 x.n, .int .i64 x.w, .int .u64 x.v, x5]] W1 (.bool (yes (fewP (sizeX x) (deepX x)))) from fun w' hw => fewX_any B x w' _ (HX.out.ext (hx1.trans hw) hB) (Nat.le_trans hB1 hw.size) (by omega))
  have KX := hide (show ECalls Tryd.prog 14 #[.agg #[.int .i64 x.op, .string x.name, .int .i64 x.n, .int .i64 x.w, .int .u64 x.v, x5]] W1 (.int .i64 (checkX x)) from fun w' hw => CheckX_any B x w' _ (HTab.out.ext (hx1.trans hw)) (HX.out.ext (hx1.trans hw) hB) (Nat.le_trans hB1 hw.size) (by omega) Vx)
  have KD := hide (show ECalls Tryd.prog 33 #[.agg #[.int .i64 x.op, .string x.name, .int .i64 x.n, .int .i64 x.w, .int .u64 x.v, x5]] W1 (.int .i64 (deepX x : Nat)) from fun w' hw => lawdeep_any B x w' _ (HX.out.ext (hx1.trans hw) hB) (Nat.le_trans hB1 hw.size) zx)
  have KZ := hide (show ECalls Tryd.prog 34 #[.agg #[.int .i64 x.op, .string x.name, .int .i64 x.n, .int .i64 x.w, .int .u64 x.v, x5]] W1 (.int .i64 (sizeX x : Nat)) from fun w' hw => lawsize_any B x w' _ (HX.out.ext (hx1.trans hw) hB) (Nat.le_trans hB1 hw.size) zx)
  have Q01 := hide hx1
  have ZX := hide zx
  have VXX := hide Vx
  have hxw := hide (show RX W1 B x _ from HX.out.ext hx1 hB)
  have HT1 := hide (HTab.out.ext hx1)
  by_cases hgo : fewP (sizeX x) (deepX x) ∧ 0 ≤ n ∧ n ≤ 80 ∧ checkX x = 0
  case neg =>
    clear hx hx5 hT hx1 zx Vx KD KZ hxw
    rw [← yes_iff (p := fewP (sizeX x) (deepX x))] at hgo
    have HG := hide hgo
    clear hgo
    generalize yes (fewP (sizeX x) (deepX x)) = b1 at *
    generalize checkX x = tx at *
    go_enter Tryd.func9, Tryd.ntmps9
    go_wp2_with (first
      | (go_at_call 11; refine (GL.out.at_ _).mono ?_; rintro _ _ ⟨rfl, e, rfl⟩)
      | (go_at_call 12; refine (GX.out.at_ _).mono ?_; rintro _ _ ⟨rfl, e, rfl⟩)
      | (go_at_call 14; with_reducible refine (KX.out.at_ _).mono ?_; rintro _ _ ⟨rfl, e, rfl⟩))
    all_goals first
      | (go_ret
         exact ⟨rfl, Q01.out.trans (Later.ext _)⟩)
      | (exfalso
         have h9 : (tx != 0) = false := by first | assumption | exact (‹_ ∧ (tx != 0) = false›).2
         exact HG.out ⟨by assumption, by omega, by omega, by simpa using h9⟩)
  case pos =>
    obtain ⟨hfew, hn0, hn80, hcx⟩ := hgo
    have hsz : sizeX x ≤ 2000 := hfew.1
    have hdp : deepX x ≤ 100 := hfew.2
    rw [yes_iff.2 hfew] at GX
    rw [hcx] at KX
    obtain ⟨m, rfl⟩ := Int.eq_ofNat_of_zero_le hn0
    have hck := check_unN hcx m (by omega)
    have HCK := hide hck
    have HXW := hide hxw
    clear hx hx5 hT hx1 zx Vx hfew hck hcx hxw
    go_enter Tryd.func9, Tryd.ntmps9
    go_wp2_with (first
      | (go_at_call 11; refine (GL.out.at_ _).mono ?_; rintro _ _ ⟨rfl, e, rfl⟩)
      | (go_at_call 12; refine (GX.out.at_ _).mono ?_; rintro _ _ ⟨rfl, e, rfl⟩)
      | (go_at_call 14; with_reducible refine (KX.out.at_ _).mono ?_; rintro _ _ ⟨rfl, e, rfl⟩))
    go_loopw [7] (fun i wr => ∃ (k : Nat) (op : Int) (nm : ByteArray) (z wd v : Int) (a5 : Value), k ≤ m ∧ i = .int .i64 k ∧ Blk wr e.w.heap.size 25 [.int .i64 op, .string nm, .int .i64 z, .int .i64 wd, .int .u64 v, a5] ∧
        Ch B e.w.heap.size wr x k [.int .i64 op, .string nm, .int .i64 z, .int .i64 wd, .int .u64 v, a5] ∧ a5.oneCell' = true ∧ Ext W1 wr) (fun i _ => m - (intOf i).toNat)
    case atStart => exact ⟨0, x.op, x.name, x.n, x.w, x.v, x5, Nat.zero_le _, rfl, Blk.new _ _ [_, _, _, _, _, _], .zero _ (HXW.out.ext (e.ext.alloc _) hB1), ox, e.ext.alloc _⟩
    case round =>
      obtain ⟨k, op, nm, z, wd, v, a5, hk, rfl, hblk, hch, o5, hx1r⟩ := hrel
      have hB1r : B ≤ wr.heap.size := Nat.le_trans hB1 hx1r.size
      have hBg : B ≤ e.w.heap.size := Nat.le_trans hB1 e.ext.size
      by_cases hlt : k < m
      · obtain ⟨b0, b1, b2, b3, b4, b5⟩ := hblk.get6
        obtain ⟨Wq, hWq, hxq, hbq⟩ := box6 wr (.int .i64 op) (.string nm) (.int .i64 z) (.int .i64 wd) (.int .u64 v) a5 25
        have hblk' := hblk.ext hxq
        obtain ⟨f0, f1, f2, f3, f4, f5⟩ := hblk'.free6
        obtain ⟨d0, d1, d2, d3, d4, d5⟩ := hblk'.get6
        have hgq : wr.heap.size ≠ e.w.heap.size := by have := hblk.lt; omega
        obtain ⟨Wz, hWz⟩ : ∃ Wz, Wz = (((((Wq.setCell ⟨e.w.heap.size, 0, none⟩ (.int .i64 5)).setCell ⟨e.w.heap.size, 1, none⟩ (.string ⟨#[]⟩)).setCell ⟨e.w.heap.size, 2, none⟩ (.int .i64 1)).setCell ⟨e.w.heap.size, 3, none⟩ (.int .i64 0)).setCell ⟨e.w.heap.size, 4, none⟩ (.int .u64 0)).setCell ⟨e.w.heap.size, 5, none⟩ (.slice (some ⟨wr.heap.size, 0, none⟩) 1 1) := ⟨_, rfl⟩
        have hbz := hblk'.store6 (.int .i64 5) (.string ⟨#[]⟩) (.int .i64 1) (.int .i64 0) (.int .u64 0) (.slice (some ⟨wr.heap.size, 0, none⟩) 1 1)
        rw [← hWz] at hbz
        have hfar : ∀ b, b ≠ e.w.heap.size → Wz.heap[b]? = Wq.heap[b]? := fun b hb => by
          rw [hWz]
          simp [Below.heap_setCell, hb]
        have hchz : Ch B e.w.heap.size Wz x (k + 1) [.int .i64 5, .string ⟨#[]⟩, .int .i64 1, .int .i64 0, .int .u64 0, .slice (some ⟨wr.heap.size, 0, none⟩) 1 1] :=
          .succ k wr.heap.size _ (hch.keep hBg hB1r (fun b hb hlt => (hfar b hb).trans (hxq.heap hlt))) hgq ((hfar _ hgq).trans hbq)
        have hxz : Ext W1 Wz := by rw [hWz]; exact ((((((hx1r.trans hxq).setCell e.ext.size _).setCell e.ext.size _).setCell e.ext.size _).setCell e.ext.size _).setCell e.ext.size _).setCell e.ext.size _
        have FIN := hide (And.intro hbz (And.intro hchz hxz))
        have hVq := hWq.symm
        have hVz := hWz.symm
        clear hblk hch hx1r hblk' hWq hWz hbz hfar hchz hxz hxq hbq
        go_wp2_with fail
        go_roundw
        case rel => exact ⟨k + 1, _, _, _, _, _, _, by omega, by go_num, FIN.out.1, FIN.out.2.1, rfl, FIN.out.2.2⟩
        case measure => simp [intOf]; omega
      · have : k = m := by omega
        subst this
        obtain ⟨W9, hW9⟩ : ∃ W9, W9 = wr := ⟨_, rfl⟩
        have hb9 : Blk W9 e.w.heap.size 25 [.int .i64 op, .string nm, .int .i64 z, .int .i64 wd, .int .u64 v, a5] := by rw [hW9]; exact hblk
        have hr9 : RX W9 W9.heap.size (unN x k) [.int .i64 op, .string nm, .int .i64 z, .int .i64 wd, .int .u64 v, a5] := by rw [hW9]; exact hch.rx hB1r
        have x19 : Ext W1 W9 := by rw [hW9]; exact hx1r
        obtain ⟨er, her⟩ := Later.mk_ex (W := W9) (w := wr) (by rw [hW9]; exact Ext.refl _)
        subst her
        have KY := hide (show ECalls Tryd.prog 14 #[.agg #[.int .i64 op, .string nm, .int .i64 z, .int .i64 wd, .int .u64 v, a5]] W9 (.int .i64 (if deepX x + k ≤ 64 then 0 else 2)) from ECalls.eq (v := .int .i64 (checkX (unN x k))) (fun w' hw => CheckX_any _ (unN x k) w' _ (HT1.out.ext (x19.trans hw)) (hr9.ext hw (Nat.le_refl _)) hw.size (by rw [sizeX_unN]; omega) (vx_unN VXX.out k)) (by rw [HCK.out]))
        have KZY := hide (show ECalls Tryd.prog 34 #[.agg #[.int .i64 op, .string nm, .int .i64 z, .int .i64 wd, .int .u64 v, a5]] W9 (.int .i64 ((sizeX x : Nat) + (k : Nat) : Int)) from ECalls.eq (v := .int .i64 (sizeX (unN x k) : Nat)) (fun w' hw => lawsize_any _ (unN x k) w' _ (hr9.ext hw (Nat.le_refl _)) hw.size (by rw [sizeX_unN]; omega)) (by rw [sizeX_unN]; simp))
        have KD := hide (KD.out.later x19)
        have KZ := hide (KZ.out.later x19)
        obtain ⟨y0, y1, y2, y3, y4, y5⟩ := hb9.later6
        have g0 := cellL c0 x19
        have g1 := cellL c1 x19
        have g2 := cellL c2 x19
        have g3 := cellL c3 x19
        have g4 := cellL c4 x19
        have g5 := cellL c5 x19
        have Q09 := hide (Q01.out.trans x19)
        clear hblk hch hx1r hB1r hBg hW9 hb9 hr9 x19 HX HXW HT1 HTab HCK Q01 VXX ZX GL GX KX hs1 hB1
        generalize sizeX x = sz at *
        generalize deepX x = dp at *
        by_cases hfit : dp + k ≤ 64
        · rw [if_pos hfit] at KY
          go_wp2_with (first
            | (go_at_call 33; refine (KD.out.at_ _).mono ?_; rintro _ _ ⟨rfl, e, rfl⟩)
            | (go_at_call 14; refine (KY.out.at_ _).mono ?_; rintro _ _ ⟨rfl, e, rfl⟩))
          refine wp_region_later (W := W9) (by kernel_rfl) (by kernel_rfl) (Later.ext _) ?_
          repeat (go_big_quiet_step (first
            | (go_at_call 34; with_reducible exact KZY.out.at_ _) | (go_at_call 34; with_reducible exact KZ.out.at_ _)))
          refine wpQuiet_nil ?_
          rintro _ ⟨e9, rfl⟩
          go_wp2_with fail
          go_ret
          exact ⟨rfl, Q09.out.trans (Later.ext _)⟩
        · rw [if_neg hfit] at KY
          go_wp2_with (first
            | (go_at_call 33; refine (KD.out.at_ _).mono ?_; rintro _ _ ⟨rfl, e, rfl⟩)
            | (go_at_call 14; refine (KY.out.at_ _).mono ?_; rintro _ _ ⟨rfl, e, rfl⟩))
          refine wp_region_later (W := W9) (by kernel_rfl) (by kernel_rfl) (Later.ext _) ?_
          repeat (go_big_quiet_step (first
            | (go_at_call 34; with_reducible exact KZY.out.at_ _) | (go_at_call 34; with_reducible exact KZ.out.at_ _)))
          refine wpQuiet_nil ?_
          rintro _ ⟨e9, rfl⟩
          go_wp2_with fail
          go_ret
          exact ⟨rfl, Q09.out.trans (Later.ext _)⟩

end Go.Proofs.YtmpoheemnjpoeaaDoor
