/-
  THE LAW AstSpoilt: WHAT IT COMPUTES.
-/
import Derived.Laws.Bits128
import Derived.Test.YtmpoheemnjpoeaaDoorLivePk
import Derived.Test.YtmpoheemnjpoeaaDoorLawPPk
import Derived.Test.YtmpoheemnjpoeaaDoorAppPk
namespace Go.Proofs.YtmpoheemnjpoeaaDoor
open Go Go.RowKit
set_option linter.all false
set_option linter.unusedVariables false
set_option linter.unusedSimpArgs false
set_option linter.unusedVariables false
set_option linter.unusedSimpArgs false
attribute [local go_sem] run_store_one

theorem i64_and3 (n : Int) : bits .and .i64 n 3 = n % 4 := by
  have h : (BitVec.ofInt 64 3).toNat = 2 ^ 2 - 1 := by decide
  have key : (BitVec.ofInt 64 n &&& BitVec.ofInt 64 3).toNat = (n % ((2 ^ 64 : Nat) : Int)).toNat % 2 ^ 2 := by
    rw [BitVec.toNat_and, BitVec.toNat_ofInt, h, Nat.and_two_pow_sub_one_eq_mod]
  show IntKind.i64.wrap ((BitVec.ofInt 64 n &&& BitVec.ofInt 64 3).toNat : Nat) = n % 4
  rw [key, IntKind.wrap_i64]
  omega

def spN (x : X) : X := .mk x.op x.name (x.n + 40) x.w x.v x.l
def spW (x : X) : X := .mk x.op x.name x.n 65 x.v x.l
def sp1 (s : ByteArray) : ByteArray := ⟨#[49]⟩ ++ s
def spM (x : X) : X := .mk x.op (sp1 x.name) x.n x.w x.v x.l
def x0 : X := .mk 0 ⟨#[]⟩ 0 0 0 []
def spL (x : X) : X := .mk x.op x.name x.n x.w x.v (x.l ++ [x0])
theorem n_of {x : X} (h : checkX x = 0) : 0 ≤ x.n ∧ x.n ≤ 33 := by
  obtain ⟨-, -, h3⟩ := checkX_zero.1 h
  obtain ⟨⟨-, h4, -⟩, -⟩ := MayX_iff.1 h3
  unfold numOk at h4
  omega
theorem not_spN {x : X} (h : MayX x) : ¬ MayX (spN x) := fun h' => by
  obtain ⟨⟨-, h4, -⟩, -⟩ := MayX_iff.1 h
  obtain ⟨⟨-, h5, -⟩, -⟩ := MayX_iff.1 h'
  have h5 : numOk x.op (x.n + 40) := h5
  unfold numOk at h4 h5
  omega
theorem not_spW {x : X} : ¬ MayX (spW x) := fun h' => by
  obtain ⟨⟨-, -, h5, -⟩, -⟩ := MayX_iff.1 h'
  have h5 : valOk x.op 65 x.v := h5
  unfold valOk at h5
  omega
theorem size_sp1 (s : ByteArray) : (sp1 s).size = 1 + s.size := by
  unfold sp1; rw [ByteArray.size_append]; rfl
theorem nameP_sp1 (s : ByteArray) : ¬ nameP (sp1 s) := fun h => by
  have h0 := h.2.2.1 0 (by rw [size_sp1]; omega)
  have h1 : (sp1 s).data[0]'(by have := size_sp1 s; rw [← ByteArray.size_data] at this; omega) = 49 := by
    simp [sp1, ByteArray.data_append]
  rw [h1] at h0
  exact absurd h0 (by decide)
theorem not_spM {x : X} : ¬ MayX (spM x) := fun h' => by
  obtain ⟨⟨-, -, -, h5⟩, -⟩ := MayX_iff.1 h'
  have h5 : nmOk x.op (sp1 x.name) := h5
  rcases h5 with h5 | h5
  · exact nameP_sp1 _ h5.2
  · have := size_sp1 x.name; omega
theorem not_x0 : ¬ MayX x0 := fun h => by
  obtain ⟨⟨h1, -⟩, -⟩ := MayX_iff.1 h
  simp only [x0, X.op] at h1
  unfold partsOk at h1
  omega
theorem not_spL {x : X} : ¬ MayX (spL x) := fun h => not_x0 ((MayX_iff.1 h).2 x0 (by simp [spL, X.l]))
theorem check_sp {y : X} (hs : sizeX y ≤ 65536) (hd : deepX y ≤ 64) (hm : ¬ MayX y) : checkX y = 1 := told_one.2 ⟨⟨hs, hd⟩, yes_no.2 hm⟩
theorem sizeX_spL (x : X) : sizeX (spL x) = sizeX x + 1 := by
  rw [sizeX_eq, sizeX_eq x]
  simp only [spL, X.l]
  rw [msize_append]
  simp [msize, x0, sizeX_eq, X.l]
  omega
theorem deepX_spL (x : X) : deepX (spL x) ≤ max (deepX x) 2 := by
  rw [deepX_eq, deepX_eq x]
  simp only [spL, X.l]
  rw [mdeep_append]
  simp [mdeep, x0, deepX_eq, X.l]
  omega
theorem ne_spN (x : X) : x ≠ spN x := fun h => by have := congrArg X.n h; simp only [spN, X.n] at this; cases x; simp [X.n] at this; omega
theorem ne_spW {x : X} (hx : MayX x) : x ≠ spW x := fun h => not_spW (h ▸ hx)
theorem ne_spM {x : X} (hx : MayX x) : x ≠ spM x := fun h => not_spM (h ▸ hx)
theorem ne_spL {x : X} (hx : MayX x) : x ≠ spL x := fun h => not_spL (h ▸ hx)
theorem own_form {w : World} {base : Nat} {t : TypeId} {sz n : Nat} {v : Value} {xs : List Value} (h : w.ownsRow base t sz v n xs) : ∃ a cap, v = .slice a n cap := by
  rcases h.2 with ⟨rfl, rfl⟩ | ⟨g, cap, cur, rfl, -⟩ <;> exact ⟨_, _, rfl⟩
theorem own_one {w : World} {base : Nat} {t : TypeId} {sz n : Nat} {v : Value} {xs : List Value} (h : w.ownsRow base t sz v n xs) : v.oneCell' = true := by
  rcases h.2 with ⟨rfl, -⟩ | ⟨g, cap, cur, rfl, -⟩ <;> rfl
theorem rx_spL {x : X} {W : World} {base : Nat} {A : Option Addr} {c : Nat} {news zs : List Value} (hl : news.length = x.l.length * 6) (hz : zs = [.int .i64 0, .string ⟨#[]⟩, .int .i64 0, .int .i64 0, .int .u64 0, .slice none 0 0])
    (h : W.ownsRow base 25 6 (.slice A (x.l.length + 1) c) (x.l.length + 1) (news ++ zs)) (h1 : ∀ u ∈ news ++ zs, u.oneCell' = true) (hR : ∀ k, (hk : k < x.l.length) → RX W W.heap.size x.l[k] ((news.drop (k * 6)).take 6)) :
    RX W W.heap.size (spL x) [.int .i64 x.op, .string x.name, .int .i64 x.n, .int .i64 x.w, .int .u64 x.v, .slice A (x.l.length + 1) c] := by
  refine RX_iff.2 ⟨_, rfl, ?_⟩
  show Sl (RX W W.heap.size) W W.heap.size 6 (x.l ++ [x0]) _
  have hlen : (x.l ++ [x0]).length = x.l.length + 1 := by simp
  refine Sl.of_own (base := base) (e := 25) (xs := news ++ zs) (by decide) (by rw [hlen]; exact h) h1 fun k hk => ?_
  rw [hlen] at hk
  rcases Nat.lt_or_ge k x.l.length with hkl | hkl
  · rw [List.getElem_append_left hkl, List.drop_append_of_le_length (by omega), List.take_append_of_le_length (by rw [List.length_drop]; omega)]
    exact hR k hkl
  · obtain rfl : k = x.l.length := by omega
    rw [List.getElem_append_right (Nat.le_refl _), ← hl, List.drop_left, hz]
    simp only [Nat.sub_self, List.getElem_cons_zero]
    exact RX_iff.2 ⟨_, rfl, Sl.nil⟩
theorem vx_spL {x : X} (h : VX x) : VX (spL x) := by
  obtain ⟨h1, h2, h3, h4⟩ := VX_iff.1 h
  refine VX_iff.2 ⟨h1, h2, h3, fun y hy => ?_⟩
  simp only [spL, X.l, List.mem_append, List.mem_singleton] at hy
  rcases hy with hy | rfl
  · exact h4 y hy
  · exact .mk _ (by decide) (by decide) (by decide) (fun y hy => by cases hy)
theorem vx_spM {x : X} (h : VX x) (hn : x.name.size ≤ 64) : VX (spM x) := by
  obtain ⟨h1, h2, h3, h4⟩ := VX_iff.1 h
  exact VX_iff.2 ⟨h1, h2, by show (sp1 x.name).size < _; rw [size_sp1]; omega, h4⟩
theorem name_of {x : X} (h : MayX x) : x.name.size ≤ 64 := by
  obtain ⟨⟨-, -, -, h5⟩, -⟩ := MayX_iff.1 h
  rcases h5 with h5 | h5
  · exact h5.2.2.1
  · omega

set_option maxRecDepth 20000 in
set_option maxHeartbeats 8000000 in
theorem spoilt_no (B : Nat) (x : X) (k : Int) (w : World) (cx : List Value) (hno : ¬ (fewP (sizeX x) (deepX x) ∧ checkX x = 0)) (hT : Tabs w) (hB : B ≤ w.heap.size) (hx : RX w B x cx) (zx : sizeX x ≤ 100000000) (Vx : VX x) :
    Calls Tryd.prog 6 #[.agg cx.toArray, .int .i64 k] w fun e w' => e = .returned (.bool true) ∧ Ext w w' := by
  have HX := hide hx
  have HTab := hide hT
  obtain ⟨x5, rfl, hx5⟩ := RX_iff.1 hx
  have ox := hx5.oneCell
  obtain ⟨W1, e1, hV1, hx1, hs1, c0, c1, c2, c3, c4, c5⟩ := boxL6 w (.int .i64 x.op) (.string x.name) (.int .i64 x.n) (.int .i64 x.w) (.int .u64 x.v) x5 25
  have hB1 : B ≤ W1.heap.size := Nat.le_trans hB hx1.size
  have GL := hide (show ECalls Tryd.prog 11 #[] W1 (.bool true) from fun w' hw => live_any w' (HTab.out.ext (hx1.trans hw)))
  have GX := hide (show ECalls Tryd.prog 12 #[.agg #[.int .i64 x.op, .string x.name, .int .i64 x.n, .int .i64 x.w, .int .u64 x.v, x5]] W1 (.bool (yes (fewP (sizeX x) (deepX x)))) from fun w' hw => fewX_any B x w' _ (HX.out.ext (hx1.trans hw) hB) (Nat.le_trans hB1 hw.size) (by omega))
  have KX := hide (show ECalls Tryd.prog 14 #[.agg #[.int .i64 x.op, .string x.name, .int .i64 x.n, .int .i64 x.w, .int .u64 x.v, x5]] W1 (.int .i64 (checkX x)) from fun w' hw => CheckX_any B x w' _ (HTab.out.ext (hx1.trans hw)) (HX.out.ext (hx1.trans hw) hB) (Nat.le_trans hB1 hw.size) (by omega) Vx)
  have Q01 := hide hx1
  rw [← yes_iff (p := fewP (sizeX x) (deepX x))] at hno
  have HG := hide hno
  clear hno hx hx5 hT hx1 zx Vx HX HTab
  generalize yes (fewP (sizeX x) (deepX x)) = b1 at *
  generalize checkX x = tx at *
  go_enter Tryd.func6, Tryd.ntmps6
  cases b1 with
  | false =>
    go_wp2_with (first
      | (go_at_call 11; refine (GL.out.at_ _).mono ?_; rintro _ _ ⟨rfl, e, rfl⟩)
      | (go_at_call 12; refine (GX.out.at_ _).mono ?_; rintro _ _ ⟨rfl, e, rfl⟩))
    go_ret
    exact ⟨rfl, Q01.out.trans (Later.ext _)⟩
  | true =>
    have htx : ((tx : Int) == 0) = false := by have := HG.out; simpa using this
    have htx' : ((tx : Int) != 0) = true := by simp [bne, htx]
    go_wp2_with (first
      | (go_at_call 11; refine (GL.out.at_ _).mono ?_; rintro _ _ ⟨rfl, e, rfl⟩)
      | (go_at_call 12; refine (GX.out.at_ _).mono ?_; rintro _ _ ⟨rfl, e, rfl⟩)
      | (go_at_call 14; with_reducible refine (KX.out.at_ _).mono ?_; rintro _ _ ⟨rfl, e, rfl⟩))
    go_ret
    exact ⟨rfl, Q01.out.trans (Later.ext _)⟩

theorem sizeX_of {x y : X} (h : y.l = x.l) : sizeX y = sizeX x := by rw [sizeX_eq, sizeX_eq x, h]
theorem deepX_of {x y : X} (h : y.l = x.l) : deepX y = deepX x := by rw [deepX_eq, deepX_eq x, h]

set_option maxRecDepth 20000 in
set_option maxHeartbeats 8000000 in
theorem spoilt_n (B : Nat) (x : X) (k : Int) (w : World) (cx : List Value) (hk : k % 4 = 0) (hfew : fewP (sizeX x) (deepX x)) (hcx : checkX x = 0) (hT : Tabs w) (hB : B ≤ w.heap.size) (hx : RX w B x cx) (zx : sizeX x ≤ 100000000) (Vx : VX x) :
    Calls Tryd.prog 6 #[.agg cx.toArray, .int .i64 k] w fun e w' => e = .returned (.bool true) ∧ Ext w w' := by
  have HX := hide hx
  have HTab := hide hT
  obtain ⟨x5, rfl, hx5⟩ := RX_iff.1 hx
  have ox := hx5.oneCell
  obtain ⟨W1, e1, hV1, hx1, hs1, c0, c1, c2, c3, c4, c5⟩ := boxL6 w (.int .i64 x.op) (.string x.name) (.int .i64 x.n) (.int .i64 x.w) (.int .u64 x.v) x5 25
  have hB1 : B ≤ W1.heap.size := Nat.le_trans hB hx1.size
  have GL := hide (show ECalls Tryd.prog 11 #[] W1 (.bool true) from fun w' hw => live_any w' (HTab.out.ext (hx1.trans hw)))
  have GX := hide (show ECalls Tryd.prog 12 #[.agg #[.int .i64 x.op, .string x.name, .int .i64 x.n, .int .i64 x.w, .int .u64 x.v, x5]] W1 (.bool (yes (fewP (sizeX x) (deepX x)))) from fun w' hw => fewX_any B x w' _ (HX.out.ext (hx1.trans hw) hB) (Nat.le_trans hB1 hw.size) (by omega))
  have KX := hide (show ECalls Tryd.prog 14 #[.agg #[.int .i64 x.op, .string x.name, .int .i64 x.n, .int .i64 x.w, .int .u64 x.v, x5]] W1 (.int .i64 (checkX x)) from fun w' hw => CheckX_any B x w' _ (HTab.out.ext (hx1.trans hw)) (HX.out.ext (hx1.trans hw) hB) (Nat.le_trans hB1 hw.size) (by omega) Vx)
  have Q01 := hide hx1
  obtain ⟨hsz, hdp⟩ := hfew
  rw [yes_iff.2 (show fewP (sizeX x) (deepX x) from ⟨hsz, hdp⟩)] at GX
  rw [hcx] at KX
  obtain ⟨hn0, hn33⟩ := n_of hcx
  obtain ⟨-, hd64, hmay⟩ := checkX_zero.1 hcx
  have hkm : bits .and .i64 k 3 = 0 := by rw [i64_and3]; exact hk
  have HMAY := hide hmay
  have HCX := hide hcx
  have VXX := hide Vx
  have HX5 := hide hx5
  have hnm : x.name.size ≤ 64 := name_of hmay
  clear hx hx5 hT hx1 Vx hmay hcx hk
  go_enter Tryd.func6, Tryd.ntmps6
  go_wp2_with (first
    | (go_at_call 11; refine (GL.out.at_ _).mono ?_; rintro _ _ ⟨rfl, e, rfl⟩)
    | (go_at_call 12; refine (GX.out.at_ _).mono ?_; rintro _ _ ⟨rfl, e, rfl⟩))
  refine (KX.out.at_ _).mono ?_
  rintro _ _ ⟨rfl, e, rfl⟩
  obtain ⟨Wa, hWa, hxa, hba⟩ := box6 e.w (.int .i64 0) (.string ⟨#[]⟩) (.int .i64 0) (.int .i64 0) (.int .u64 0) (.slice none 0 0) 25
  have hga : W1.heap.size ≤ e.w.heap.size := e.ext.size
  have hVa := hWa.symm
  obtain ⟨m0, m1, m2, m3, m4, m5⟩ := hba.get6
  obtain ⟨n0, n1, n2, n3, n4, n5⟩ := hba.free6
  obtain ⟨Wb, hWb⟩ : ∃ Wb, Wb = (((((Wa.setCell ⟨e.w.heap.size, 0, none⟩ (.int .i64 x.op)).setCell ⟨e.w.heap.size, 1, none⟩ (.string x.name)).setCell ⟨e.w.heap.size, 2, none⟩ (.int .i64 x.n)).setCell ⟨e.w.heap.size, 3, none⟩ (.int .i64 x.w)).setCell ⟨e.w.heap.size, 4, none⟩ (.int .u64 x.v)).setCell ⟨e.w.heap.size, 5, none⟩ x5 := ⟨_, rfl⟩
  have hbb := hba.store6 (.int .i64 x.op) (.string x.name) (.int .i64 x.n) (.int .i64 x.w) (.int .u64 x.v) x5
  rw [← hWb] at hbb
  obtain ⟨eb, rfl⟩ := Later.mk_ex (show Ext W1 Wb by rw [hWb]; exact ((((((e.ext.trans hxa).setCell hga _).setCell hga _).setCell hga _).setCell hga _).setCell hga _).setCell hga _)
  have hVb := hWb.symm
  obtain ⟨Wc, hWc⟩ : ∃ Wc, Wc = eb.w.setCell ⟨e.w.heap.size, 2, none⟩ (.int .i64 (x.n + 40)) := ⟨_, rfl⟩
  have hbc := hbb.set_ 2 (.int .i64 (x.n + 40))
  rw [← hWc] at hbc
  simp only [List.set_cons_zero, List.set_cons_succ] at hbc
  have hxc : Ext W1 Wc := by rw [hWc]; exact eb.ext.setCell hga _
  obtain ⟨ec, hec⟩ := Later.mk_ex (Ext.refl Wc)
  have hVc := hWc.symm.trans hec
  clear hWc hec
  have RXY : RX Wc B (spN x) [.int .i64 x.op, .string x.name, .int .i64 (x.n + 40), .int .i64 x.w, .int .u64 x.v, x5] := RX_iff.2 ⟨_, rfl, HX5.out.extRX (Q01.out.trans hxc) hB⟩
  have CY : checkX (spN x) = 1 := check_sp (by rw [sizeX_of (show (spN x).l = x.l from rfl)]; omega) (by rw [deepX_of (show (spN x).l = x.l from rfl)]; exact hd64) (not_spN HMAY.out)
  have KY := hide (show ECalls Tryd.prog 14 #[.agg #[.int .i64 x.op, .string x.name, .int .i64 (x.n + 40), .int .i64 x.w, .int .u64 x.v, x5]] Wc (.int .i64 1) from ECalls.eq (v := .int .i64 (checkX (spN x))) (fun w' hw => CheckX_any B (spN x) w' _ (HTab.out.ext (Q01.out.trans (hxc.trans hw))) (RXY.ext hw (Nat.le_trans hB1 hxc.size)) (Nat.le_trans (Nat.le_trans hB1 hxc.size) hw.size) (by rw [sizeX_of (show (spN x).l = x.l from rfl)]; omega) (VX_iff.2 ((VX_iff (x := x)).1 VXX.out))) (by rw [CY]))
  have KS := hide (show ECalls Tryd.prog 24 #[.agg #[.int .i64 x.op, .string x.name, .int .i64 x.n, .int .i64 x.w, .int .u64 x.v, x5], .agg #[.int .i64 x.op, .string x.name, .int .i64 (x.n + 40), .int .i64 x.w, .int .u64 x.v, x5]] Wc (.bool false) from ECalls.eq (v := .bool (same x (spN x))) (fun w' hw => astSameX_any B x (spN x) w' _ _ (HX.out.ext (Q01.out.trans (hxc.trans hw)) hB) (RXY.ext hw (Nat.le_trans hB1 hxc.size)) (Nat.le_trans (Nat.le_trans hB1 hxc.size) hw.size) (by omega)) (by rw [same_false.2 (ne_spN x)]))
  have KT := hide (show ECalls Tryd.prog 24 #[.agg #[.int .i64 x.op, .string x.name, .int .i64 x.n, .int .i64 x.w, .int .u64 x.v, x5], .agg #[.int .i64 x.op, .string x.name, .int .i64 x.n, .int .i64 x.w, .int .u64 x.v, x5]] Wc (.bool true) from ECalls.eq (v := .bool (same x x)) (fun w' hw => astSameX_any B x x w' _ _ (HX.out.ext (Q01.out.trans (hxc.trans hw)) hB) (HX.out.ext (Q01.out.trans (hxc.trans hw)) hB) (Nat.le_trans (Nat.le_trans hB1 hxc.size) hw.size) (by omega)) (by rw [same_self]))
  have hq1 := hbc.later6
  obtain ⟨y0, y1, y2, y3, y4, y5⟩ := hq1
  have hq2 := And.intro (cellL c0 hxc) (And.intro (cellL c1 hxc) (And.intro (cellL c2 hxc) (And.intro (cellL c3 hxc) (And.intro (cellL c4 hxc) (cellL c5 hxc)))))
  obtain ⟨g0, g1, g2, g3, g4, g5⟩ := hq2
  obtain ⟨s0, s1, s2, s3, s4, s5⟩ := hbb.get6
  obtain ⟨t0, t1, t2, t3, t4, t5⟩ := hbb.free6
  have QC := hide (Q01.out.trans hxc)
  clear hbc hbb hba RXY hWb hWa HX HTab HX5 HMAY HCX VXX CY hsz hdp zx KX GX GL Q01
  go_wp2_with (first
    | (go_at_call 14; refine (KY.out.at_ _).mono ?_; rintro _ _ ⟨rfl, e, rfl⟩)
    | (go_at_call 24; with_reducible refine (KS.out.at_ _).mono ?_; rintro _ _ ⟨rfl, e, rfl⟩)
    | (go_at_call 24; with_reducible refine (KT.out.at_ _).mono ?_; rintro _ _ ⟨rfl, e, rfl⟩))
  go_ret
  exact ⟨rfl, QC.out.trans (Later.ext _)⟩

set_option maxRecDepth 20000 in
set_option maxHeartbeats 8000000 in
theorem spoilt_w (B : Nat) (x : X) (k : Int) (w : World) (cx : List Value) (hk : k % 4 = 1) (hfew : fewP (sizeX x) (deepX x)) (hcx : checkX x = 0) (hT : Tabs w) (hB : B ≤ w.heap.size) (hx : RX w B x cx) (zx : sizeX x ≤ 100000000) (Vx : VX x) :
    Calls Tryd.prog 6 #[.agg cx.toArray, .int .i64 k] w fun e w' => e = .returned (.bool true) ∧ Ext w w' := by
  have HX := hide hx
  have HTab := hide hT
  obtain ⟨x5, rfl, hx5⟩ := RX_iff.1 hx
  have ox := hx5.oneCell
  obtain ⟨W1, e1, hV1, hx1, hs1, c0, c1, c2, c3, c4, c5⟩ := boxL6 w (.int .i64 x.op) (.string x.name) (.int .i64 x.n) (.int .i64 x.w) (.int .u64 x.v) x5 25
  have hB1 : B ≤ W1.heap.size := Nat.le_trans hB hx1.size
  have GL := hide (show ECalls Tryd.prog 11 #[] W1 (.bool true) from fun w' hw => live_any w' (HTab.out.ext (hx1.trans hw)))
  have GX := hide (show ECalls Tryd.prog 12 #[.agg #[.int .i64 x.op, .string x.name, .int .i64 x.n, .int .i64 x.w, .int .u64 x.v, x5]] W1 (.bool (yes (fewP (sizeX x) (deepX x)))) from fun w' hw => fewX_any B x w' _ (HX.out.ext (hx1.trans hw) hB) (Nat.le_trans hB1 hw.size) (by omega))
  have KX := hide (show ECalls Tryd.prog 14 #[.agg #[.int .i64 x.op, .string x.name, .int .i64 x.n, .int .i64 x.w, .int .u64 x.v, x5]] W1 (.int .i64 (checkX x)) from fun w' hw => CheckX_any B x w' _ (HTab.out.ext (hx1.trans hw)) (HX.out.ext (hx1.trans hw) hB) (Nat.le_trans hB1 hw.size) (by omega) Vx)
  have Q01 := hide hx1
  obtain ⟨hsz, hdp⟩ := hfew
  rw [yes_iff.2 (show fewP (sizeX x) (deepX x) from ⟨hsz, hdp⟩)] at GX
  rw [hcx] at KX
  obtain ⟨hn0, hn33⟩ := n_of hcx
  obtain ⟨-, hd64, hmay⟩ := checkX_zero.1 hcx
  have hkm : bits .and .i64 k 3 = 1 := by rw [i64_and3]; exact hk
  have HMAY := hide hmay
  have HCX := hide hcx
  have VXX := hide Vx
  have HX5 := hide hx5
  have hnm : x.name.size ≤ 64 := name_of hmay
  clear hx hx5 hT hx1 Vx hmay hcx hk
  go_enter Tryd.func6, Tryd.ntmps6
  go_wp2_with (first
    | (go_at_call 11; refine (GL.out.at_ _).mono ?_; rintro _ _ ⟨rfl, e, rfl⟩)
    | (go_at_call 12; refine (GX.out.at_ _).mono ?_; rintro _ _ ⟨rfl, e, rfl⟩))
  refine (KX.out.at_ _).mono ?_
  rintro _ _ ⟨rfl, e, rfl⟩
  obtain ⟨Wa, hWa, hxa, hba⟩ := box6 e.w (.int .i64 0) (.string ⟨#[]⟩) (.int .i64 0) (.int .i64 0) (.int .u64 0) (.slice none 0 0) 25
  have hga : W1.heap.size ≤ e.w.heap.size := e.ext.size
  have hVa := hWa.symm
  obtain ⟨m0, m1, m2, m3, m4, m5⟩ := hba.get6
  obtain ⟨n0, n1, n2, n3, n4, n5⟩ := hba.free6
  obtain ⟨Wb, hWb⟩ : ∃ Wb, Wb = (((((Wa.setCell ⟨e.w.heap.size, 0, none⟩ (.int .i64 x.op)).setCell ⟨e.w.heap.size, 1, none⟩ (.string x.name)).setCell ⟨e.w.heap.size, 2, none⟩ (.int .i64 x.n)).setCell ⟨e.w.heap.size, 3, none⟩ (.int .i64 x.w)).setCell ⟨e.w.heap.size, 4, none⟩ (.int .u64 x.v)).setCell ⟨e.w.heap.size, 5, none⟩ x5 := ⟨_, rfl⟩
  have hbb := hba.store6 (.int .i64 x.op) (.string x.name) (.int .i64 x.n) (.int .i64 x.w) (.int .u64 x.v) x5
  rw [← hWb] at hbb
  obtain ⟨eb, rfl⟩ := Later.mk_ex (show Ext W1 Wb by rw [hWb]; exact ((((((e.ext.trans hxa).setCell hga _).setCell hga _).setCell hga _).setCell hga _).setCell hga _).setCell hga _)
  have hVb := hWb.symm
  obtain ⟨Wc, hWc⟩ : ∃ Wc, Wc = eb.w.setCell ⟨e.w.heap.size, 3, none⟩ (.int .i64 65) := ⟨_, rfl⟩
  have hbc := hbb.set_ 3 (.int .i64 65)
  rw [← hWc] at hbc
  simp only [List.set_cons_zero, List.set_cons_succ] at hbc
  have hxc : Ext W1 Wc := by rw [hWc]; exact eb.ext.setCell hga _
  obtain ⟨ec, hec⟩ := Later.mk_ex (Ext.refl Wc)
  have hVc := hWc.symm.trans hec
  clear hWc hec
  have RXY : RX Wc B (spW x) [.int .i64 x.op, .string x.name, .int .i64 x.n, .int .i64 65, .int .u64 x.v, x5] := RX_iff.2 ⟨_, rfl, HX5.out.extRX (Q01.out.trans hxc) hB⟩
  have CY : checkX (spW x) = 1 := check_sp (by rw [sizeX_of (show (spW x).l = x.l from rfl)]; omega) (by rw [deepX_of (show (spW x).l = x.l from rfl)]; exact hd64) not_spW
  have KY := hide (show ECalls Tryd.prog 14 #[.agg #[.int .i64 x.op, .string x.name, .int .i64 x.n, .int .i64 65, .int .u64 x.v, x5]] Wc (.int .i64 1) from ECalls.eq (v := .int .i64 (checkX (spW x))) (fun w' hw => CheckX_any B (spW x) w' _ (HTab.out.ext (Q01.out.trans (hxc.trans hw))) (RXY.ext hw (Nat.le_trans hB1 hxc.size)) (Nat.le_trans (Nat.le_trans hB1 hxc.size) hw.size) (by rw [sizeX_of (show (spW x).l = x.l from rfl)]; omega) (VX_iff.2 ((VX_iff (x := x)).1 VXX.out))) (by rw [CY]))
  have KS := hide (show ECalls Tryd.prog 24 #[.agg #[.int .i64 x.op, .string x.name, .int .i64 x.n, .int .i64 x.w, .int .u64 x.v, x5], .agg #[.int .i64 x.op, .string x.name, .int .i64 x.n, .int .i64 65, .int .u64 x.v, x5]] Wc (.bool false) from ECalls.eq (v := .bool (same x (spW x))) (fun w' hw => astSameX_any B x (spW x) w' _ _ (HX.out.ext (Q01.out.trans (hxc.trans hw)) hB) (RXY.ext hw (Nat.le_trans hB1 hxc.size)) (Nat.le_trans (Nat.le_trans hB1 hxc.size) hw.size) (by omega)) (by rw [same_false.2 (ne_spW HMAY.out)]))
  have KT := hide (show ECalls Tryd.prog 24 #[.agg #[.int .i64 x.op, .string x.name, .int .i64 x.n, .int .i64 x.w, .int .u64 x.v, x5], .agg #[.int .i64 x.op, .string x.name, .int .i64 x.n, .int .i64 x.w, .int .u64 x.v, x5]] Wc (.bool true) from ECalls.eq (v := .bool (same x x)) (fun w' hw => astSameX_any B x x w' _ _ (HX.out.ext (Q01.out.trans (hxc.trans hw)) hB) (HX.out.ext (Q01.out.trans (hxc.trans hw)) hB) (Nat.le_trans (Nat.le_trans hB1 hxc.size) hw.size) (by omega)) (by rw [same_self]))
  have hq1 := hbc.later6
  obtain ⟨y0, y1, y2, y3, y4, y5⟩ := hq1
  have hq2 := And.intro (cellL c0 hxc) (And.intro (cellL c1 hxc) (And.intro (cellL c2 hxc) (And.intro (cellL c3 hxc) (And.intro (cellL c4 hxc) (cellL c5 hxc)))))
  obtain ⟨g0, g1, g2, g3, g4, g5⟩ := hq2
  obtain ⟨s0, s1, s2, s3, s4, s5⟩ := hbb.get6
  obtain ⟨t0, t1, t2, t3, t4, t5⟩ := hbb.free6
  have QC := hide (Q01.out.trans hxc)
  clear hbc hbb hba RXY hWb hWa HX HTab HX5 HMAY HCX VXX CY hsz hdp zx KX GX GL Q01
  go_wp2_with (first
    | (go_at_call 14; refine (KY.out.at_ _).mono ?_; rintro _ _ ⟨rfl, e, rfl⟩)
    | (go_at_call 24; with_reducible refine (KS.out.at_ _).mono ?_; rintro _ _ ⟨rfl, e, rfl⟩)
    | (go_at_call 24; with_reducible refine (KT.out.at_ _).mono ?_; rintro _ _ ⟨rfl, e, rfl⟩))
  go_ret
  exact ⟨rfl, QC.out.trans (Later.ext _)⟩

set_option maxRecDepth 20000 in
set_option maxHeartbeats 8000000 in
theorem spoilt_m (B : Nat) (x : X) (k : Int) (w : World) (cx : List Value) (hk : k % 4 = 2) (hfew : fewP (sizeX x) (deepX x)) (hcx : checkX x = 0) (hT : Tabs w) (hB : B ≤ w.heap.size) (hx : RX w B x cx) (zx : sizeX x ≤ 100000000) (Vx : VX x) :
    Calls Tryd.prog 6 #[.agg cx.toArray, .int .i64 k] w fun e w' => e = .returned (.bool true) ∧ Ext w w' := by
  have HX := hide hx
  have HTab := hide hT
  obtain ⟨x5, rfl, hx5⟩ := RX_iff.1 hx
  have ox := hx5.oneCell
  obtain ⟨W1, e1, hV1, hx1, hs1, c0, c1, c2, c3, c4, c5⟩ := boxL6 w (.int .i64 x.op) (.string x.name) (.int .i64 x.n) (.int .i64 x.w) (.int .u64 x.v) x5 25
  have hB1 : B ≤ W1.heap.size := Nat.le_trans hB hx1.size
  have GL := hide (show ECalls Tryd.prog 11 #[] W1 (.bool true) from fun w' hw => live_any w' (HTab.out.ext (hx1.trans hw)))
  have GX := hide (show ECalls Tryd.prog 12 #[.agg #[.int .i64 x.op, .string x.name, .int .i64 x.n, .int .i64 x.w, .int .u64 x.v, x5]] W1 (.bool (yes (fewP (sizeX x) (deepX x)))) from fun w' hw => fewX_any B x w' _ (HX.out.ext (hx1.trans hw) hB) (Nat.le_trans hB1 hw.size) (by omega))
  have KX := hide (show ECalls Tryd.prog 14 #[.agg #[.int .i64 x.op, .string x.name, .int .i64 x.n, .int .i64 x.w, .int .u64 x.v, x5]] W1 (.int .i64 (checkX x)) from fun w' hw => CheckX_any B x w' _ (HTab.out.ext (hx1.trans hw)) (HX.out.ext (hx1.trans hw) hB) (Nat.le_trans hB1 hw.size) (by omega) Vx)
  have Q01 := hide hx1
  obtain ⟨hsz, hdp⟩ := hfew
  rw [yes_iff.2 (show fewP (sizeX x) (deepX x) from ⟨hsz, hdp⟩)] at GX
  rw [hcx] at KX
  obtain ⟨hn0, hn33⟩ := n_of hcx
  obtain ⟨-, hd64, hmay⟩ := checkX_zero.1 hcx
  have hkm : bits .and .i64 k 3 = 2 := by rw [i64_and3]; exact hk
  have HMAY := hide hmay
  have HCX := hide hcx
  have VXX := hide Vx
  have HX5 := hide hx5
  have hnm : x.name.size ≤ 64 := name_of hmay
  clear hx hx5 hT hx1 Vx hmay hcx hk
  go_enter Tryd.func6, Tryd.ntmps6
  go_wp2_with (first
    | (go_at_call 11; refine (GL.out.at_ _).mono ?_; rintro _ _ ⟨rfl, e, rfl⟩)
    | (go_at_call 12; refine (GX.out.at_ _).mono ?_; rintro _ _ ⟨rfl, e, rfl⟩))
  refine (KX.out.at_ _).mono ?_
  rintro _ _ ⟨rfl, e, rfl⟩
  obtain ⟨Wa, hWa, hxa, hba⟩ := box6 e.w (.int .i64 0) (.string ⟨#[]⟩) (.int .i64 0) (.int .i64 0) (.int .u64 0) (.slice none 0 0) 25
  have hga : W1.heap.size ≤ e.w.heap.size := e.ext.size
  have hVa := hWa.symm
  obtain ⟨m0, m1, m2, m3, m4, m5⟩ := hba.get6
  obtain ⟨n0, n1, n2, n3, n4, n5⟩ := hba.free6
  obtain ⟨Wb, hWb⟩ : ∃ Wb, Wb = (((((Wa.setCell ⟨e.w.heap.size, 0, none⟩ (.int .i64 x.op)).setCell ⟨e.w.heap.size, 1, none⟩ (.string x.name)).setCell ⟨e.w.heap.size, 2, none⟩ (.int .i64 x.n)).setCell ⟨e.w.heap.size, 3, none⟩ (.int .i64 x.w)).setCell ⟨e.w.heap.size, 4, none⟩ (.int .u64 x.v)).setCell ⟨e.w.heap.size, 5, none⟩ x5 := ⟨_, rfl⟩
  have hbb := hba.store6 (.int .i64 x.op) (.string x.name) (.int .i64 x.n) (.int .i64 x.w) (.int .u64 x.v) x5
  rw [← hWb] at hbb
  obtain ⟨eb, rfl⟩ := Later.mk_ex (show Ext W1 Wb by rw [hWb]; exact ((((((e.ext.trans hxa).setCell hga _).setCell hga _).setCell hga _).setCell hga _).setCell hga _).setCell hga _)
  have hVb := hWb.symm
  obtain ⟨Wc, hWc⟩ : ∃ Wc, Wc = eb.w.setCell ⟨e.w.heap.size, 1, none⟩ (.string (⟨#[49]⟩ ++ x.name)) := ⟨_, rfl⟩
  have hbc := hbb.set_ 1 (.string (⟨#[49]⟩ ++ x.name))
  rw [← hWc] at hbc
  simp only [List.set_cons_zero, List.set_cons_succ] at hbc
  have hxc : Ext W1 Wc := by rw [hWc]; exact eb.ext.setCell hga _
  obtain ⟨ec, hec⟩ := Later.mk_ex (Ext.refl Wc)
  have hVc := hWc.symm.trans hec
  clear hWc hec
  have RXY : RX Wc B (spM x) [.int .i64 x.op, .string (⟨#[49]⟩ ++ x.name), .int .i64 x.n, .int .i64 x.w, .int .u64 x.v, x5] := RX_iff.2 ⟨_, rfl, HX5.out.extRX (Q01.out.trans hxc) hB⟩
  have CY : checkX (spM x) = 1 := check_sp (by rw [sizeX_of (show (spM x).l = x.l from rfl)]; omega) (by rw [deepX_of (show (spM x).l = x.l from rfl)]; exact hd64) not_spM
  have KY := hide (show ECalls Tryd.prog 14 #[.agg #[.int .i64 x.op, .string (⟨#[49]⟩ ++ x.name), .int .i64 x.n, .int .i64 x.w, .int .u64 x.v, x5]] Wc (.int .i64 1) from ECalls.eq (v := .int .i64 (checkX (spM x))) (fun w' hw => CheckX_any B (spM x) w' _ (HTab.out.ext (Q01.out.trans (hxc.trans hw))) (RXY.ext hw (Nat.le_trans hB1 hxc.size)) (Nat.le_trans (Nat.le_trans hB1 hxc.size) hw.size) (by rw [sizeX_of (show (spM x).l = x.l from rfl)]; omega) (vx_spM VXX.out hnm)) (by rw [CY]))
  have KS := hide (show ECalls Tryd.prog 24 #[.agg #[.int .i64 x.op, .string x.name, .int .i64 x.n, .int .i64 x.w, .int .u64 x.v, x5], .agg #[.int .i64 x.op, .string (⟨#[49]⟩ ++ x.name), .int .i64 x.n, .int .i64 x.w, .int .u64 x.v, x5]] Wc (.bool false) from ECalls.eq (v := .bool (same x (spM x))) (fun w' hw => astSameX_any B x (spM x) w' _ _ (HX.out.ext (Q01.out.trans (hxc.trans hw)) hB) (RXY.ext hw (Nat.le_trans hB1 hxc.size)) (Nat.le_trans (Nat.le_trans hB1 hxc.size) hw.size) (by omega)) (by rw [same_false.2 (ne_spM HMAY.out)]))
  have KT := hide (show ECalls Tryd.prog 24 #[.agg #[.int .i64 x.op, .string x.name, .int .i64 x.n, .int .i64 x.w, .int .u64 x.v, x5], .agg #[.int .i64 x.op, .string x.name, .int .i64 x.n, .int .i64 x.w, .int .u64 x.v, x5]] Wc (.bool true) from ECalls.eq (v := .bool (same x x)) (fun w' hw => astSameX_any B x x w' _ _ (HX.out.ext (Q01.out.trans (hxc.trans hw)) hB) (HX.out.ext (Q01.out.trans (hxc.trans hw)) hB) (Nat.le_trans (Nat.le_trans hB1 hxc.size) hw.size) (by omega)) (by rw [same_self]))
  have hq1 := hbc.later6
  obtain ⟨y0, y1, y2, y3, y4, y5⟩ := hq1
  have hq2 := And.intro (cellL c0 hxc) (And.intro (cellL c1 hxc) (And.intro (cellL c2 hxc) (And.intro (cellL c3 hxc) (And.intro (cellL c4 hxc) (cellL c5 hxc)))))
  obtain ⟨g0, g1, g2, g3, g4, g5⟩ := hq2
  obtain ⟨s0, s1, s2, s3, s4, s5⟩ := hbb.get6
  obtain ⟨t0, t1, t2, t3, t4, t5⟩ := hbb.free6
  have QC := hide (Q01.out.trans hxc)
  clear hbc hbb hba RXY hWb hWa HX HTab HX5 HMAY HCX VXX CY hsz hdp zx KX GX GL Q01
  go_wp2_with (first
    | (go_at_call 14; refine (KY.out.at_ _).mono ?_; rintro _ _ ⟨rfl, e, rfl⟩)
    | (go_at_call 24; with_reducible refine (KS.out.at_ _).mono ?_; rintro _ _ ⟨rfl, e, rfl⟩)
    | (go_at_call 24; with_reducible refine (KT.out.at_ _).mono ?_; rintro _ _ ⟨rfl, e, rfl⟩))
  go_ret
  exact ⟨rfl, QC.out.trans (Later.ext _)⟩

set_option maxRecDepth 20000 in
set_option maxHeartbeats 8000000 in
theorem spoilt_l (B : Nat) (x : X) (k : Int) (w : World) (cx : List Value) (hk : k % 4 = 3) (hfew : fewP (sizeX x) (deepX x)) (hcx : checkX x = 0) (hT : Tabs w) (hB : B ≤ w.heap.size) (hx : RX w B x cx) (zx : sizeX x ≤ 100000000) (Vx : VX x) :
    Calls Tryd.prog 6 #[.agg cx.toArray, .int .i64 k] w fun e w' => e = .returned (.bool true) ∧ Ext w w' := by
  have HX := hide hx
  have HTab := hide hT
  obtain ⟨x5, rfl, hx5⟩ := RX_iff.1 hx
  have ox := hx5.oneCell
  obtain ⟨ax, capx, rfl, hcapx, hrowx⟩ := id hx5
  obtain ⟨W1, e1, hV1, hx1, hs1, c0, c1, c2, c3, c4, c5⟩ := boxL6 w (.int .i64 x.op) (.string x.name) (.int .i64 x.n) (.int .i64 x.w) (.int .u64 x.v) (.slice ax x.l.length capx) 25
  have hB1 : B ≤ W1.heap.size := Nat.le_trans hB hx1.size
  have GL := hide (show ECalls Tryd.prog 11 #[] W1 (.bool true) from fun w' hw => live_any w' (HTab.out.ext (hx1.trans hw)))
  have GX := hide (show ECalls Tryd.prog 12 #[.agg #[.int .i64 x.op, .string x.name, .int .i64 x.n, .int .i64 x.w, .int .u64 x.v, .slice ax x.l.length capx]] W1 (.bool (yes (fewP (sizeX x) (deepX x)))) from fun w' hw => fewX_any B x w' _ (HX.out.ext (hx1.trans hw) hB) (Nat.le_trans hB1 hw.size) (by omega))
  have KX := hide (show ECalls Tryd.prog 14 #[.agg #[.int .i64 x.op, .string x.name, .int .i64 x.n, .int .i64 x.w, .int .u64 x.v, .slice ax x.l.length capx]] W1 (.int .i64 (checkX x)) from fun w' hw => CheckX_any B x w' _ (HTab.out.ext (hx1.trans hw)) (HX.out.ext (hx1.trans hw) hB) (Nat.le_trans hB1 hw.size) (by omega) Vx)
  have Q01 := hide hx1
  obtain ⟨hsz, hdp⟩ := hfew
  rw [yes_iff.2 (show fewP (sizeX x) (deepX x) from ⟨hsz, hdp⟩)] at GX
  rw [hcx] at KX
  obtain ⟨hn0, hn33⟩ := n_of hcx
  obtain ⟨-, hd64, hmay⟩ := checkX_zero.1 hcx
  have hkm : bits .and .i64 k 3 = 3 := by rw [i64_and3]; exact hk
  have HMAY := hide hmay
  have HCX := hide hcx
  have VXX := hide Vx
  have HX5 := hide hx5
  have hnm : x.name.size ≤ 64 := name_of hmay
  obtain ⟨news, hflat, hnewsR⟩ := hrowx.flat
  have hll := length_le_msize sizeX x.l sizeX_pos
  have hse := sizeX_eq x
  have hln : x.l.length ≤ 1000000 := by omega
  have HFLAT := hide hflat
  have HNR := hide hnewsR
  obtain ⟨ti, hti, htz, hts, htb⟩ := info_parts infoX
  clear hrowx hflat hnewsR hcapx hll hse
  clear hx hx5 hT hx1 Vx hmay hcx hk
  go_enter Tryd.func6, Tryd.ntmps6
  go_wp2_with (first
    | (go_at_call 11; refine (GL.out.at_ _).mono ?_; rintro _ _ ⟨rfl, e, rfl⟩)
    | (go_at_call 12; refine (GX.out.at_ _).mono ?_; rintro _ _ ⟨rfl, e, rfl⟩))
  refine (KX.out.at_ _).mono ?_
  rintro _ _ ⟨rfl, e, rfl⟩
  obtain ⟨Wa, hWa, hxa, hba⟩ := box6 e.w (.int .i64 0) (.string ⟨#[]⟩) (.int .i64 0) (.int .i64 0) (.int .u64 0) (.slice none 0 0) 25
  have hga : W1.heap.size ≤ e.w.heap.size := e.ext.size
  have hVa := hWa.symm
  obtain ⟨m0, m1, m2, m3, m4, m5⟩ := hba.get6
  obtain ⟨n0, n1, n2, n3, n4, n5⟩ := hba.free6
  obtain ⟨Wb, hWb⟩ : ∃ Wb, Wb = (((((Wa.setCell ⟨e.w.heap.size, 0, none⟩ (.int .i64 x.op)).setCell ⟨e.w.heap.size, 1, none⟩ (.string x.name)).setCell ⟨e.w.heap.size, 2, none⟩ (.int .i64 x.n)).setCell ⟨e.w.heap.size, 3, none⟩ (.int .i64 x.w)).setCell ⟨e.w.heap.size, 4, none⟩ (.int .u64 x.v)).setCell ⟨e.w.heap.size, 5, none⟩ (.slice ax x.l.length capx) := ⟨_, rfl⟩
  have hbb := hba.store6 (.int .i64 x.op) (.string x.name) (.int .i64 x.n) (.int .i64 x.w) (.int .u64 x.v) (.slice ax x.l.length capx)
  rw [← hWb] at hbb
  obtain ⟨eb, rfl⟩ := Later.mk_ex (show Ext W1 Wb by rw [hWb]; exact ((((((e.ext.trans hxa).setCell hga _).setCell hga _).setCell hga _).setCell hga _).setCell hga _).setCell hga _)
  have hVb := hWb.symm
  have QB := hide (Q01.out.trans eb.ext)
  have hgb := hbb.lt
  have HBB := hide hbb
  obtain ⟨s0, s1, s2, s3, s4, s5⟩ := hbb.get6
  obtain ⟨t0, t1, t2, t3, t4, t5⟩ := hbb.free6
  clear hbb hba hWb hWa
  obtain ⟨Wd, hWd⟩ : ∃ Wd, Wd = eb.w.alloc (.cells #[] 25) := ⟨_, rfl⟩
  have hxd : Ext eb.w Wd := by rw [hWd]; exact Ext.new _ _
  have hbd := HBB.out.ext hxd
  have hownd : Wd.ownsRow eb.w.heap.size 25 6 (.slice (some ⟨eb.w.heap.size, 0, none⟩) 0 0) 0 [] := by
    refine ⟨by simp, .inr ⟨eb.w.heap.size, 0, #[], rfl, Nat.le_refl _, ?_, Nat.le_refl _, by decide, by simp, by simp⟩⟩
    rw [hWd]
    exact Blk.new _ _ []
  have hflatd : Flat Wd 6 ax x.l.length news := HFLAT.out.ext ((Q01.out.trans eb.ext).trans hxd)
  have hszd : eb.w.heap.size + 1 = Wd.heap.size := by rw [hWd]; simp
  have hwb : W1.heap.size ≤ eb.w.heap.size := eb.ext.size
  obtain ⟨ed, hed⟩ := Later.mk_ex (show Ext W1 Wd from eb.ext.trans hxd)
  subst hed
  have HBD := hide hbd
  have HOWN := hide hownd
  have HFL := hide hflatd
  have HGB := hide hgb
  have HGA := hide hga
  have HWB := hide hwb
  have HSZ := hide hszd
  have hVd := hWd.symm
  clear hWd hbd hownd hflatd hxd hgb hga hwb hszd
  go_wp2_with (first
    | (at_builtin; refine wpList_append_flat rfl _ _ 23 rfl eb.w.heap.size 25 ti _ 6 72 Tryd.underlying23 hti htz hts htb rfl (by decide) (by decide) (.slice A1 x.l.length c1') x.l.length news rfl HOG.out (some ⟨ef.w.heap.size, 0, none⟩) 1 1 [.int .i64 0, .string ⟨#[]⟩, .int .i64 0, .int .i64 0, .int .u64 0, .slice none 0 0] rfl HFG.out (by omega) (by omega) (by have := HSG.out; omega) ?_; intro v2 w2 hown2 hg2 hf2
       have hrow2 : ∀ r, (Value.slice A1 x.l.length c1').ownBlock = some r → eb.w.heap.size ≤ r := (fun r hr => (HOG.out.lt r hr).1)
       have hx2' : Ext W1 w2 := eg.ext.grown hg2 (fun r hr => Nat.le_trans HWB.out (hrow2 r hr))
       have hbg2 : Blk w2 e.w.heap.size 25 _ := (hg2.block e.w.heap.size HBG.out.lt (by intro hr; have := hrow2 _ hr.symm; have := HGB.out; omega)).trans HBG.out
       obtain ⟨p0, p1, p2, p3, p4, p5⟩ := hbg2.get6
       obtain ⟨r0, r1, r2, r3, r4, r5⟩ := hbg2.free6
       obtain ⟨A2, c2', rfl⟩ := own_form hown2
       obtain ⟨Wc, hWc⟩ : ∃ Wc, Wc = w2.setCell ⟨e.w.heap.size, 5, none⟩ (.slice A2 (x.l.length + 1) c2') := ⟨_, rfl⟩
       have hbc := hbg2.set_ 5 (.slice A2 (x.l.length + 1) c2')
       simp only [List.set_cons_zero, List.set_cons_succ] at hbc
       have hown3 := ownsRow_setCell_below hown2 (a := ⟨e.w.heap.size, 5, none⟩) HGB.out (.slice A2 (x.l.length + 1) c2')
       rw [← hWc] at hbc hown3
       have hxc : Ext W1 Wc := (by rw [hWc]; exact hx2'.setCell HGA.out _)
       obtain ⟨ec, hec⟩ := Later.mk_ex (Ext.refl Wc)
       have hVc := hWc.symm.trans hec
       have hnl := HFLAT.out.1
       have RXY := hide (rx_spL (x := x) (zs := [.int .i64 0, .string ⟨#[]⟩, .int .i64 0, .int .i64 0, .int .u64 0, .slice none 0 0]) hnl rfl hown3 (by intro u hu; rcases List.mem_append.1 hu with hu | hu; exact HFLAT.out.2.1 u hu; simp only [List.mem_cons, List.not_mem_nil, or_false] at hu; rcases hu with rfl | rfl | rfl | rfl | rfl | rfl <;> rfl)
         (fun k hk => ((HNR.out k hk).ext (Q01.out.trans hxc) hB).more (Nat.le_trans (Nat.le_trans hB Q01.out.size) hxc.size)))
       obtain ⟨v0, v1, v2, v3, v4, v5⟩ := hbc.later6
       have g0 := cellL c0 hxc
       have g1 := cellL c1 hxc
       have g2 := cellL c2 hxc
       have g3 := cellL c3 hxc
       have g4 := cellL c4 hxc
       have g5 := cellL c5 hxc
       have HXC := hide hxc
       have KY := hide (show ECalls Tryd.prog 14 #[.agg #[.int .i64 x.op, .string x.name, .int .i64 x.n, .int .i64 x.w, .int .u64 x.v, .slice A2 (x.l.length + 1) c2']] Wc (.int .i64 1) from ECalls.eq (v := .int .i64 (checkX (spL x))) (fun w' hw => CheckX_any Wc.heap.size (spL x) w' _ (HTab.out.ext (Q01.out.trans (HXC.out.trans hw))) (RXY.out.ext hw (Nat.le_refl _)) hw.size (by rw [sizeX_spL]; omega) (vx_spL VXX.out)) (by rw [check_sp (by rw [sizeX_spL]; omega) (by have := deepX_spL x; omega) not_spL]))
       have KS := hide (show ECalls Tryd.prog 24 #[.agg #[.int .i64 x.op, .string x.name, .int .i64 x.n, .int .i64 x.w, .int .u64 x.v, .slice ax x.l.length capx], .agg #[.int .i64 x.op, .string x.name, .int .i64 x.n, .int .i64 x.w, .int .u64 x.v, .slice A2 (x.l.length + 1) c2']] Wc (.bool false) from ECalls.eq (v := .bool (same x (spL x))) (fun w' hw => astSameX_any Wc.heap.size x (spL x) w' _ _ ((HX.out.ext (Q01.out.trans (HXC.out.trans hw)) hB).more (Nat.le_trans (Nat.le_trans hB Q01.out.size) HXC.out.size)) (RXY.out.ext hw (Nat.le_refl _)) hw.size (by omega)) (by rw [same_false.2 (ne_spL HMAY.out)]))
       have KT := hide (show ECalls Tryd.prog 24 #[.agg #[.int .i64 x.op, .string x.name, .int .i64 x.n, .int .i64 x.w, .int .u64 x.v, .slice ax x.l.length capx], .agg #[.int .i64 x.op, .string x.name, .int .i64 x.n, .int .i64 x.w, .int .u64 x.v, .slice ax x.l.length capx]] Wc (.bool true) from ECalls.eq (v := .bool (same x x)) (fun w' hw => astSameX_any B x x w' _ _ (HX.out.ext (Q01.out.trans (HXC.out.trans hw)) hB) (HX.out.ext (Q01.out.trans (HXC.out.trans hw)) hB) (Nat.le_trans (Nat.le_trans hB1 HXC.out.size) hw.size) (by omega)) (by rw [same_self]))
       clear hWc hec hown2 hg2 hf2 hrow2 hx2' hbg2 hown3 hnl hbc hxc)
    | (at_builtin; refine wpList_append_flat rfl _ _ 23 rfl eb.w.heap.size 25 ti _ 6 72 Tryd.underlying23 hti htz hts htb rfl (by decide) (by decide) (.slice (some ⟨eb.w.heap.size, 0, none⟩) 0 0) 0 [] rfl HOWN.out ax x.l.length capx news rfl HFL.out (by omega) (by omega) (by have := HSZ.out; omega) ?_; intro v1 w1 hown1 hg1 hf1
       simp only [Nat.zero_add, List.nil_append] at hown1
       have hrow1 : ∀ r, (Value.slice (some ⟨eb.w.heap.size, 0, none⟩) 0 0).ownBlock = some r → r = eb.w.heap.size := (by intro r hr; simp [Value.ownBlock] at hr; exact hr.symm)
       have hx1' : Ext W1 w1 := ed.ext.grown hg1 (by intro r hr; rw [hrow1 r hr]; exact HWB.out)
       have hbg1 : Blk w1 e.w.heap.size 25 _ := (hg1.block e.w.heap.size HBD.out.lt (by intro hr; have := hrow1 _ hr.symm; have := HGB.out; omega)).trans HBD.out
       obtain ⟨p0, p1, p2, p3, p4, p5⟩ := hbg1.get6
       obtain ⟨r0, r1, r2, r3, r4, r5⟩ := hbg1.free6
       obtain ⟨A1, c1', rfl⟩ := own_form hown1
       obtain ⟨Wf, hWf⟩ : ∃ Wf, Wf = w1.setCell ⟨e.w.heap.size, 5, none⟩ (.slice A1 x.l.length c1') := ⟨_, rfl⟩
       have hbf := hbg1.set_ 5 (.slice A1 x.l.length c1')
       simp only [List.set_cons_zero, List.set_cons_succ] at hbf
       have hownf := ownsRow_setCell_below hown1 (a := ⟨e.w.heap.size, 5, none⟩) HGB.out (.slice A1 x.l.length c1')
       rw [← hWf] at hbf hownf
       have hszf : eb.w.heap.size ≤ Wf.heap.size := by rw [hWf]; simp [World.setCell]; have := hg1.size; have := HSZ.out; omega
       obtain ⟨ef, hef⟩ := Later.mk_ex (show Ext W1 Wf by rw [hWf]; exact hx1'.setCell HGA.out _)
       subst hef
       have hVf := hWf.symm
       obtain ⟨Wg, hWg, hxg, hbgg⟩ := box6 ef.w (.int .i64 0) (.string ⟨#[]⟩) (.int .i64 0) (.int .i64 0) (.int .u64 0) (.slice none 0 0) 25
       have hbg := hbf.ext hxg
       have hog := hownf.alloc (.cells #[.int .i64 0, .string ⟨#[]⟩, .int .i64 0, .int .i64 0, .int .u64 0, .slice none 0 0] 25)
       rw [← hWg] at hog
       have hfg : Flat Wg 6 (some ⟨ef.w.heap.size, 0, none⟩) 1 [.int .i64 0, .string ⟨#[]⟩, .int .i64 0, .int .i64 0, .int .u64 0, .slice none 0 0] := ⟨rfl, (by intro u hu; simp only [List.mem_cons, List.not_mem_nil, or_false] at hu; rcases hu with rfl | rfl | rfl | rfl | rfl | rfl <;> rfl), (fun _ => ⟨_, _, rfl, hbgg.cells⟩)⟩
       have hsg : eb.w.heap.size ≤ Wg.heap.size := Nat.le_trans hszf hxg.size
       obtain ⟨eg, heg⟩ := Later.mk_ex (ef.ext.trans hxg)
       subst heg
       have hVg := hWg.symm
       have HOG := hide hog
       have HFG := hide hfg
       have HBG := hide hbg
       have HSG := hide hsg
       obtain ⟨z0, z1, z2, z3, z4, z5⟩ := hbf.get6
       obtain ⟨y0, y1, y2, y3, y4, y5⟩ := hbg.free6
       clear hWf hbf hownf hszf hrow1 hx1' hbg1 hown1 hg1 hf1 hWg hxg hbgg hbg hog hfg hsg)
    | (go_at_call 14; refine (KY.out.at_ _).mono ?_; rintro _ _ ⟨rfl, e, rfl⟩)
    | (go_at_call 24; with_reducible refine (KS.out.at_ _).mono ?_; rintro _ _ ⟨rfl, e, rfl⟩)
    | (go_at_call 24; with_reducible refine (KT.out.at_ _).mono ?_; rintro _ _ ⟨rfl, e, rfl⟩))
  go_ret
  exact ⟨rfl, Q01.out.trans (HXC.out.trans (Later.ext _))⟩

theorem lawSpoilt_any (B : Nat) (x : X) (k : Int) (w : World) (cx : List Value) (hT : Tabs w) (hB : B ≤ w.heap.size) (hx : RX w B x cx) (zx : sizeX x ≤ 100000000) (Vx : VX x) :
    Calls Tryd.prog 6 #[.agg cx.toArray, .int .i64 k] w fun e w' => e = .returned (.bool true) ∧ Ext w w' := by
  by_cases hno : fewP (sizeX x) (deepX x) ∧ checkX x = 0
  · rcases (show k % 4 = 0 ∨ k % 4 = 1 ∨ k % 4 = 2 ∨ k % 4 = 3 by omega) with hk | hk | hk | hk
    · exact spoilt_n B x k w cx hk hno.1 hno.2 hT hB hx zx Vx
    · exact spoilt_w B x k w cx hk hno.1 hno.2 hT hB hx zx Vx
    · exact spoilt_m B x k w cx hk hno.1 hno.2 hT hB hx zx Vx
    · exact spoilt_l B x k w cx hk hno.1 hno.2 hT hB hx zx Vx
  · exact spoilt_no B x k w cx hno hT hB hx zx Vx

end Go.Proofs.YtmpoheemnjpoeaaDoor
