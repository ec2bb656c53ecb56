/-
  THE CONTRACTS OF PACKAGE ast's MEASURING: side by side, within, summed.
-/
import Derived.WalkSpells
import Derived.WalkLawsBesides
import Derived.Test.YtonbgnaopkopoaaDoorProg
import Derived.Test.YtonbgnaopkopoaaDoorWordPk
namespace Go.Proofs.YtonbgnaopkopoaaDoor
open Go Go.RowKit
set_option linter.all false
set_option linter.unusedVariables false
set_option linter.unusedSimpArgs false
set_option linter.unusedVariables false
set_option linter.unusedSimpArgs false
attribute [local go_sem] run_store_one

/-- Measured: how many, how deep. -/
def meas (s d : Nat) : Value := .agg #[.int .i64 s, .int .i64 d]

set_option maxHeartbeats 400000 in
theorem beside_any (s d s' d' : Nat) (w : World) (hs : s ≤ 4000000000) (hs' : s' ≤ 4000000000) :
    Calls Tryd.prog 86 #[meas s d, meas s' d'] w fun e w' => e = .returned (meas (s + s') (max d d')) ∧ Ext w w' := by
  unfold meas
  go_enter Tryd.func86, Tryd.ntmps86
  go_wp2
  all_goals
    refine bodyPost_ret (v := meas (s + s') (max d d')) ?_ rfl ⟨rfl, ((Ext.new _ _).alloc _).alloc _⟩
    simp [results, Tryd.results86, go_sem, meas]
    omega
set_option maxHeartbeats 400000 in
theorem in_any (s d : Nat) (w : World) (hs : s ≤ 4000000000) (hd : d ≤ 4000000000) :
    Calls Tryd.prog 60 #[meas s d] w fun e w' => e = .returned (meas (1 + s) (1 + d)) ∧ Ext w w' := by
  unfold meas
  go_enter Tryd.func60, Tryd.ntmps60
  go_wp2
  exact bodyPost_ret (v := meas (1 + s) (1 + d)) (by simp [results, Tryd.results60, go_sem, meas]; omega) rfl ⟨rfl, (Ext.new _ _).alloc _⟩

set_option maxHeartbeats 1000000 in
theorem sumX_any (f : Nat) (hcall : Enters Tryd.prog f) (sz dp : X → Nat) (B : Nat) (l : List X) (hf : ∀ x, x ∈ l → ∀ (w : World) (cs : List Value), RX w B x cs → B ≤ w.heap.size →
      Calls Tryd.prog f #[.agg cs.toArray] w fun e w' => e = .returned (meas (sz x) (dp x)) ∧ Ext w w')
    (w : World) (v : Value) (hS : Sl (RX w B) w B 6 l v) (hB : B ≤ w.heap.size) (hsz : msize sz l ≤ 1000000000) (hpos : ∀ x, 1 ≤ sz x) :
    Calls Tryd.prog 59 #[v, .func (.func f) #[] #[]] w fun e w' => e = .returned (meas (msize sz l) (mdeep dp l)) ∧ Ext w w' := by
  obtain ⟨a, cap, rfl, hcap, hrow⟩ := hS
  have hln := length_le_msize sz l hpos
  have HF := hide hf
  have hcf := hcall.out
  clear hf hcall hpos
  go_enter Tryd.func59, Tryd.ntmps59
  go_wp2_with fail
  go_loopw [10] (fun i wr => ∃ k : Nat, k ≤ l.length ∧ i = .int .i64 k ∧ Ext w wr ∧ Blk wr w.heap.size 66 [.int .i64 0, .int .i64 0] ∧
    Blk wr (w.heap.size + 1) 66 [.int .i64 (msize sz (l.take k)), .int .i64 (mdeep dp (l.take k))]) (fun i _ => l.length - (intOf i).toNat)
  case atStart => exact ⟨0, Nat.zero_le _, rfl, (Ext.new _ _).alloc _, (Blk.new _ _ [_, _]).alloc _, by simpa [msize, mdeep] using Blk.new (w.alloc (.cells #[.int .i64 0, .int .i64 0] 66)) 66 [.int .i64 0, .int .i64 0]⟩
  case round =>
    obtain ⟨k, hk, rfl, hx, hb0, hb1⟩ := hrel
    have hz := hb1.lt
    by_cases hlt : k < l.length
    · have hsu := msize_take_succ sz l k hlt
      have hdu := mdeep_take_succ dp l k hlt
      have hle := msize_take_le sz l (k + 1)
      have hfk := HF.out l[k] (List.getElem_mem hlt)
      obtain ⟨b, o, v0, v1, v2, v3, v4, v5, rfl, hbB, hR, hC, o0, o1, o2, o3, o4, o5⟩ := hrow.open6 hlt
      obtain ⟨d0, d1, d2, d3, d4, d5⟩ := (hC.ext hx).get6
      generalize l[k] = y at *
      have HS := hide hsu
      have HD := hide hdu
      have HFK := hide hfk
      clear hC hrow hsu hdu hfk HF
      obtain ⟨m0, m1⟩ := hb1.get2
      go_wp2_with fail
      obtain ⟨W1, hW1, hx1, hbx⟩ := box6 wr v0 v1 v2 v3 v4 v5 25
      rw [← hW1]
      have hxw := hx.trans hx1
      have hb0' := hb0.ext hx1
      have hb1' := hb1.ext hx1
      obtain ⟨y0, y1, y2, y3, y4, y5⟩ := hbx.later6
      obtain ⟨n0, n1⟩ := hb1'.later2
      obtain ⟨p0, p1⟩ := hb1'.laterFree2
      have HR := hide (fun e : Later W1 => hR.ext (hxw.trans e.ext) hB)
      have HB := fun e : Later W1 => Nat.le_trans hB (hxw.trans e.ext).size
      clear d0 d1 d2 d3 d4 d5 m0 m1 hW1 hR hbx
      refine wp_region_later_last (W := W1) (by kernel_rfl) rfl (by kernel_rfl) (by kernel_rfl) (Ext.refl _) ?_
      dsimp only [List.dropLast]
      repeat (go_big_quiet_step (first
        | (go_at_call 86; refine Later.calls (beside_any _ _ _ _ _ ?_ ?_) <;> (have := HS.out; omega))
        | exact Later.calls (HFK.out _ _ (HR.out _) (HB _))))
      refine wpQuiet_nil ?_
      intro e
      unfold meas
      have hxe := hxw.trans e.ext
      have hbe := (hb1'.ext e.ext).store2 (.int .i64 (msize sz (l.take k) + sz y : Nat)) (.int .i64 (max (mdeep dp (l.take k)) (dp y) : Nat))
      have hbf := ((hb0'.ext e.ext).far (p := ⟨w.heap.size + 1, 0, none⟩) (by simp) (.int .i64 (msize sz (l.take k) + sz y : Nat))).far (p := ⟨w.heap.size + 1, 1, none⟩) (by simp) (.int .i64 (max (mdeep dp (l.take k)) (dp y) : Nat))
      go_wp2_with fail
      go_roundw
      case rel => exact ⟨k + 1, by omega, by go_num, (hxe.setCell (by simp) _).setCell (by simp) _, hbf, by rw [HS.out, HD.out]; exact hbe⟩
      case measure => simp [intOf]; omega
    · obtain ⟨m0, m1⟩ := hb1.get2
      obtain ⟨r0, r1⟩ := hb0.get2
      obtain ⟨g0, g1⟩ := hb0.free2
      have : k = l.length := by omega
      subst this
      rw [List.take_length] at *
      go_wp2_with fail
      have hb2 := (hb0.store2 (.int .i64 (msize sz l)) (.int .i64 (mdeep dp l)))
      refine bodyPost_ret (v := meas (msize sz l) (mdeep dp l)) ?_ rfl ⟨rfl, (hx.setCell (Nat.le_refl _) _).setCell (Nat.le_refl _) _⟩
      obtain ⟨q0, q1⟩ := hb2.get2
      simp [results, Tryd.results59, go_sem, q0, q1, meas]

end Go.Proofs.YtonbgnaopkopoaaDoor

/-
  THE CONTRACTS OF PACKAGE ast's MEASURING, tree by tree.
-/
namespace Go.Proofs.YtonbgnaopkopoaaDoor
open Go Go.RowKit
set_option linter.all false
set_option linter.unusedVariables false
set_option linter.unusedSimpArgs false
set_option linter.unusedVariables false
set_option linter.unusedSimpArgs false
attribute [local go_sem] run_store_one
theorem enters_ofX : Enters Tryd.prog 44 := ⟨fun _ _ => by kernel_rfl⟩
set_option maxHeartbeats 400000 in
theorem ofX_any (B : Nat) (x : X) : ∀ (w : World) (cs : List Value), RX w B x cs → B ≤ w.heap.size → sizeX x ≤ 1000000000 →
    Calls Tryd.prog 44 #[.agg cs.toArray] w fun e w' => e = .returned (meas (sizeX x) (deepX x)) ∧ Ext w w' := by
  induction x using X.ind with
  | h x ih =>
  intro w cs hR hB hsz
  obtain ⟨v, rfl, hS⟩ := RX_iff.1 hR
  have hs0 : 1 + msize sizeX x.l ≤ 1000000000 := by rw [← sizeX_eq]; exact hsz
  have hdl := deepXL_le x.l
  have hmem := hide (fun y (hy : y ∈ x.l) => msize_mem sizeX x.l y hy)
  rw [sizeX_eq, deepX_eq]
  have IH := hide ih
  have HS := hide hS
  have ho := hS.oneCell
  generalize x.op = op at *
  generalize x.name = nm at *
  generalize x.n = n at *
  generalize x.w = wd at *
  generalize x.v = xv at *
  generalize x.l = l at *
  clear hR hsz ih hS
  go_enter Tryd.func44, Tryd.ntmps44
  go_wp2_with fail
  obtain ⟨W1, hW1, hx1, hb1⟩ := box6 w (.int .i64 op) (.string nm) (.int .i64 n) (.int .i64 wd) (.int .u64 xv) v 25
  rw [← hW1]
  have hz1 := size_box hW1
  clear hW1
  obtain ⟨W2, hW2, hx2, hb2⟩ := box2 W1 (.int .i64 0) (.int .i64 0) 66
  rw [← hW2]
  have hz2 := size_box hW2
  clear hW2
  rw [hz1] at hb2 hz2
  have hx := hx1.trans hx2
  have hb1' := hb1.ext hx2
  have hB2 : B ≤ W2.heap.size := by omega
  refine (sumX_any _ enters_ofX sizeX deepX B l (fun y hy w cs h1 h2 => IH.out y hy w cs h1 h2 (by have := hmem.out y hy; omega)) _ v (HS.out.extRX hx hB) hB2 (by omega) sizeX_pos).mono ?_
  rintro e w1 ⟨rfl, hb4⟩
  go_wp2_with fail
  refine (in_any _ _ _ (by omega) (by omega)).mono ?_
  rintro e w2 ⟨rfl, hb5⟩
  unfold meas
  obtain ⟨s1, hs1⟩ : ∃ n, n = 1 + msize sizeX l := ⟨_, rfl⟩
  obtain ⟨d1, hd1⟩ : ∃ n, n = 1 + mdeep deepX l := ⟨_, rfl⟩
  rw [← hs1, ← hd1]
  have H1 := hide hs1
  have H2 := hide hd1
  clear hs1 hd1
  have hx9 := (hx.trans hb4).trans hb5
  have hb9 := (hb2.ext hb4).ext hb5
  have hbf := hb9.store2 (.int .i64 s1) (.int .i64 d1)
  obtain ⟨r0, r1⟩ := hb9.get2
  obtain ⟨g0, g1⟩ := hb9.free2
  go_wp2_with fail
  refine bodyPost_ret (v := meas s1 d1) ?_ rfl ⟨by rw [H1.out, H2.out], (hx9.setCell (by simp) _).setCell (by simp) _⟩
  obtain ⟨q0, q1⟩ := hbf.get2
  simp [results, Tryd.results44, go_sem, q0, q1, meas]

end Go.Proofs.YtonbgnaopkopoaaDoor
