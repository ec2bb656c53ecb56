/-
  THE CONTRACTS OF slices.EqualFunc, at each kind of list.
-/
import Derived.WalkSpells
import Derived.WalkLawsBesides
import Derived.Test.YtjoglnjpgkobeaaGreatDoorProg
import Derived.Test.YtjoglnjpgkobeaaGreatDoorS3
namespace Go.Proofs.YtjoglnjpgkobeaaGreatDoor
open Go Go.RowKit
set_option linter.all false
set_option linter.unusedVariables false
set_option linter.unusedSimpArgs false
set_option linter.unusedVariables false
set_option linter.unusedSimpArgs false
attribute [local go_sem] run_store_one
theorem text_ne {a b : ByteArray} (h : ¬ a = b) : (a.toList == b.toList) = false := by
  refine beq_eq_false_iff_ne.2 fun e => h ?_
  rw [ByteArray.toList_eq, ByteArray.toList_eq] at e
  cases a; cases b
  simp at e
  rw [e]
end Go.Proofs.YtjoglnjpgkobeaaGreatDoor

/-
  THE CONTRACTS OF PACKAGE ast's MEASURING: side by side, within, summed.
-/
namespace Go.Proofs.YtjoglnjpgkobeaaGreatDoor
open Go Go.RowKit
set_option linter.all false
set_option linter.unusedVariables false
set_option linter.unusedSimpArgs false
set_option linter.unusedVariables false
set_option linter.unusedSimpArgs false
attribute [local go_sem] run_store_one
/-- Measured: how many, how deep. -/
def meas (s d : Nat) : Value := .agg #[.int .i64 s, .int .i64 d]
set_option maxHeartbeats 400000 in
theorem beside_any (s d s' d' : Nat) (w : World) (hs : s ≤ 4000000000) (hs' : s' ≤ 4000000000) :
    Calls Tryz.prog 97 #[meas s d, meas s' d'] w fun e w' => e = .returned (meas (s + s') (max d d')) ∧ Ext w w' := by
  unfold meas
  go_enter Tryz.func97, Tryz.ntmps97
  go_wp2
  all_goals
    refine bodyPost_ret (v := meas (s + s') (max d d')) ?_ rfl ⟨rfl, ((Ext.new _ _).alloc _).alloc _⟩
    simp [results, Tryz.results97, go_sem, meas]
    omega
set_option maxHeartbeats 400000 in
theorem in_any (s d : Nat) (w : World) (hs : s ≤ 4000000000) (hd : d ≤ 4000000000) :
    Calls Tryz.prog 89 #[meas s d] w fun e w' => e = .returned (meas (1 + s) (1 + d)) ∧ Ext w w' := by
  unfold meas
  go_enter Tryz.func89, Tryz.ntmps89
  go_wp2
  exact bodyPost_ret (v := meas (1 + s) (1 + d)) (by simp [results, Tryz.results89, go_sem, meas]; omega) rfl ⟨rfl, (Ext.new _ _).alloc _⟩
set_option maxHeartbeats 1000000 in
theorem sumX_any (f : Nat) (hcall : Enters Tryz.prog f) (sz dp : X → Nat) (B : Nat) (l : List X) (hf : ∀ x, x ∈ l → ∀ (w : World) (cs : List Value), RX w B x cs → B ≤ w.heap.size →
      Calls Tryz.prog f #[.agg cs.toArray] w fun e w' => e = .returned (meas (sz x) (dp x)) ∧ Ext w w')
    (w : World) (v : Value) (hS : Sl (RX w B) w B 6 l v) (hB : B ≤ w.heap.size) (hsz : msize sz l ≤ 1000000000) (hpos : ∀ x, 1 ≤ sz x) :
    Calls Tryz.prog 88 #[v, .func (.func f) #[] #[]] w fun e w' => e = .returned (meas (msize sz l) (mdeep dp l)) ∧ Ext w w' := by
  obtain ⟨a, cap, rfl, hcap, hrow⟩ := hS
  have hln := length_le_msize sz l hpos
  have HF := hide hf
  have hcf := hcall.out
  clear hf hcall hpos
  go_enter Tryz.func88, Tryz.ntmps88
  go_wp2_with fail
  go_loopw [10] (fun i wr => ∃ k : Nat, k ≤ l.length ∧ i = .int .i64 k ∧ Ext w wr ∧ Blk wr w.heap.size 79 [.int .i64 0, .int .i64 0] ∧
    Blk wr (w.heap.size + 1) 79 [.int .i64 (msize sz (l.take k)), .int .i64 (mdeep dp (l.take k))]) (fun i _ => l.length - (intOf i).toNat)
  case atStart => exact ⟨0, Nat.zero_le _, rfl, (Ext.new _ _).alloc _, (Blk.new _ _ [_, _]).alloc _, by simpa [msize, mdeep] using Blk.new (w.alloc (.cells #[.int .i64 0, .int .i64 0] 79)) 79 [.int .i64 0, .int .i64 0]⟩
  case round =>
    obtain ⟨k, hk, rfl, hx, hb0, hb1⟩ := hrel
    have hz := hb1.lt
    by_cases hlt : k < l.length
    · have hsu := msize_take_succ sz l k hlt
      have hdu := mdeep_take_succ dp l k hlt
      have hle := msize_take_le sz l (k + 1)
      have hfk := HF.out l[k] (List.getElem_mem hlt)
      obtain ⟨b, o, v0, v1, v2, v3, v4, v5, rfl, hbB, hR, hC, o0, o1, o2, o3, o4, o5⟩ := hrow.open6 hlt
      obtain ⟨d0, d1, d2, d3, d4, d5⟩ := (hC.ext hx).get6
      generalize l[k] = y at *
      have HS := hide hsu
      have HD := hide hdu
      have HFK := hide hfk
      clear hC hrow hsu hdu hfk HF
      obtain ⟨m0, m1⟩ := hb1.get2
      go_wp2_with fail
      obtain ⟨W1, hW1, hx1, hbx⟩ := box6 wr v0 v1 v2 v3 v4 v5 49
      rw [← hW1]
      have hxw := hx.trans hx1
      have hb0' := hb0.ext hx1
      have hb1' := hb1.ext hx1
      obtain ⟨y0, y1, y2, y3, y4, y5⟩ := hbx.later6
      obtain ⟨n0, n1⟩ := hb1'.later2
      obtain ⟨p0, p1⟩ := hb1'.laterFree2
      have HR := hide (fun e : Later W1 => hR.ext (hxw.trans e.ext) hB)
      have HB := fun e : Later W1 => Nat.le_trans hB (hxw.trans e.ext).size
      clear d0 d1 d2 d3 d4 d5 m0 m1 hW1 hR hbx
      refine wp_region_later_last (W := W1) (by kernel_rfl) rfl (by kernel_rfl) (by kernel_rfl) (Ext.refl _) ?_
      dsimp only [List.dropLast]
      repeat (go_big_quiet_step (first
        | (go_at_call 97; refine Later.calls (beside_any _ _ _ _ _ ?_ ?_) <;> (have := HS.out; omega))
        | exact Later.calls (HFK.out _ _ (HR.out _) (HB _))))
      refine wpQuiet_nil ?_
      intro e
      unfold meas
      have hxe := hxw.trans e.ext
      have hbe := (hb1'.ext e.ext).store2 (.int .i64 (msize sz (l.take k) + sz y : Nat)) (.int .i64 (max (mdeep dp (l.take k)) (dp y) : Nat))
      have hbf := ((hb0'.ext e.ext).far (p := ⟨w.heap.size + 1, 0, none⟩) (by simp) (.int .i64 (msize sz (l.take k) + sz y : Nat))).far (p := ⟨w.heap.size + 1, 1, none⟩) (by simp) (.int .i64 (max (mdeep dp (l.take k)) (dp y) : Nat))
      go_wp2_with fail
      go_roundw
      case rel => exact ⟨k + 1, by omega, by go_num, (hxe.setCell (by simp) _).setCell (by simp) _, hbf, by rw [HS.out, HD.out]; exact hbe⟩
      case measure => simp [intOf]; omega
    · obtain ⟨m0, m1⟩ := hb1.get2
      obtain ⟨r0, r1⟩ := hb0.get2
      obtain ⟨g0, g1⟩ := hb0.free2
      have : k = l.length := by omega
      subst this
      rw [List.take_length] at *
      go_wp2_with fail
      have hb2 := (hb0.store2 (.int .i64 (msize sz l)) (.int .i64 (mdeep dp l)))
      refine bodyPost_ret (v := meas (msize sz l) (mdeep dp l)) ?_ rfl ⟨rfl, (hx.setCell (Nat.le_refl _) _).setCell (Nat.le_refl _) _⟩
      obtain ⟨q0, q1⟩ := hb2.get2
      simp [results, Tryz.results88, go_sem, q0, q1, meas]
set_option maxHeartbeats 1000000 in
theorem sumS_any (f : Nat) (hcall : Enters Tryz.prog f) (sz dp : S → Nat) (B : Nat) (l : List S) (hf : ∀ x, x ∈ l → ∀ (w : World) (cs : List Value), RS w B x cs → B ≤ w.heap.size →
      Calls Tryz.prog f #[.agg cs.toArray] w fun e w' => e = .returned (meas (sz x) (dp x)) ∧ Ext w w')
    (w : World) (v : Value) (hS : Sl (RS w B) w B 4 l v) (hB : B ≤ w.heap.size) (hsz : msize sz l ≤ 1000000000) (hpos : ∀ x, 1 ≤ sz x) :
    Calls Tryz.prog 122 #[v, .func (.func f) #[] #[]] w fun e w' => e = .returned (meas (msize sz l) (mdeep dp l)) ∧ Ext w w' := by
  obtain ⟨a, cap, rfl, hcap, hrow⟩ := hS
  have hln := length_le_msize sz l hpos
  have HF := hide hf
  have hcf := hcall.out
  clear hf hcall hpos
  go_enter Tryz.func122, Tryz.ntmps122
  go_wp2_with fail
  go_loopw [10] (fun i wr => ∃ k : Nat, k ≤ l.length ∧ i = .int .i64 k ∧ Ext w wr ∧ Blk wr w.heap.size 79 [.int .i64 0, .int .i64 0] ∧
    Blk wr (w.heap.size + 1) 79 [.int .i64 (msize sz (l.take k)), .int .i64 (mdeep dp (l.take k))]) (fun i _ => l.length - (intOf i).toNat)
  case atStart => exact ⟨0, Nat.zero_le _, rfl, (Ext.new _ _).alloc _, (Blk.new _ _ [_, _]).alloc _, by simpa [msize, mdeep] using Blk.new (w.alloc (.cells #[.int .i64 0, .int .i64 0] 79)) 79 [.int .i64 0, .int .i64 0]⟩
  case round =>
    obtain ⟨k, hk, rfl, hx, hb0, hb1⟩ := hrel
    have hz := hb1.lt
    by_cases hlt : k < l.length
    · have hsu := msize_take_succ sz l k hlt
      have hdu := mdeep_take_succ dp l k hlt
      have hle := msize_take_le sz l (k + 1)
      have hfk := HF.out l[k] (List.getElem_mem hlt)
      obtain ⟨b, o, v0, v1, v2, v3, rfl, hbB, hR, hC, o0, o1, o2, o3⟩ := hrow.open4 hlt
      obtain ⟨d0, d1, d2, d3⟩ := (hC.ext hx).get4
      generalize l[k] = y at *
      have HS := hide hsu
      have HD := hide hdu
      have HFK := hide hfk
      clear hC hrow hsu hdu hfk HF
      obtain ⟨m0, m1⟩ := hb1.get2
      go_wp2_with fail
      obtain ⟨W1, hW1, hx1, hbx⟩ := box4 wr v0 v1 v2 v3 140
      rw [← hW1]
      have hxw := hx.trans hx1
      have hb0' := hb0.ext hx1
      have hb1' := hb1.ext hx1
      obtain ⟨y0, y1, y2, y3⟩ := hbx.later4
      obtain ⟨n0, n1⟩ := hb1'.later2
      obtain ⟨p0, p1⟩ := hb1'.laterFree2
      have HR := hide (fun e : Later W1 => hR.ext (hxw.trans e.ext) hB)
      have HB := fun e : Later W1 => Nat.le_trans hB (hxw.trans e.ext).size
      clear d0 d1 d2 d3 m0 m1 hW1 hR hbx
      refine wp_region_later_last (W := W1) (by kernel_rfl) rfl (by kernel_rfl) (by kernel_rfl) (Ext.refl _) ?_
      dsimp only [List.dropLast]
      repeat (go_big_quiet_step (first
        | (go_at_call 97; refine Later.calls (beside_any _ _ _ _ _ ?_ ?_) <;> (have := HS.out; omega))
        | exact Later.calls (HFK.out _ _ (HR.out _) (HB _))))
      refine wpQuiet_nil ?_
      intro e
      unfold meas
      have hxe := hxw.trans e.ext
      have hbe := (hb1'.ext e.ext).store2 (.int .i64 (msize sz (l.take k) + sz y : Nat)) (.int .i64 (max (mdeep dp (l.take k)) (dp y) : Nat))
      have hbf := ((hb0'.ext e.ext).far (p := ⟨w.heap.size + 1, 0, none⟩) (by simp) (.int .i64 (msize sz (l.take k) + sz y : Nat))).far (p := ⟨w.heap.size + 1, 1, none⟩) (by simp) (.int .i64 (max (mdeep dp (l.take k)) (dp y) : Nat))
      go_wp2_with fail
      go_roundw
      case rel => exact ⟨k + 1, by omega, by go_num, (hxe.setCell (by simp) _).setCell (by simp) _, hbf, by rw [HS.out, HD.out]; exact hbe⟩
      case measure => simp [intOf]; omega
    · obtain ⟨m0, m1⟩ := hb1.get2
      obtain ⟨r0, r1⟩ := hb0.get2
      obtain ⟨g0, g1⟩ := hb0.free2
      have : k = l.length := by omega
      subst this
      rw [List.take_length] at *
      go_wp2_with fail
      have hb2 := (hb0.store2 (.int .i64 (msize sz l)) (.int .i64 (mdeep dp l)))
      refine bodyPost_ret (v := meas (msize sz l) (mdeep dp l)) ?_ rfl ⟨rfl, (hx.setCell (Nat.le_refl _) _).setCell (Nat.le_refl _) _⟩
      obtain ⟨q0, q1⟩ := hb2.get2
      simp [results, Tryz.results122, go_sem, q0, q1, meas]
set_option maxHeartbeats 1000000 in
theorem sumBnd_any (f : Nat) (hcall : Enters Tryz.prog f) (sz dp : Bnd → Nat) (B : Nat) (l : List Bnd) (hf : ∀ x, x ∈ l → ∀ (w : World) (cs : List Value), RB w B x cs → B ≤ w.heap.size →
      Calls Tryz.prog f #[.agg cs.toArray] w fun e w' => e = .returned (meas (sz x) (dp x)) ∧ Ext w w')
    (w : World) (v : Value) (hS : Sl (RB w B) w B 7 l v) (hB : B ≤ w.heap.size) (hsz : msize sz l ≤ 1000000000) (hpos : ∀ x, 1 ≤ sz x) :
    Calls Tryz.prog 98 #[v, .func (.func f) #[] #[]] w fun e w' => e = .returned (meas (msize sz l) (mdeep dp l)) ∧ Ext w w' := by
  obtain ⟨a, cap, rfl, hcap, hrow⟩ := hS
  have hln := length_le_msize sz l hpos
  have HF := hide hf
  have hcf := hcall.out
  clear hf hcall hpos
  go_enter Tryz.func98, Tryz.ntmps98
  go_wp2_with fail
  go_loopw [10] (fun i wr => ∃ k : Nat, k ≤ l.length ∧ i = .int .i64 k ∧ Ext w wr ∧ Blk wr w.heap.size 79 [.int .i64 0, .int .i64 0] ∧
    Blk wr (w.heap.size + 1) 79 [.int .i64 (msize sz (l.take k)), .int .i64 (mdeep dp (l.take k))]) (fun i _ => l.length - (intOf i).toNat)
  case atStart => exact ⟨0, Nat.zero_le _, rfl, (Ext.new _ _).alloc _, (Blk.new _ _ [_, _]).alloc _, by simpa [msize, mdeep] using Blk.new (w.alloc (.cells #[.int .i64 0, .int .i64 0] 79)) 79 [.int .i64 0, .int .i64 0]⟩
  case round =>
    obtain ⟨k, hk, rfl, hx, hb0, hb1⟩ := hrel
    have hz := hb1.lt
    by_cases hlt : k < l.length
    · have hsu := msize_take_succ sz l k hlt
      have hdu := mdeep_take_succ dp l k hlt
      have hle := msize_take_le sz l (k + 1)
      have hfk := HF.out l[k] (List.getElem_mem hlt)
      obtain ⟨b, o, v0, v1, v2, v3, v4, v5, v6, rfl, hbB, hR, hC, o0, o1, o2, o3, o4, o5, o6⟩ := hrow.open7 hlt
      obtain ⟨d0, d1, d2, d3, d4, d5, d6⟩ := (hC.ext hx).get7
      generalize l[k] = y at *
      have HS := hide hsu
      have HD := hide hdu
      have HFK := hide hfk
      clear hC hrow hsu hdu hfk HF
      obtain ⟨m0, m1⟩ := hb1.get2
      go_wp2_with fail
      obtain ⟨W1, hW1, hx1, hbx⟩ := box7 wr v0 v1 v2 v3 v4 v5 v6 85
      rw [← hW1]
      have hxw := hx.trans hx1
      have hb0' := hb0.ext hx1
      have hb1' := hb1.ext hx1
      obtain ⟨y0, y1, y2, y3, y4, y5, y6⟩ := hbx.later7
      obtain ⟨n0, n1⟩ := hb1'.later2
      obtain ⟨p0, p1⟩ := hb1'.laterFree2
      have HR := hide (fun e : Later W1 => hR.ext (hxw.trans e.ext) hB)
      have HB := fun e : Later W1 => Nat.le_trans hB (hxw.trans e.ext).size
      clear d0 d1 d2 d3 d4 d5 d6 m0 m1 hW1 hR hbx
      refine wp_region_later_last (W := W1) (by kernel_rfl) rfl (by kernel_rfl) (by kernel_rfl) (Ext.refl _) ?_
      dsimp only [List.dropLast]
      repeat (go_big_quiet_step (first
        | (go_at_call 97; refine Later.calls (beside_any _ _ _ _ _ ?_ ?_) <;> (have := HS.out; omega))
        | exact Later.calls (HFK.out _ _ (HR.out _) (HB _))))
      refine wpQuiet_nil ?_
      intro e
      unfold meas
      have hxe := hxw.trans e.ext
      have hbe := (hb1'.ext e.ext).store2 (.int .i64 (msize sz (l.take k) + sz y : Nat)) (.int .i64 (max (mdeep dp (l.take k)) (dp y) : Nat))
      have hbf := ((hb0'.ext e.ext).far (p := ⟨w.heap.size + 1, 0, none⟩) (by simp) (.int .i64 (msize sz (l.take k) + sz y : Nat))).far (p := ⟨w.heap.size + 1, 1, none⟩) (by simp) (.int .i64 (max (mdeep dp (l.take k)) (dp y) : Nat))
      go_wp2_with fail
      go_roundw
      case rel => exact ⟨k + 1, by omega, by go_num, (hxe.setCell (by simp) _).setCell (by simp) _, hbf, by rw [HS.out, HD.out]; exact hbe⟩
      case measure => simp [intOf]; omega
    · obtain ⟨m0, m1⟩ := hb1.get2
      obtain ⟨r0, r1⟩ := hb0.get2
      obtain ⟨g0, g1⟩ := hb0.free2
      have : k = l.length := by omega
      subst this
      rw [List.take_length] at *
      go_wp2_with fail
      have hb2 := (hb0.store2 (.int .i64 (msize sz l)) (.int .i64 (mdeep dp l)))
      refine bodyPost_ret (v := meas (msize sz l) (mdeep dp l)) ?_ rfl ⟨rfl, (hx.setCell (Nat.le_refl _) _).setCell (Nat.le_refl _) _⟩
      obtain ⟨q0, q1⟩ := hb2.get2
      simp [results, Tryz.results98, go_sem, q0, q1, meas]
set_option maxHeartbeats 1000000 in
theorem sumPrt_any (f : Nat) (hcall : Enters Tryz.prog f) (sz dp : Prt → Nat) (B : Nat) (l : List Prt) (hf : ∀ x, x ∈ l → ∀ (w : World) (cs : List Value), RP w B x cs → B ≤ w.heap.size →
      Calls Tryz.prog f #[.agg cs.toArray] w fun e w' => e = .returned (meas (sz x) (dp x)) ∧ Ext w w')
    (w : World) (v : Value) (hS : Sl (RP w B) w B 8 l v) (hB : B ≤ w.heap.size) (hsz : msize sz l ≤ 1000000000) (hpos : ∀ x, 1 ≤ sz x) :
    Calls Tryz.prog 100 #[v, .func (.func f) #[] #[]] w fun e w' => e = .returned (meas (msize sz l) (mdeep dp l)) ∧ Ext w w' := by
  obtain ⟨a, cap, rfl, hcap, hrow⟩ := hS
  have hln := length_le_msize sz l hpos
  have HF := hide hf
  have hcf := hcall.out
  clear hf hcall hpos
  go_enter Tryz.func100, Tryz.ntmps100
  go_wp2_with fail
  go_loopw [10] (fun i wr => ∃ k : Nat, k ≤ l.length ∧ i = .int .i64 k ∧ Ext w wr ∧ Blk wr w.heap.size 79 [.int .i64 0, .int .i64 0] ∧
    Blk wr (w.heap.size + 1) 79 [.int .i64 (msize sz (l.take k)), .int .i64 (mdeep dp (l.take k))]) (fun i _ => l.length - (intOf i).toNat)
  case atStart => exact ⟨0, Nat.zero_le _, rfl, (Ext.new _ _).alloc _, (Blk.new _ _ [_, _]).alloc _, by simpa [msize, mdeep] using Blk.new (w.alloc (.cells #[.int .i64 0, .int .i64 0] 79)) 79 [.int .i64 0, .int .i64 0]⟩
  case round =>
    obtain ⟨k, hk, rfl, hx, hb0, hb1⟩ := hrel
    have hz := hb1.lt
    by_cases hlt : k < l.length
    · have hsu := msize_take_succ sz l k hlt
      have hdu := mdeep_take_succ dp l k hlt
      have hle := msize_take_le sz l (k + 1)
      have hfk := HF.out l[k] (List.getElem_mem hlt)
      obtain ⟨b, o, v0, v1, v2, v3, v4, v5, v6, v7, rfl, hbB, hR, hC, o0, o1, o2, o3, o4, o5, o6, o7⟩ := hrow.open8 hlt
      obtain ⟨d0, d1, d2, d3, d4, d5, d6, d7⟩ := (hC.ext hx).get8
      generalize l[k] = y at *
      have HS := hide hsu
      have HD := hide hdu
      have HFK := hide hfk
      clear hC hrow hsu hdu hfk HF
      obtain ⟨m0, m1⟩ := hb1.get2
      go_wp2_with fail
      obtain ⟨W1, hW1, hx1, hbx⟩ := box8 wr v0 v1 v2 v3 v4 v5 v6 v7 83
      rw [← hW1]
      have hxw := hx.trans hx1
      have hb0' := hb0.ext hx1
      have hb1' := hb1.ext hx1
      obtain ⟨y0, y1, y2, y3, y4, y5, y6, y7⟩ := hbx.later8
      obtain ⟨n0, n1⟩ := hb1'.later2
      obtain ⟨p0, p1⟩ := hb1'.laterFree2
      have HR := hide (fun e : Later W1 => hR.ext (hxw.trans e.ext) hB)
      have HB := fun e : Later W1 => Nat.le_trans hB (hxw.trans e.ext).size
      clear d0 d1 d2 d3 d4 d5 d6 d7 m0 m1 hW1 hR hbx
      refine wp_region_later_last (W := W1) (by kernel_rfl) rfl (by kernel_rfl) (by kernel_rfl) (Ext.refl _) ?_
      dsimp only [List.dropLast]
      repeat (go_big_quiet_step (first
        | (go_at_call 97; refine Later.calls (beside_any _ _ _ _ _ ?_ ?_) <;> (have := HS.out; omega))
        | exact Later.calls (HFK.out _ _ (HR.out _) (HB _))))
      refine wpQuiet_nil ?_
      intro e
      unfold meas
      have hxe := hxw.trans e.ext
      have hbe := (hb1'.ext e.ext).store2 (.int .i64 (msize sz (l.take k) + sz y : Nat)) (.int .i64 (max (mdeep dp (l.take k)) (dp y) : Nat))
      have hbf := ((hb0'.ext e.ext).far (p := ⟨w.heap.size + 1, 0, none⟩) (by simp) (.int .i64 (msize sz (l.take k) + sz y : Nat))).far (p := ⟨w.heap.size + 1, 1, none⟩) (by simp) (.int .i64 (max (mdeep dp (l.take k)) (dp y) : Nat))
      go_wp2_with fail
      go_roundw
      case rel => exact ⟨k + 1, by omega, by go_num, (hxe.setCell (by simp) _).setCell (by simp) _, hbf, by rw [HS.out, HD.out]; exact hbe⟩
      case measure => simp [intOf]; omega
    · obtain ⟨m0, m1⟩ := hb1.get2
      obtain ⟨r0, r1⟩ := hb0.get2
      obtain ⟨g0, g1⟩ := hb0.free2
      have : k = l.length := by omega
      subst this
      rw [List.take_length] at *
      go_wp2_with fail
      have hb2 := (hb0.store2 (.int .i64 (msize sz l)) (.int .i64 (mdeep dp l)))
      refine bodyPost_ret (v := meas (msize sz l) (mdeep dp l)) ?_ rfl ⟨rfl, (hx.setCell (Nat.le_refl _) _).setCell (Nat.le_refl _) _⟩
      obtain ⟨q0, q1⟩ := hb2.get2
      simp [results, Tryz.results100, go_sem, q0, q1, meas]
set_option maxHeartbeats 1000000 in
theorem sumItm_any (f : Nat) (hcall : Enters Tryz.prog f) (sz dp : Itm → Nat) (B : Nat) (l : List Itm) (hf : ∀ x, x ∈ l → ∀ (w : World) (cs : List Value), RI w B x cs → B ≤ w.heap.size →
      Calls Tryz.prog f #[.agg cs.toArray] w fun e w' => e = .returned (meas (sz x) (dp x)) ∧ Ext w w')
    (w : World) (v : Value) (hS : Sl (RI w B) w B 9 l v) (hB : B ≤ w.heap.size) (hsz : msize sz l ≤ 1000000000) (hpos : ∀ x, 1 ≤ sz x) :
    Calls Tryz.prog 102 #[v, .func (.func f) #[] #[]] w fun e w' => e = .returned (meas (msize sz l) (mdeep dp l)) ∧ Ext w w' := by
  obtain ⟨a, cap, rfl, hcap, hrow⟩ := hS
  have hln := length_le_msize sz l hpos
  have HF := hide hf
  have hcf := hcall.out
  clear hf hcall hpos
  go_enter Tryz.func102, Tryz.ntmps102
  go_wp2_with fail
  go_loopw [10] (fun i wr => ∃ k : Nat, k ≤ l.length ∧ i = .int .i64 k ∧ Ext w wr ∧ Blk wr w.heap.size 79 [.int .i64 0, .int .i64 0] ∧
    Blk wr (w.heap.size + 1) 79 [.int .i64 (msize sz (l.take k)), .int .i64 (mdeep dp (l.take k))]) (fun i _ => l.length - (intOf i).toNat)
  case atStart => exact ⟨0, Nat.zero_le _, rfl, (Ext.new _ _).alloc _, (Blk.new _ _ [_, _]).alloc _, by simpa [msize, mdeep] using Blk.new (w.alloc (.cells #[.int .i64 0, .int .i64 0] 79)) 79 [.int .i64 0, .int .i64 0]⟩
  case round =>
    obtain ⟨k, hk, rfl, hx, hb0, hb1⟩ := hrel
    have hz := hb1.lt
    by_cases hlt : k < l.length
    · have hsu := msize_take_succ sz l k hlt
      have hdu := mdeep_take_succ dp l k hlt
      have hle := msize_take_le sz l (k + 1)
      have hfk := HF.out l[k] (List.getElem_mem hlt)
      obtain ⟨b, o, v0, v1, v2, v3, v4, v5, v6, v7, v8, rfl, hbB, hR, hC, o0, o1, o2, o3, o4, o5, o6, o7, o8⟩ := hrow.open9 hlt
      obtain ⟨d0, d1, d2, d3, d4, d5, d6, d7, d8⟩ := (hC.ext hx).get9
      generalize l[k] = y at *
      have HS := hide hsu
      have HD := hide hdu
      have HFK := hide hfk
      clear hC hrow hsu hdu hfk HF
      obtain ⟨m0, m1⟩ := hb1.get2
      go_wp2_with fail
      obtain ⟨W1, hW1, hx1, hbx⟩ := box9 wr v0 v1 v2 v3 v4 v5 v6 v7 v8 53
      rw [← hW1]
      have hxw := hx.trans hx1
      have hb0' := hb0.ext hx1
      have hb1' := hb1.ext hx1
      obtain ⟨y0, y1, y2, y3, y4, y5, y6, y7, y8⟩ := hbx.later9
      obtain ⟨n0, n1⟩ := hb1'.later2
      obtain ⟨p0, p1⟩ := hb1'.laterFree2
      have HR := hide (fun e : Later W1 => hR.ext (hxw.trans e.ext) hB)
      have HB := fun e : Later W1 => Nat.le_trans hB (hxw.trans e.ext).size
      clear d0 d1 d2 d3 d4 d5 d6 d7 d8 m0 m1 hW1 hR hbx
      refine wp_region_later_last (W := W1) (by kernel_rfl) rfl (by kernel_rfl) (by kernel_rfl) (Ext.refl _) ?_
      dsimp only [List.dropLast]
      repeat (go_big_quiet_step (first
        | (go_at_call 97; refine Later.calls (beside_any _ _ _ _ _ ?_ ?_) <;> (have := HS.out; omega))
        | exact Later.calls (HFK.out _ _ (HR.out _) (HB _))))
      refine wpQuiet_nil ?_
      intro e
      unfold meas
      have hxe := hxw.trans e.ext
      have hbe := (hb1'.ext e.ext).store2 (.int .i64 (msize sz (l.take k) + sz y : Nat)) (.int .i64 (max (mdeep dp (l.take k)) (dp y) : Nat))
      have hbf := ((hb0'.ext e.ext).far (p := ⟨w.heap.size + 1, 0, none⟩) (by simp) (.int .i64 (msize sz (l.take k) + sz y : Nat))).far (p := ⟨w.heap.size + 1, 1, none⟩) (by simp) (.int .i64 (max (mdeep dp (l.take k)) (dp y) : Nat))
      go_wp2_with fail
      go_roundw
      case rel => exact ⟨k + 1, by omega, by go_num, (hxe.setCell (by simp) _).setCell (by simp) _, hbf, by rw [HS.out, HD.out]; exact hbe⟩
      case measure => simp [intOf]; omega
    · obtain ⟨m0, m1⟩ := hb1.get2
      obtain ⟨r0, r1⟩ := hb0.get2
      obtain ⟨g0, g1⟩ := hb0.free2
      have : k = l.length := by omega
      subst this
      rw [List.take_length] at *
      go_wp2_with fail
      have hb2 := (hb0.store2 (.int .i64 (msize sz l)) (.int .i64 (mdeep dp l)))
      refine bodyPost_ret (v := meas (msize sz l) (mdeep dp l)) ?_ rfl ⟨rfl, (hx.setCell (Nat.le_refl _) _).setCell (Nat.le_refl _) _⟩
      obtain ⟨q0, q1⟩ := hb2.get2
      simp [results, Tryz.results102, go_sem, q0, q1, meas]
set_option maxHeartbeats 1000000 in
theorem sumMdl_any (f : Nat) (hcall : Enters Tryz.prog f) (sz dp : Mdl → Nat) (B : Nat) (l : List Mdl) (hf : ∀ x, x ∈ l → ∀ (w : World) (cs : List Value), RM w B x cs → B ≤ w.heap.size →
      Calls Tryz.prog f #[.agg cs.toArray] w fun e w' => e = .returned (meas (sz x) (dp x)) ∧ Ext w w')
    (w : World) (v : Value) (hS : Sl (RM w B) w B 4 l v) (hB : B ≤ w.heap.size) (hsz : msize sz l ≤ 1000000000) (hpos : ∀ x, 1 ≤ sz x) :
    Calls Tryz.prog 65 #[v, .func (.func f) #[] #[]] w fun e w' => e = .returned (meas (msize sz l) (mdeep dp l)) ∧ Ext w w' := by
  obtain ⟨a, cap, rfl, hcap, hrow⟩ := hS
  have hln := length_le_msize sz l hpos
  have HF := hide hf
  have hcf := hcall.out
  clear hf hcall hpos
  go_enter Tryz.func65, Tryz.ntmps65
  go_wp2_with fail
  go_loopw [10] (fun i wr => ∃ k : Nat, k ≤ l.length ∧ i = .int .i64 k ∧ Ext w wr ∧ Blk wr w.heap.size 79 [.int .i64 0, .int .i64 0] ∧
    Blk wr (w.heap.size + 1) 79 [.int .i64 (msize sz (l.take k)), .int .i64 (mdeep dp (l.take k))]) (fun i _ => l.length - (intOf i).toNat)
  case atStart => exact ⟨0, Nat.zero_le _, rfl, (Ext.new _ _).alloc _, (Blk.new _ _ [_, _]).alloc _, by simpa [msize, mdeep] using Blk.new (w.alloc (.cells #[.int .i64 0, .int .i64 0] 79)) 79 [.int .i64 0, .int .i64 0]⟩
  case round =>
    obtain ⟨k, hk, rfl, hx, hb0, hb1⟩ := hrel
    have hz := hb1.lt
    by_cases hlt : k < l.length
    · have hsu := msize_take_succ sz l k hlt
      have hdu := mdeep_take_succ dp l k hlt
      have hle := msize_take_le sz l (k + 1)
      have hfk := HF.out l[k] (List.getElem_mem hlt)
      obtain ⟨b, o, v0, v1, v2, v3, rfl, hbB, hR, hC, o0, o1, o2, o3⟩ := hrow.open4 hlt
      obtain ⟨d0, d1, d2, d3⟩ := (hC.ext hx).get4
      generalize l[k] = y at *
      have HS := hide hsu
      have HD := hide hdu
      have HFK := hide hfk
      clear hC hrow hsu hdu hfk HF
      obtain ⟨m0, m1⟩ := hb1.get2
      go_wp2_with fail
      obtain ⟨W1, hW1, hx1, hbx⟩ := box4 wr v0 v1 v2 v3 33
      rw [← hW1]
      have hxw := hx.trans hx1
      have hb0' := hb0.ext hx1
      have hb1' := hb1.ext hx1
      obtain ⟨y0, y1, y2, y3⟩ := hbx.later4
      obtain ⟨n0, n1⟩ := hb1'.later2
      obtain ⟨p0, p1⟩ := hb1'.laterFree2
      have HR := hide (fun e : Later W1 => hR.ext (hxw.trans e.ext) hB)
      have HB := fun e : Later W1 => Nat.le_trans hB (hxw.trans e.ext).size
      clear d0 d1 d2 d3 m0 m1 hW1 hR hbx
      refine wp_region_later_last (W := W1) (by kernel_rfl) rfl (by kernel_rfl) (by kernel_rfl) (Ext.refl _) ?_
      dsimp only [List.dropLast]
      repeat (go_big_quiet_step (first
        | (go_at_call 97; refine Later.calls (beside_any _ _ _ _ _ ?_ ?_) <;> (have := HS.out; omega))
        | exact Later.calls (HFK.out _ _ (HR.out _) (HB _))))
      refine wpQuiet_nil ?_
      intro e
      unfold meas
      have hxe := hxw.trans e.ext
      have hbe := (hb1'.ext e.ext).store2 (.int .i64 (msize sz (l.take k) + sz y : Nat)) (.int .i64 (max (mdeep dp (l.take k)) (dp y) : Nat))
      have hbf := ((hb0'.ext e.ext).far (p := ⟨w.heap.size + 1, 0, none⟩) (by simp) (.int .i64 (msize sz (l.take k) + sz y : Nat))).far (p := ⟨w.heap.size + 1, 1, none⟩) (by simp) (.int .i64 (max (mdeep dp (l.take k)) (dp y) : Nat))
      go_wp2_with fail
      go_roundw
      case rel => exact ⟨k + 1, by omega, by go_num, (hxe.setCell (by simp) _).setCell (by simp) _, hbf, by rw [HS.out, HD.out]; exact hbe⟩
      case measure => simp [intOf]; omega
    · obtain ⟨m0, m1⟩ := hb1.get2
      obtain ⟨r0, r1⟩ := hb0.get2
      obtain ⟨g0, g1⟩ := hb0.free2
      have : k = l.length := by omega
      subst this
      rw [List.take_length] at *
      go_wp2_with fail
      have hb2 := (hb0.store2 (.int .i64 (msize sz l)) (.int .i64 (mdeep dp l)))
      refine bodyPost_ret (v := meas (msize sz l) (mdeep dp l)) ?_ rfl ⟨rfl, (hx.setCell (Nat.le_refl _) _).setCell (Nat.le_refl _) _⟩
      obtain ⟨q0, q1⟩ := hb2.get2
      simp [results, Tryz.results65, go_sem, q0, q1, meas]
end Go.Proofs.YtjoglnjpgkobeaaGreatDoor

/-
  THE CONTRACTS OF PACKAGE ast's MEASURING, tree by tree.
-/
namespace Go.Proofs.YtjoglnjpgkobeaaGreatDoor
open Go Go.RowKit
set_option linter.all false
set_option linter.unusedVariables false
set_option linter.unusedSimpArgs false
set_option linter.unusedVariables false
set_option linter.unusedSimpArgs false
attribute [local go_sem] run_store_one
theorem enters_ofX : Enters Tryz.prog 55 := ⟨fun _ _ => by kernel_rfl⟩
theorem enters_ofS : Enters Tryz.prog 123 := ⟨fun _ _ => by kernel_rfl⟩
theorem enters_ofB : Enters Tryz.prog 99 := ⟨fun _ _ => by kernel_rfl⟩
theorem enters_ofP : Enters Tryz.prog 101 := ⟨fun _ _ => by kernel_rfl⟩
theorem enters_ofI : Enters Tryz.prog 103 := ⟨fun _ _ => by kernel_rfl⟩
theorem enters_ofM : Enters Tryz.prog 66 := ⟨fun _ _ => by kernel_rfl⟩
set_option maxHeartbeats 400000 in
theorem ofX_any (B : Nat) (x : X) : ∀ (w : World) (cs : List Value), RX w B x cs → B ≤ w.heap.size → sizeX x ≤ 1000000000 →
    Calls Tryz.prog 55 #[.agg cs.toArray] w fun e w' => e = .returned (meas (sizeX x) (deepX x)) ∧ Ext w w' := by
  induction x using X.ind with
  | h x ih =>
  intro w cs hR hB hsz
  obtain ⟨v, rfl, hS⟩ := RX_iff.1 hR
  have hs0 : 1 + msize sizeX x.l ≤ 1000000000 := by rw [← sizeX_eq]; exact hsz
  have hdl := deepXL_le x.l
  have hmem := hide (fun y (hy : y ∈ x.l) => msize_mem sizeX x.l y hy)
  rw [sizeX_eq, deepX_eq]
  have IH := hide ih
  have HS := hide hS
  have ho := hS.oneCell
  generalize x.op = op at *
  generalize x.name = nm at *
  generalize x.n = n at *
  generalize x.w = wd at *
  generalize x.v = xv at *
  generalize x.l = l at *
  clear hR hsz ih hS
  go_enter Tryz.func55, Tryz.ntmps55
  go_wp2_with fail
  obtain ⟨W1, hW1, hx1, hb1⟩ := box6 w (.int .i64 op) (.string nm) (.int .i64 n) (.int .i64 wd) (.int .u64 xv) v 49
  rw [← hW1]
  have hz1 := size_box hW1
  clear hW1
  obtain ⟨W2, hW2, hx2, hb2⟩ := box2 W1 (.int .i64 0) (.int .i64 0) 79
  rw [← hW2]
  have hz2 := size_box hW2
  clear hW2
  rw [hz1] at hb2 hz2
  have hx := hx1.trans hx2
  have hb1' := hb1.ext hx2
  have hB2 : B ≤ W2.heap.size := by omega
  refine (sumX_any _ enters_ofX sizeX deepX B l (fun y hy w cs h1 h2 => IH.out y hy w cs h1 h2 (by have := hmem.out y hy; omega)) _ v (HS.out.extRX hx hB) hB2 (by omega) sizeX_pos).mono ?_
  rintro e w1 ⟨rfl, hb4⟩
  go_wp2_with fail
  refine (in_any _ _ _ (by omega) (by omega)).mono ?_
  rintro e w2 ⟨rfl, hb5⟩
  unfold meas
  obtain ⟨s1, hs1⟩ : ∃ n, n = 1 + msize sizeX l := ⟨_, rfl⟩
  obtain ⟨d1, hd1⟩ : ∃ n, n = 1 + mdeep deepX l := ⟨_, rfl⟩
  rw [← hs1, ← hd1]
  have H1 := hide hs1
  have H2 := hide hd1
  clear hs1 hd1
  have hx9 := (hx.trans hb4).trans hb5
  have hb9 := (hb2.ext hb4).ext hb5
  have hbf := hb9.store2 (.int .i64 s1) (.int .i64 d1)
  obtain ⟨r0, r1⟩ := hb9.get2
  obtain ⟨g0, g1⟩ := hb9.free2
  go_wp2_with fail
  refine bodyPost_ret (v := meas s1 d1) ?_ rfl ⟨by rw [H1.out, H2.out], (hx9.setCell (by simp) _).setCell (by simp) _⟩
  obtain ⟨q0, q1⟩ := hbf.get2
  simp [results, Tryz.results55, go_sem, q0, q1, meas]
set_option maxHeartbeats 400000 in
theorem ofB_any (B : Nat) (x : Bnd) (w : World) (cs : List Value) (hR : RB w B x cs) (hB : B ≤ w.heap.size) (hsz : sizeB x ≤ 1000000000) :
    Calls Tryz.prog 99 #[.agg cs.toArray] w fun e w' => e = .returned (meas (sizeB x) (deepB x)) ∧ Ext w w' := by
  have hs0 : 1 + sizeX x.x ≤ 1000000000 := hsz
  have hdl := deepX_le x.x
  obtain ⟨cs, rfl, hX⟩ := hR
  obtain ⟨v, rfl, hS⟩ := RX_iff.1 hX
  have ho := hS.oneCell
  unfold sizeB deepB
  have HX := hide hX
  generalize x.name = nm at *
  generalize x.x = y at *
  clear hX hS hsz
  go_enter Tryz.func99, Tryz.ntmps99
  go_wp2_with fail
  obtain ⟨W1, hW1, hx1, hb1⟩ := box7 w (.string nm) (.int .i64 y.op) (.string y.name) (.int .i64 y.n) (.int .i64 y.w) (.int .u64 y.v) v 85
  rw [← hW1]
  have hz1 := size_box hW1
  clear hW1
  obtain ⟨W2, hW2, hx2, hb2⟩ := box2 W1 (.int .i64 0) (.int .i64 0) 79
  rw [← hW2]
  have hz2 := size_box hW2
  clear hW2
  rw [hz1] at hb2 hz2
  have hx := hx1.trans hx2
  have hb1' := hb1.ext hx2
  have hB2 : B ≤ W2.heap.size := by omega
  obtain ⟨c0, c1, c2, c3, c4, c5, c6⟩ := hb1'.get7
  go_wp2_with fail
  refine (ofX_any B y _ _ (HX.out.ext hx hB) hB2 (by omega)).mono ?_
  rintro e w1 ⟨rfl, hb4⟩
  go_wp2_with fail
  refine (in_any _ _ _ (by omega) (by omega)).mono ?_
  rintro e w2 ⟨rfl, hb5⟩
  unfold meas
  obtain ⟨s1, hs1⟩ : ∃ n, n = 1 + sizeX y := ⟨_, rfl⟩
  obtain ⟨d1, hd1⟩ : ∃ n, n = 1 + deepX y := ⟨_, rfl⟩
  rw [← hs1, ← hd1]
  have H1 := hide hs1
  have H2 := hide hd1
  clear hs1 hd1
  have hx9 := (hx.trans hb4).trans hb5
  have hb9 := (hb2.ext hb4).ext hb5
  have hbf := hb9.store2 (.int .i64 s1) (.int .i64 d1)
  obtain ⟨r0, r1⟩ := hb9.get2
  obtain ⟨g0, g1⟩ := hb9.free2
  go_wp2_with fail
  refine bodyPost_ret (v := meas s1 d1) ?_ rfl ⟨by rw [H1.out, H2.out], (hx9.setCell (by simp) _).setCell (by simp) _⟩
  obtain ⟨q0, q1⟩ := hbf.get2
  simp [results, Tryz.results99, go_sem, q0, q1, meas]
set_option maxHeartbeats 400000 in
theorem ofP_any (B : Nat) (x : Prt) (w : World) (cs : List Value) (hR : RP w B x cs) (hB : B ≤ w.heap.size) (hsz : sizeP x ≤ 1000000000) :
    Calls Tryz.prog 101 #[.agg cs.toArray] w fun e w' => e = .returned (meas (sizeP x) (deepP x)) ∧ Ext w w' := by
  have hs0 : 1 + sizeX x.w ≤ 1000000000 := hsz
  have hdl := deepX_le x.w
  obtain ⟨cs, rfl, hX⟩ := hR
  obtain ⟨v, rfl, hS⟩ := RX_iff.1 hX
  have ho := hS.oneCell
  unfold sizeP deepP
  have HX := hide hX
  generalize x.name = nm at *
  generalize x.out = ou at *
  generalize x.w = y at *
  clear hX hS hsz
  go_enter Tryz.func101, Tryz.ntmps101
  go_wp2_with fail
  obtain ⟨W1, hW1, hx1, hb1⟩ := box8 w (.string nm) (.bool ou) (.int .i64 y.op) (.string y.name) (.int .i64 y.n) (.int .i64 y.w) (.int .u64 y.v) v 83
  rw [← hW1]
  have hz1 := size_box hW1
  clear hW1
  obtain ⟨W2, hW2, hx2, hb2⟩ := box2 W1 (.int .i64 0) (.int .i64 0) 79
  rw [← hW2]
  have hz2 := size_box hW2
  clear hW2
  rw [hz1] at hb2 hz2
  have hx := hx1.trans hx2
  have hb1' := hb1.ext hx2
  have hB2 : B ≤ W2.heap.size := by omega
  obtain ⟨c0, c1, c2, c3, c4, c5, c6, c7⟩ := hb1'.get8
  go_wp2_with fail
  refine (ofX_any B y _ _ (HX.out.ext hx hB) hB2 (by omega)).mono ?_
  rintro e w1 ⟨rfl, hb4⟩
  go_wp2_with fail
  refine (in_any _ _ _ (by omega) (by omega)).mono ?_
  rintro e w2 ⟨rfl, hb5⟩
  unfold meas
  obtain ⟨s1, hs1⟩ : ∃ n, n = 1 + sizeX y := ⟨_, rfl⟩
  obtain ⟨d1, hd1⟩ : ∃ n, n = 1 + deepX y := ⟨_, rfl⟩
  rw [← hs1, ← hd1]
  have H1 := hide hs1
  have H2 := hide hd1
  clear hs1 hd1
  have hx9 := (hx.trans hb4).trans hb5
  have hb9 := (hb2.ext hb4).ext hb5
  have hbf := hb9.store2 (.int .i64 s1) (.int .i64 d1)
  obtain ⟨r0, r1⟩ := hb9.get2
  obtain ⟨g0, g1⟩ := hb9.free2
  go_wp2_with fail
  refine bodyPost_ret (v := meas s1 d1) ?_ rfl ⟨by rw [H1.out, H2.out], (hx9.setCell (by simp) _).setCell (by simp) _⟩
  obtain ⟨q0, q1⟩ := hbf.get2
  simp [results, Tryz.results101, go_sem, q0, q1, meas]
set_option maxRecDepth 20000 in
set_option maxHeartbeats 1000000 in
theorem ofS_any (B : Nat) (x : S) : ∀ (w : World) (cs : List Value), RS w B x cs → B ≤ w.heap.size → sizeS x ≤ 1000000000 →
    Calls Tryz.prog 123 #[.agg cs.toArray] w fun e w' => e = .returned (meas (sizeS x) (deepS x)) ∧ Ext w w' := by
  induction x using S.ind with
  | h x ih =>
  intro w cs hR hB hsz
  obtain ⟨v2, v3, rfl, hX, hL⟩ := RS_iff.1 hR
  have hs0 : 1 + msize sizeX x.x + msize sizeS x.l ≤ 1000000000 := by rw [← sizeS_eq]; exact hsz
  have hd1 := deepXL_le x.x
  have hd2 := deepSL_le x.l
  have hmem1 := hide (fun y (hy : y ∈ x.x) => msize_mem sizeX x.x y hy)
  have hmem2 := hide (fun y (hy : y ∈ x.l) => msize_mem sizeS x.l y hy)
  rw [show sizeS x = 1 + (msize sizeX x.x + msize sizeS x.l) by rw [sizeS_eq]; omega, deepS_eq]
  have IH := hide ih
  have HX := hide hX
  have HL := hide hL
  have o2 := hX.oneCell
  have o3 := hL.oneCell
  generalize x.op = op at *
  generalize x.name = nm at *
  generalize x.x = yx at *
  generalize x.l = yl at *
  clear hR hsz ih hX hL
  go_enter Tryz.func123, Tryz.ntmps123
  go_wp2_with fail
  obtain ⟨W1, hW1, hx1, hb1⟩ := box4 w (.int .i64 op) (.string nm) v2 v3 140
  rw [← hW1]
  have hz1 := size_box hW1
  clear hW1
  obtain ⟨W2, hW2, hx2, hb2⟩ := box2 W1 (.int .i64 0) (.int .i64 0) 79
  rw [← hW2]
  have hz2 := size_box hW2
  clear hW2
  rw [hz1] at hb2 hz2
  have hx := hx1.trans hx2
  have hb1' := hb1.ext hx2
  have hB2 : B ≤ W2.heap.size := by omega
  obtain ⟨c0, c1, c2, c3⟩ := hb1'.later4
  have HB := fun e : Later W2 => Nat.le_trans hB2 e.ext.size
  go_wp2_with fail
  refine wp_region_later_last (W := W2) (by kernel_rfl) rfl (by kernel_rfl) (by kernel_rfl) (Ext.refl _) ?_
  dsimp only [List.dropLast]
  repeat (go_big_quiet_step (first
    | (go_at_call 88; exact Later.calls (sumX_any _ enters_ofX sizeX deepX B yx (fun y hy w cs h1 h2 => ofX_any B y w cs h1 h2 (by have := hmem1.out y hy; omega)) _ _ (HX.out.extRX (hx.trans (Later.ext _)) hB) (HB _) (by omega) sizeX_pos))
    | (go_at_call 122; exact Later.calls (sumS_any _ enters_ofS sizeS deepS B yl (fun y hy w cs h1 h2 => IH.out y hy w cs h1 h2 (by have := hmem2.out y hy; omega)) _ _ (HL.out.extRS (hx.trans (Later.ext _)) hB) (HB _) (by omega) sizeS_pos))
    | (go_at_call 97; refine Later.calls (beside_any _ _ _ _ _ ?_ ?_) <;> omega)
    | (go_at_call 89; refine Later.calls (in_any _ _ _ ?_ ?_) <;> omega)))
  refine wpQuiet_nil ?_
  intro e
  unfold meas
  obtain ⟨s1, hs1⟩ : ∃ n, n = 1 + (msize sizeX yx + msize sizeS yl) := ⟨_, rfl⟩
  obtain ⟨d1, hd1⟩ : ∃ n, n = 1 + max (mdeep deepX yx) (mdeep deepS yl) := ⟨_, rfl⟩
  rw [← hs1, ← hd1]
  have H1 := hide hs1
  have H2 := hide hd1
  clear hs1 hd1
  have hx9 := hx.trans e.ext
  have hb9 := hb2.ext e.ext
  have hbf := hb9.store2 (.int .i64 s1) (.int .i64 d1)
  obtain ⟨r0, r1⟩ := hb9.get2
  obtain ⟨g0, g1⟩ := hb9.free2
  go_wp2_with fail
  refine bodyPost_ret (v := meas s1 d1) ?_ rfl ⟨by rw [H1.out, H2.out], (hx9.setCell (by simp) _).setCell (by simp) _⟩
  obtain ⟨q0, q1⟩ := hbf.get2
  simp [results, Tryz.results123, go_sem, q0, q1, meas]
end Go.Proofs.YtjoglnjpgkobeaaGreatDoor

/-
  THE CONTRACTS OF PACKAGE ast's MEASURING: items, modules, files.
-/
namespace Go.Proofs.YtjoglnjpgkobeaaGreatDoor
open Go Go.RowKit
set_option linter.all false
set_option linter.unusedVariables false
set_option linter.unusedSimpArgs false
set_option linter.unusedVariables false
set_option linter.unusedSimpArgs false
attribute [local go_sem] run_store_one
set_option maxRecDepth 20000 in
set_option maxHeartbeats 4000000 in
theorem ofI_any (B : Nat) (x : Itm) : ∀ (w : World) (cs : List Value), RI w B x cs → B ≤ w.heap.size → sizeI x ≤ 1000000000 →
    Calls Tryz.prog 103 #[.agg cs.toArray] w fun e w' => e = .returned (meas (sizeI x) (deepI x)) ∧ Ext w w' := by
  induction x using Itm.ind with
  | h x ih1 ih2 =>
  intro w cs hR hB hsz
  obtain ⟨v3, v4, v5, v6, v7, v8, rfl, hX, hS, hL, hE, hP, hBb⟩ := RI_iff.1 hR
  have hs0 : 1 + msize sizeX x.x + msize sizeS x.s + msize sizeI x.l + msize sizeI x.els + msize sizeB x.params + msize sizeB x.binds ≤ 1000000000 := by rw [← sizeI_eq]; exact hsz
  have hd1 := deepXL_le x.x
  have hd2 := deepSL_le x.s
  have hd3 := deepIL_le x.l
  have hd4 := deepIL_le x.els
  have hd5 := deepBL_le x.params
  have hd6 := deepBL_le x.binds
  have hmem1 := hide (fun y (hy : y ∈ x.x) => msize_mem sizeX x.x y hy)
  have hmem2 := hide (fun y (hy : y ∈ x.s) => msize_mem sizeS x.s y hy)
  have hmem3 := hide (fun y (hy : y ∈ x.l) => msize_mem sizeI x.l y hy)
  have hmem4 := hide (fun y (hy : y ∈ x.els) => msize_mem sizeI x.els y hy)
  have hmem5 := hide (fun y (hy : y ∈ x.params) => msize_mem sizeB x.params y hy)
  have hmem6 := hide (fun y (hy : y ∈ x.binds) => msize_mem sizeB x.binds y hy)
  rw [show sizeI x = 1 + (msize sizeX x.x + msize sizeS x.s + msize sizeI x.l + msize sizeI x.els + msize sizeB x.params + msize sizeB x.binds) by rw [sizeI_eq]; omega, deepI_eq]
  have IH1 := hide ih1
  have IH2 := hide ih2
  have HX := hide hX
  have HS := hide hS
  have HL := hide hL
  have HE := hide hE
  have HP := hide hP
  have HBb := hide hBb
  have o3 := hX.oneCell
  have o4 := hS.oneCell
  have o5 := hL.oneCell
  have o6 := hE.oneCell
  have o7 := hP.oneCell
  have o8 := hBb.oneCell
  generalize x.op = op at *
  generalize x.name = nm at *
  generalize x.of = of at *
  generalize x.x = yx at *
  generalize x.s = ys at *
  generalize x.l = yl at *
  generalize x.els = ye at *
  generalize x.params = yp at *
  generalize x.binds = yb at *
  clear hR hsz ih1 ih2 hX hS hL hE hP hBb
  go_enter Tryz.func103, Tryz.ntmps103
  go_wp2_with fail
  obtain ⟨W1, hW1, hx1, hb1⟩ := box9 w (.int .i64 op) (.string nm) (.string of) v3 v4 v5 v6 v7 v8 53
  rw [← hW1]
  have hz1 := size_box hW1
  clear hW1
  obtain ⟨W2, hW2, hx2, hb2⟩ := box2 W1 (.int .i64 0) (.int .i64 0) 79
  rw [← hW2]
  have hz2 := size_box hW2
  clear hW2
  rw [hz1] at hb2 hz2
  have hx := hx1.trans hx2
  have hb1' := hb1.ext hx2
  have hB2 : B ≤ W2.heap.size := by omega
  obtain ⟨c0, c1, c2, c3, c4, c5, c6, c7, c8⟩ := hb1'.get9
  go_wp2_with fail
  have G1 : ∀ wa, Ext W2 wa → Calls Tryz.prog 88 #[v3, .func (.func 55) #[] #[]] wa fun e w' => e = .returned (meas (msize sizeX yx) (mdeep deepX yx)) ∧ Ext wa w' := fun wa h =>
    sumX_any _ enters_ofX sizeX deepX B yx (fun y hy w cs h1 h2 => ofX_any B y w cs h1 h2 (by have := hmem1.out y hy; omega)) _ _ (HX.out.extRX (hx.trans h) hB) (by have := h.size; omega) (by omega) sizeX_pos
  have G2 : ∀ wa, Ext W2 wa → Calls Tryz.prog 122 #[v4, .func (.func 123) #[] #[]] wa fun e w' => e = .returned (meas (msize sizeS ys) (mdeep deepS ys)) ∧ Ext wa w' := fun wa h =>
    sumS_any _ enters_ofS sizeS deepS B ys (fun y hy w cs h1 h2 => ofS_any B y w cs h1 h2 (by have := hmem2.out y hy; omega)) _ _ (HS.out.extRS (hx.trans h) hB) (by have := h.size; omega) (by omega) sizeS_pos
  have G3 : ∀ wa, Ext W2 wa → Calls Tryz.prog 102 #[v5, .func (.func 103) #[] #[]] wa fun e w' => e = .returned (meas (msize sizeI yl) (mdeep deepI yl)) ∧ Ext wa w' := fun wa h =>
    sumItm_any _ enters_ofI sizeI deepI B yl (fun y hy w cs h1 h2 => IH1.out y hy w cs h1 h2 (by have := hmem3.out y hy; omega)) _ _ (HL.out.extRI (hx.trans h) hB) (by have := h.size; omega) (by omega) sizeI_pos
  have G4 : ∀ wa, Ext W2 wa → Calls Tryz.prog 102 #[v6, .func (.func 103) #[] #[]] wa fun e w' => e = .returned (meas (msize sizeI ye) (mdeep deepI ye)) ∧ Ext wa w' := fun wa h =>
    sumItm_any _ enters_ofI sizeI deepI B ye (fun y hy w cs h1 h2 => IH2.out y hy w cs h1 h2 (by have := hmem4.out y hy; omega)) _ _ (HE.out.extRI (hx.trans h) hB) (by have := h.size; omega) (by omega) sizeI_pos
  have G5 : ∀ wa, Ext W2 wa → Calls Tryz.prog 98 #[v7, .func (.func 99) #[] #[]] wa fun e w' => e = .returned (meas (msize sizeB yp) (mdeep deepB yp)) ∧ Ext wa w' := fun wa h =>
    sumBnd_any _ enters_ofB sizeB deepB B yp (fun y hy w cs h1 h2 => ofB_any B y w cs h1 h2 (by have := hmem5.out y hy; omega)) _ _ (HP.out.extRB (hx.trans h) hB) (by have := h.size; omega) (by omega) sizeB_pos
  have G6 : ∀ wa, Ext W2 wa → Calls Tryz.prog 98 #[v8, .func (.func 99) #[] #[]] wa fun e w' => e = .returned (meas (msize sizeB yb) (mdeep deepB yb)) ∧ Ext wa w' := fun wa h =>
    sumBnd_any _ enters_ofB sizeB deepB B yb (fun y hy w cs h1 h2 => ofB_any B y w cs h1 h2 (by have := hmem6.out y hy; omega)) _ _ (HBb.out.extRB (hx.trans h) hB) (by have := h.size; omega) (by omega) sizeB_pos
  have H1 := hide G1
  have H2 := hide G2
  have H3 := hide G3
  have H4 := hide G4
  have H5 := hide G5
  have H6 := hide G6
  clear G1 G2 G3 G4 G5 G6 HX HS HL HE HP HBb IH1 IH2 hmem1 hmem2 hmem3 hmem4 hmem5 hmem6
  obtain ⟨vals, hvals⟩ : ∃ vals : List Value, vals = [.pointer (some ⟨w.heap.size, 3, none⟩), v3, meas (msize sizeX yx) (mdeep deepX yx), .pointer (some ⟨w.heap.size, 4, none⟩), v4, meas (msize sizeS ys) (mdeep deepS ys),
    meas (msize sizeX yx + msize sizeS ys) (max (mdeep deepX yx) (mdeep deepS ys)), .pointer (some ⟨w.heap.size, 5, none⟩), v5, meas (msize sizeI yl) (mdeep deepI yl),
    meas (msize sizeX yx + msize sizeS ys + msize sizeI yl) (max (max (mdeep deepX yx) (mdeep deepS ys)) (mdeep deepI yl)), .pointer (some ⟨w.heap.size, 6, none⟩), v6, meas (msize sizeI ye) (mdeep deepI ye),
    meas (msize sizeX yx + msize sizeS ys + msize sizeI yl + msize sizeI ye) (max (max (max (mdeep deepX yx) (mdeep deepS ys)) (mdeep deepI yl)) (mdeep deepI ye))] := ⟨_, rfl⟩
  refine wp_region_facts_last (W := W2) (fun i v w' => if i = 15 then (∃ p, v = .pointer (some ⟨p, 0, none⟩) ∧ W2.heap.size ≤ p ∧ Blk w' p 79 [.int .i64 0, .int .i64 0]) else v = vals.getD i undef) (by kernel_rfl) rfl (by kernel_rfl) (by kernel_rfl) (Ext.refl _) ?_ ?_ ?_
  · intro i v wa wb h hx
    by_cases h15 : i = 15
    · rw [if_pos h15] at h ⊢
      obtain ⟨p, h1, h2, h3⟩ := h
      exact ⟨p, h1, h2, h3.ext hx⟩
    · rw [if_neg h15] at h ⊢
      exact h
  · subst hvals
    refine ⟨?_, ?_, ?_, ?_, ?_, ?_, ?_, ?_, ?_, ?_, ?_, ?_, ?_, ?_, ?_, ?_, trivial⟩
    · intro A wa hxa hd h0
      have e1 := rest_at h0 1 (by kernel_rfl)
      simp at e1
      clear hd h0
      go_simp
      exact Ext.refl _
    · intro A wa hxa hd h0
      have q0 := dep1 (d := 4) hd rfl rfl
      simp at q0
      obtain ⟨d0, d1, d2, d3, d4, d5, d6, d7, d8⟩ := (hb1'.ext hxa).get9
      clear hd h0
      go_simp
      exact Ext.refl _
    · intro A wa hxa hd h0
      have q0 := dep1 (d := 5) hd rfl rfl
      simp at q0
      clear hd h0
      go_simp
      refine (H1.out _ hxa).mono ?_
      rintro e w2 ⟨rfl, hx⟩
      go_simp
    · intro A wa hxa hd h0
      have e1 := rest_at h0 1 (by kernel_rfl)
      simp at e1
      clear hd h0
      go_simp
      exact Ext.refl _
    · intro A wa hxa hd h0
      have q0 := dep1 (d := 7) hd rfl rfl
      simp at q0
      obtain ⟨d0, d1, d2, d3, d4, d5, d6, d7, d8⟩ := (hb1'.ext hxa).get9
      clear hd h0
      go_simp
      exact Ext.refl _
    · intro A wa hxa hd h0
      have q0 := dep1 (d := 8) hd rfl rfl
      simp at q0
      clear hd h0
      go_simp
      refine (H2.out _ hxa).mono ?_
      rintro e w2 ⟨rfl, hx⟩
      go_simp
    · intro A wa hxa hd h0
      have q0 := dep1 (d := 6) hd rfl rfl
      have q1 := dep1 (d := 9) hd.2 rfl rfl
      simp at q0 q1
      clear hd h0
      go_simp
      refine (beside_any _ _ _ _ _ (by omega) (by omega)).mono ?_
      rintro e w2 ⟨rfl, hx⟩
      go_simp
    · intro A wa hxa hd h0
      have e1 := rest_at h0 1 (by kernel_rfl)
      simp at e1
      clear hd h0
      go_simp
      exact Ext.refl _
    · intro A wa hxa hd h0
      have q0 := dep1 (d := 11) hd rfl rfl
      simp at q0
      obtain ⟨d0, d1, d2, d3, d4, d5, d6, d7, d8⟩ := (hb1'.ext hxa).get9
      clear hd h0
      go_simp
      exact Ext.refl _
    · intro A wa hxa hd h0
      have q0 := dep1 (d := 12) hd rfl rfl
      simp at q0
      clear hd h0
      go_simp
      refine (H3.out _ hxa).mono ?_
      rintro e w2 ⟨rfl, hx⟩
      go_simp
    · intro A wa hxa hd h0
      have q0 := dep1 (d := 10) hd rfl rfl
      have q1 := dep1 (d := 13) hd.2 rfl rfl
      simp at q0 q1
      clear hd h0
      go_simp
      refine (beside_any _ _ _ _ _ (by omega) (by omega)).mono ?_
      rintro e w2 ⟨rfl, hx⟩
      go_simp
    · intro A wa hxa hd h0
      have e1 := rest_at h0 1 (by kernel_rfl)
      simp at e1
      clear hd h0
      go_simp
      exact Ext.refl _
    · intro A wa hxa hd h0
      have q0 := dep1 (d := 15) hd rfl rfl
      simp at q0
      obtain ⟨d0, d1, d2, d3, d4, d5, d6, d7, d8⟩ := (hb1'.ext hxa).get9
      clear hd h0
      go_simp
      exact Ext.refl _
    · intro A wa hxa hd h0
      have q0 := dep1 (d := 16) hd rfl rfl
      simp at q0
      clear hd h0
      go_simp
      refine (H4.out _ hxa).mono ?_
      rintro e w2 ⟨rfl, hx⟩
      go_simp
    · intro A wa hxa hd h0
      have q0 := dep1 (d := 14) hd rfl rfl
      have q1 := dep1 (d := 17) hd.2 rfl rfl
      simp at q0 q1
      clear hd h0
      go_simp
      refine (beside_any _ _ _ _ _ (by omega) (by omega)).mono ?_
      rintro e w2 ⟨rfl, hx⟩
      go_simp
    · intro A wa hxa hd h0
      clear hd h0
      go_simp
      exact ⟨_, rfl, (Ext.refl _).alloc _, _, rfl, by have := hxa.size; omega, Blk.new _ _ [_, _]⟩ -- hxa.size, Blk.new _ _ [_, _]⟩
  · intro A wa hk
    obtain ⟨hxa, hsz, hdf, hdn, hrs⟩ := hk
    obtain ⟨p, t3, hp, hb3⟩ := hdn 15 3 rfl rfl
    obtain ⟨s4, hs4⟩ : ∃ n, n = msize sizeX yx + msize sizeS ys + msize sizeI yl + msize sizeI ye := ⟨_, rfl⟩
    obtain ⟨d4, hd4'⟩ : ∃ n, n = max (max (max (mdeep deepX yx) (mdeep deepS ys)) (mdeep deepI yl)) (mdeep deepI ye) := ⟨_, rfl⟩
    have t18 : A.tmps[18]?.getD undef = meas s4 d4 := by
      have h := hdn 14 18 rfl rfl
      subst hvals
      rw [Array.getD_eq_getD_getElem?] at h
      rw [hs4, hd4']
      exact h
    clear hvals
    have e1 := rest_at hrs 1 (by kernel_rfl)
    have e2 := rest_at hrs 2 (by kernel_rfl)
    clear hdn hrs
    rw [act_lit hsz hdf]
    simp [List.range, List.range.loop] at t3 e1 e2
    simp [List.range, List.range.loop, t3, t18, e1, e2]
    clear t3 t18 e1 e2
    have hsl : s4 + msize sizeB yp + msize sizeB yb < 1000000000 := by omega
    have hdl : d4 ≤ s4 := by omega
    have S4 := hide hs4
    have D4 := hide hd4'
    clear hs4 hd4'
    generalize A.tmps[0]?.getD undef = A0 at *
    generalize A.tmps[4]?.getD undef = A4 at *
    generalize A.tmps[5]?.getD undef = A5 at *
    generalize A.tmps[6]?.getD undef = A6 at *
    generalize A.tmps[7]?.getD undef = A7 at *
    generalize A.tmps[8]?.getD undef = A8 at *
    generalize A.tmps[9]?.getD undef = A9 at *
    generalize A.tmps[10]?.getD undef = A10 at *
    generalize A.tmps[11]?.getD undef = A11 at *
    generalize A.tmps[12]?.getD undef = A12 at *
    generalize A.tmps[13]?.getD undef = A13 at *
    generalize A.tmps[14]?.getD undef = A14 at *
    generalize A.tmps[15]?.getD undef = A15 at *
    generalize A.tmps[16]?.getD undef = A16 at *
    generalize A.tmps[17]?.getD undef = A17 at *
    generalize A.tmps[19]?.getD undef = A19 at *
    generalize A.tmps[20]?.getD undef = A20 at *
    generalize A.tmps[21]?.getD undef = A21 at *
    generalize A.tmps[22]?.getD undef = A22 at *
    generalize A.tmps[23]?.getD undef = A23 at *
    generalize A.tmps[24]?.getD undef = A24 at *
    generalize A.tmps[25]?.getD undef = A25 at *
    generalize A.tmps[26]?.getD undef = A26 at *
    generalize A.tmps[27]?.getD undef = A27 at *
    generalize A.tmps[28]?.getD undef = A28 at *
    have hb4 := hb3.store2 (.int .i64 s4) (.int .i64 d4)
    have hx4 := (hxa.setCell (p := ⟨p, 0, none⟩) hp (.int .i64 s4)).setCell (p := ⟨p, 1, none⟩) hp (.int .i64 d4)
    obtain ⟨m0, m1⟩ := hb3.get2
    obtain ⟨g0, g1⟩ := hb3.free2
    unfold meas
    go_wp2_with fail
    generalize (wa.setCell ⟨p, 0, none⟩ (.int .i64 s4)).setCell ⟨p, 1, none⟩ (.int .i64 d4) = W3 at *
    clear hb3 m0 m1 g0 g1 hxa
    have hxw := hx.trans hx4
    obtain ⟨l0, l1⟩ := hb4.later2
    obtain ⟨c0, c1, c2, c3, c4, c5, c6, c7, c8⟩ := (hb1'.ext hx4).later9
    have hb5 := hb2.ext hx4
    have G5 := hide (fun e : Later W3 => H5.out _ (hx4.trans e.ext))
    have G6 := hide (fun e : Later W3 => H6.out _ (hx4.trans e.ext))
    clear H1 H2 H3 H4 H5 H6 hb1' hb1 hx1 hx2 hb2
    refine wp_region_later_last (W := W3) (by kernel_rfl) rfl (by kernel_rfl) (by kernel_rfl) (Ext.refl _) ?_
    dsimp only [List.dropLast]
    repeat (go_big_quiet_step (first
      | (go_at_call 97; refine Later.calls (beside_any _ _ _ _ _ ?_ ?_) <;> omega)
      | (go_at_call 89; refine Later.calls (in_any _ _ _ ?_ ?_) <;> omega)
      | (go_at_call 98; with_reducible exact Later.calls (G5.out _)) | (go_at_call 98; with_reducible exact Later.calls (G6.out _))))
    refine wpQuiet_nil ?_
    intro e
    unfold meas
    obtain ⟨s1, hs1⟩ : ∃ n, n = 1 + (s4 + msize sizeB yp + msize sizeB yb) := ⟨_, rfl⟩
    obtain ⟨d1, hd1⟩ : ∃ n, n = 1 + max d4 (max (mdeep deepB yp) (mdeep deepB yb)) := ⟨_, rfl⟩
    rw [← hs1, ← hd1]
    have K1 := hide hs1
    have K2 := hide hd1
    clear hs1 hd1
    have hx9 := hxw.trans e.ext
    have hb9 := hb5.ext e.ext
    have hbf := hb9.store2 (.int .i64 s1) (.int .i64 d1)
    obtain ⟨r0, r1⟩ := hb9.get2
    obtain ⟨g0, g1⟩ := hb9.free2
    go_wp2_with fail
    refine bodyPost_ret (v := meas s1 d1) ?_ rfl ⟨by congr 2 <;> (have := K1.out; have := K2.out; have := S4.out; have := D4.out; omega), (hx9.setCell (by simp) _).setCell (by simp) _⟩
    obtain ⟨q0, q1⟩ := hbf.get2
    simp [results, Tryz.results103, go_sem, q0, q1, meas]
set_option maxRecDepth 20000 in
set_option maxHeartbeats 1000000 in
theorem ofM_any (B : Nat) (x : Mdl) (w : World) (cs : List Value) (hR : RM w B x cs) (hB : B ≤ w.heap.size) (hsz : sizeM x ≤ 1000000000) :
    Calls Tryz.prog 66 #[.agg cs.toArray] w fun e w' => e = .returned (meas (sizeM x) (deepM x)) ∧ Ext w w' := by
  obtain ⟨v1, v2, v3, rfl, hP, hO, hI⟩ := hR
  have hs0 : 1 + msize sizeB x.params + msize sizeP x.ports + msize sizeI x.items ≤ 1000000000 := hsz
  have hd1 := deepBL_le x.params
  have hd2 := deepPL_le x.ports
  have hd3 := deepIL_le x.items
  have hmem1 := hide (fun y (hy : y ∈ x.params) => msize_mem sizeB x.params y hy)
  have hmem2 := hide (fun y (hy : y ∈ x.ports) => msize_mem sizeP x.ports y hy)
  have hmem3 := hide (fun y (hy : y ∈ x.items) => msize_mem sizeI x.items y hy)
  rw [show sizeM x = 1 + (msize sizeB x.params + msize sizeP x.ports + msize sizeI x.items) by unfold sizeM; omega, show deepM x = 1 + max (max (mdeep deepB x.params) (mdeep deepP x.ports)) (mdeep deepI x.items) from rfl]
  have HP := hide hP
  have HO := hide hO
  have HI := hide hI
  have o1 := hP.oneCell
  have o2 := hO.oneCell
  have o3 := hI.oneCell
  generalize x.name = nm at *
  generalize x.params = yp at *
  generalize x.ports = yo at *
  generalize x.items = yi at *
  clear hsz hP hO hI
  go_enter Tryz.func66, Tryz.ntmps66
  go_wp2_with fail
  obtain ⟨W1, hW1, hx1, hb1⟩ := box4 w (.string nm) v1 v2 v3 33
  rw [← hW1]
  have hz1 := size_box hW1
  clear hW1
  obtain ⟨W2, hW2, hx2, hb2⟩ := box2 W1 (.int .i64 0) (.int .i64 0) 79
  rw [← hW2]
  have hz2 := size_box hW2
  clear hW2
  rw [hz1] at hb2 hz2
  have hx := hx1.trans hx2
  have hb1' := hb1.ext hx2
  have hB2 : B ≤ W2.heap.size := by omega
  obtain ⟨c0, c1, c2, c3⟩ := hb1'.later4
  have HB := fun e : Later W2 => Nat.le_trans hB2 e.ext.size
  go_wp2_with fail
  have G1 := hide (fun e : Later W2 => sumBnd_any _ enters_ofB sizeB deepB B yp (fun y hy w cs h1 h2 => ofB_any B y w cs h1 h2 (by have := hmem1.out y hy; omega)) _ _ (HP.out.extRB (hx.trans e.ext) hB) (HB _) (by omega) sizeB_pos)
  have G2 := hide (fun e : Later W2 => sumPrt_any _ enters_ofP sizeP deepP B yo (fun y hy w cs h1 h2 => ofP_any B y w cs h1 h2 (by have := hmem2.out y hy; omega)) _ _ (HO.out.extRP (hx.trans e.ext) hB) (HB _) (by omega) sizeP_pos)
  have G3 := hide (fun e : Later W2 => sumItm_any _ enters_ofI sizeI deepI B yi (fun y hy w cs h1 h2 => ofI_any B y w cs h1 h2 (by have := hmem3.out y hy; omega)) _ _ (HI.out.extRI (hx.trans e.ext) hB) (HB _) (by omega) sizeI_pos)
  refine wp_region_later_last (W := W2) (by kernel_rfl) rfl (by kernel_rfl) (by kernel_rfl) (Ext.refl _) ?_
  dsimp only [List.dropLast]
  repeat (go_big_quiet_step (first
    | (go_at_call 98; exact Later.calls (G1.out _))
    | (go_at_call 100; exact Later.calls (G2.out _))
    | (go_at_call 102; exact Later.calls (G3.out _))
    | (go_at_call 97; refine Later.calls (beside_any _ _ _ _ _ ?_ ?_) <;> omega)
    | (go_at_call 89; refine Later.calls (in_any _ _ _ ?_ ?_) <;> omega)))
  refine wpQuiet_nil ?_
  intro e
  unfold meas
  obtain ⟨s1, hs1⟩ : ∃ n, n = 1 + (msize sizeB yp + msize sizeP yo + msize sizeI yi) := ⟨_, rfl⟩
  obtain ⟨d1, hd1⟩ : ∃ n, n = 1 + max (mdeep deepB yp) (max (mdeep deepP yo) (mdeep deepI yi)) := ⟨_, rfl⟩
  rw [← hs1, ← hd1]
  have H1 := hide hs1
  have H2 := hide hd1
  clear hs1 hd1
  have hx9 := hx.trans e.ext
  have hb9 := hb2.ext e.ext
  have hbf := hb9.store2 (.int .i64 s1) (.int .i64 d1)
  obtain ⟨r0, r1⟩ := hb9.get2
  obtain ⟨g0, g1⟩ := hb9.free2
  go_wp2_with fail
  refine bodyPost_ret (v := meas s1 d1) ?_ rfl ⟨by congr 2 <;> (have := H1.out; have := H2.out; omega), (hx9.setCell (by simp) _).setCell (by simp) _⟩
  obtain ⟨q0, q1⟩ := hbf.get2
  simp [results, Tryz.results66, go_sem, q0, q1, meas]
end Go.Proofs.YtjoglnjpgkobeaaGreatDoor
