/-
  THE LAW NamesFresh: WHAT IT COMPUTES.
-/
import Derived.Test.YtjoglnjpgkobeaaGreatDoorCards
import Derived.Test.YtjoglnjpgkobeaaGreatDoorTie
import Derived.Test.YtjoglnjpgkobeaaGreatDoorNZPPk
import Derived.Test.YtjoglnjpgkobeaaGreatDoorTabPk
import Derived.Test.YtjoglnjpgkobeaaGreatDoorShutIPk
namespace Go.Proofs.YtjoglnjpgkobeaaGreatDoor
open Go Go.RowKit
set_option linter.all false
set_option linter.unusedVariables false
set_option linter.unusedSimpArgs false
set_option linter.unusedVariables false
set_option linter.unusedSimpArgs false
attribute [local go_sem] run_store_one

theorem one_cW2 (s : ByteArray) (gx : Nat) : ∀ u ∈ cW s gx, u.oneCell' = true := by
  intro u hu
  simp only [cW, List.mem_cons, List.not_mem_nil, or_false] at hu
  rcases hu with rfl | rfl | rfl | rfl | rfl | rfl | rfl | rfl | rfl <;> rfl
def fr6F (N0 : Nat) (f : List Mdl) (k : Nat) (nm : ByteArray) (vf : Value) (i : Nat) (v : Value) (w : World) : Prop := match i with
  | 0 => v = vf
  | 1 => v = .int .i64 k
  | 2 => v = .string nm
  | 3 => ∃ gx, v = .agg (cW nm gx).toArray ∧ Blk w gx 49 cX
  | 4 => ∃ g gx, v = .slice (some ⟨g, 0, none⟩) 1 1 ∧ Blk w g 53 (cW nm gx) ∧ Blk w gx 49 cX
  | 5 => ∃ v', v = .agg #[v'] ∧ Sl (RM w w.heap.size) w w.heap.size 4 (putM f k [iW nm]) v'
  | 6 => ∃ g, v = .pointer (some ⟨g, 0, none⟩) ∧ N0 ≤ g ∧ Blk w g 24 [.slice none 0 0]
  | _ => True
theorem fr6F_ext {N0 : Nat} {f : List Mdl} {k : Nat} {nm : ByteArray} {vf : Value} {i : Nat} {v : Value} {w w' : World} (h : fr6F N0 f k nm vf i v w) (hx : Ext w w') : fr6F N0 f k nm vf i v w' := by
  unfold fr6F at *
  split at h
  all_goals first
    | exact h
    | (obtain ⟨gx, h1, h2⟩ := h; exact ⟨gx, h1, h2.ext hx⟩)
    | (obtain ⟨g, gx, h1, h2, h3⟩ := h; exact ⟨g, gx, h1, h2.ext hx, h3.ext hx⟩)
    | (obtain ⟨g, h1, h2, h3⟩ := h; exact ⟨g, h1, h2, h3.ext hx⟩)
    | (obtain ⟨v', h1, h2⟩ := h; exact ⟨v', h1, (h2.extRM hx (Nat.le_refl _)).moreRM hx.size⟩)
def fr7F (N0 : Nat) (f : List Mdl) (k : Nat) (nm : ByteArray) (vf : Value) (i : Nat) (v : Value) (w : World) : Prop := match i with
  | 0 => v = vf
  | 1 => v = .int .i64 k
  | 2 => v = .string nm
  | 3 => v = .string nm
  | 4 => v = .string (under nm)
  | 5 => ∃ g, v = .slice (some ⟨g, 0, none⟩) 0 0
  | 6 => v = .agg cX.toArray
  | 7 => v = .agg cX.toArray
  | 8 => ∃ g, v = .slice (some ⟨g, 0, none⟩) 2 2 ∧ Blk w g 49 (cX ++ cX)
  | 9 => ∃ g5 gs, v = .agg (cF nm (under nm) gs (.slice (some ⟨g5, 0, none⟩) 0 0)).toArray ∧ Blk w gs 49 (cX ++ cX)
  | 10 => ∃ g g5 gs, v = .slice (some ⟨g, 0, none⟩) 1 1 ∧ Blk w g 53 (cF nm (under nm) gs (.slice (some ⟨g5, 0, none⟩) 0 0)) ∧ Blk w gs 49 (cX ++ cX)
  | 11 => ∃ v', v = .agg #[v'] ∧ Sl (RM w w.heap.size) w w.heap.size 4 (putM f k [iFor nm (under nm) []]) v'
  | 12 => ∃ g, v = .pointer (some ⟨g, 0, none⟩) ∧ N0 ≤ g ∧ Blk w g 24 [.slice none 0 0]
  | _ => True
theorem fr7F_ext {N0 : Nat} {f : List Mdl} {k : Nat} {nm : ByteArray} {vf : Value} {i : Nat} {v : Value} {w w' : World} (h : fr7F N0 f k nm vf i v w) (hx : Ext w w') : fr7F N0 f k nm vf i v w' := by
  unfold fr7F at *
  split at h
  all_goals first
    | exact h
    | (obtain ⟨gx, h1, h2⟩ := h; exact ⟨gx, h1, h2.ext hx⟩)
    | (obtain ⟨g, gx, h1, h2⟩ := h; exact ⟨g, gx, h1, h2.ext hx⟩)
    | (obtain ⟨g, g5, gx, h1, h2, h3⟩ := h; exact ⟨g, g5, gx, h1, h2.ext hx, h3.ext hx⟩)
    | (obtain ⟨g, h1, h2, h3⟩ := h; exact ⟨g, h1, h2, h3.ext hx⟩)
    | (obtain ⟨v', h1, h2⟩ := h; exact ⟨v', h1, (h2.extRM hx (Nat.le_refl _)).moreRM hx.size⟩)
/-- A name with a line behind it is one, where there is room. -/
theorem under_fresh {s : ByteArray} (h : nameP s) (hl : s.size < 64) : nameP (under s) := by
  obtain ⟨h1, h2, h3, h4⟩ := h
  have hd : (under s).data = s.data ++ #[95] := by simp [under]
  refine ⟨by rw [under_size]; omega, by rw [under_size]; omega, fun i hi => ?_, ?_⟩
  · have hi' : i < s.size + 1 := by rw [under_size] at hi; exact hi
    by_cases hlt : i < s.size
    · have : (under s).data[i] = s.data[i] := by simp only [hd]; rw [Array.getElem_append_left hlt]
      rw [this]
      exact h3 i hlt
    · obtain rfl : i = s.size := by omega
      have : (under s).data[s.size] = 95 := by
        simp only [hd]
        rw [Array.getElem_append_right (show s.data.size ≤ s.size from Nat.le_refl _)]
        simp only [show s.size - s.data.size = 0 from Nat.sub_self _]
        rfl
      rw [this]
      exact okAt_iff.2 (.inl (.inr (.inr rfl)))
  · cases hw : isWord (under s) with
    | false => rfl
    | true =>
      unfold isWord at hw
      rw [hd, Array.toList_append] at hw
      have := word_end _ (List.contains_iff_mem.1 hw)
      simp at this
/-- A file that is asked, in whatever world comes later. -/
theorem ask_put {f : List Mdl} {v : Value} {w w' : World} (hS : Sl (RM w w.heap.size) w w.heap.size 4 f v) (hT : Tabs w) (hx : Ext w w') (hsz : msize sizeM f ≤ 10000000) (hvx : ∀ m, m ∈ f → VM m) :
    Calls Tryz.prog 10 #[.agg #[v]] w' fun e w'' => e = .returned (.int .i64 (checkN f)) ∧ Ext w' w'' :=
  checkN_any w.heap.size f w' v (hT.ext hx) (hS.extRM hx (Nat.le_refl _)) hx.size hsz hvx

set_option maxRecDepth 20000 in
set_option maxHeartbeats 16000000 in
theorem lawNFresh_any (B : Nat) (f : List Mdl) (kk : Int) (nm : ByteArray) (w : World) (vf : Value) (hT : Tabs w) (hB : B ≤ w.heap.size) (hS : Sl (RM w B) w B 4 f vf) (hsz : msize sizeM f ≤ 2000000) (hvx : ∀ m, m ∈ f → VM m) (hz2 : nm.size ≤ 2000000) :
    Calls Tryz.prog 6 #[.agg #[vf], .int .i64 kk, .string nm] w fun e w' => e = .returned (.bool true) ∧ Ext w w' := by
  have HS := hide hS
  have HT := hide hT
  have HVX := hide hvx
  have hln := length_le_msize sizeM f sizeM_pos
  obtain ⟨a, cap, xf, rfl, hfl, hff⟩ := hS.fl
  obtain ⟨W1, hW1, hx1, hb1⟩ := box1 w (.slice a f.length cap) 24
  have hV1 := hW1.symm
  have BX := hide hb1
  have X1 := hide hx1
  have HFL := hide hfl
  clear hT hvx hW1 hx1 hb1 hfl hff hS
  go_enter Tryz.func6, Tryz.ntmps6
  go_wp2_with fail
  go_at_call 8
  refine (live7_any W1 (HT.out.ext X1.out)).mono ?_
  rintro _ w2 ⟨rfl, hx2⟩
  have X2 := hide (X1.out.trans hx2)
  have c2 := (BX.out.ext hx2).get1
  have BX := hide (BX.out.ext hx2)
  clear hx2 hV1
  go_wp2_with fail
  go_at_call 9
  refine (few7_any B f w2 _ (HS.out.extRM X2.out hB) (Nat.le_trans hB X2.out.size) (by omega)).mono ?_
  rintro _ w3 ⟨rfl, hx3⟩
  have X3 := hide (X2.out.trans hx3)
  have c3 := (BX.out.ext hx3).get1
  have BX := hide (BX.out.ext hx3)
  clear hx3 c2
  cases hb1 : yes (fewP (msize sizeM f) (mdeep deepM f)) with
  | false =>
    go_wp2_with fail
    go_ret
    exact ⟨rfl, X3.out⟩
  | true =>
    have hfew := (yes_iff.1 hb1).1
    clear hb1
    by_cases hk0 : kk < 0
    · go_wp2_with fail
      go_ret
      exact ⟨rfl, X3.out⟩
    by_cases hk1 : (f.length : Int) ≤ kk
    · go_wp2_with fail
      go_ret
      exact ⟨rfl, X3.out⟩
    by_cases ht2 : (100 : Int) < (nm.size : Int)
    · go_wp2_with fail
      go_ret
      exact ⟨rfl, X3.out⟩
    obtain ⟨k, rfl⟩ : ∃ k : Nat, kk = k := ⟨kk.toNat, by omega⟩
    have hk : k < f.length := by omega
    obtain ⟨b, o, rfl⟩ : ∃ b o, a = some ⟨b, o, none⟩ := by
      obtain ⟨b, o, h, -⟩ := HFL.out.2.2 (by omega)
      exact ⟨b, o, h⟩
    go_wp2_with fail
    go_at_call 22
    refine (CheckX_any w3.heap.size (xName nm) w3 [.int .i64 2, .string nm, .int .i64 0, .int .i64 0, .int .u64 0, .slice none 0 0] (HT.out.ext X3.out) (rx_xName nm) (Nat.le_refl _) (show (1 : Nat) ≤ 1000000000 by decide) (vx_xName (by omega))).mono ?_
    rintro _ w4 ⟨rfl, hx4⟩
    have X4 := hide (X3.out.trans hx4)
    have c4 := (BX.out.ext hx4).get1
    have BX := hide (BX.out.ext hx4)
    obtain ⟨cx, hcx⟩ : ∃ cx, told (sizeX (xName nm)) (deepX (xName nm)) (yes (MayX (xName nm))) = cx := ⟨_, rfl⟩
    have HCX := hide hcx
    rw [hcx]
    clear hx4 c3 hcx
    by_cases h0 : cx = 0
    rotate_left
    · have hne : (cx != 0) = true := by simpa using h0
      clear h0
      go_wp2_with fail
      go_ret
      exact ⟨rfl, X4.out⟩
    subst h0
    have hnp := told_name HCX.out
    go_wp2_with fail
    go_at_call 10
    refine (checkN_any B f w4 _ (HT.out.ext X4.out) (HS.out.extRM X4.out hB) (Nat.le_trans hB X4.out.size) (by omega) HVX.out).mono ?_
    rintro _ wr ⟨rfl, hx5⟩
    have X5 := hide (X4.out.trans hx5)
    have c5 := (BX.out.ext hx5).get1
    have BX := hide (BX.out.ext hx5)
    obtain ⟨cc, hcc⟩ : ∃ cc, checkN f = cc := ⟨_, rfl⟩
    have HCC := hide hcc
    rw [hcc]
    clear hx5 c4 hcc
    by_cases h0 : cc = 0
    rotate_left
    · have hne : (cc != 0) = true := by simpa using h0
      clear h0
      go_wp2_with fail
      go_ret
      exact ⟨rfl, X5.out⟩
    subst h0
    have hsk := msize_mem sizeM f f[k] (List.getElem_mem hk)
    have hme : sizeM f[k] = 1 + msize sizeB f[k].params + msize sizeP f[k].ports + msize sizeI f[k].items := rfl
    have hil2 := length_le_msize sizeI f[k].items sizeI_pos
    have e5 := BX.out.later1
    have HSW := hide (fun (e : Later wr) => show Sl (RM e.w e.w.heap.size) e.w e.w.heap.size 4 f (.slice (some ⟨b, o, none⟩) f.length cap) from (HS.out.extRM (X5.out.trans e.ext) hB).moreRM (Nat.le_trans hB (X5.out.trans e.ext).size))
    have HGS := hide (show msize sizeM (putM f k [iW nm]) ≤ 10000000 from by rw [putM_size hk]; show _ + 2 ≤ _; omega)
    have HGV := hide (putM_vm hk (it := iW nm) HVX.out (vi_iW (by omega)))
    have HHS := hide (show msize sizeM (putM f k [iFor nm (under nm) []]) ≤ 10000000 from by rw [putM_size hk, size_iFor]; show _ + (3 + 0) ≤ _; omega)
    have HHV := hide (putM_vm hk (it := iFor nm (under nm) []) HVX.out (vi_iFor (l := []) (by omega) (by rw [under_size]; omega) (fun y hy => nomatch hy)))
    have hcat : ¬ (9223372036854775807 < nm.size + 1) := by omega
    go_wp2_with fail
    clear c5
    refine wp_region_facts_last (W := wr) (fr6F wr.heap.size f k nm (.agg #[.slice (some ⟨b, o, none⟩) f.length cap])) (by kernel_rfl) rfl (by kernel_rfl) (by kernel_rfl) (Ext.refl _) (fun i v w w' h hx => fr6F_ext h hx) ?_ ?_
    · refine ⟨?_, ?_, ?_, ?_, ?_, ?_, ?_, trivial⟩
      · intro A wa hxa hd h0
        obtain ⟨ea, rfl⟩ := Later.mk_ex hxa
        have r3 := rest_at h0 3 (by kernel_rfl)
        simp at r3
        clear hd h0
        go_simp
        first | exact ⟨_, rfl, Ext.refl _, rfl⟩ | exact ⟨Ext.refl _, rfl⟩ | exact rfl | exact ⟨_, rfl, rfl⟩ | exact Ext.refl _ | (trace_state; fail)
      · intro A wa hxa hd h0
        obtain ⟨ea, rfl⟩ := Later.mk_ex hxa
        have r1 := rest_at h0 1 (by kernel_rfl)
        simp at r1
        clear hd h0
        go_simp
        first | exact ⟨_, rfl, Ext.refl _, rfl⟩ | exact ⟨Ext.refl _, rfl⟩ | exact rfl | exact ⟨_, rfl, rfl⟩ | exact Ext.refl _ | (trace_state; fail)
      · intro A wa hxa hd h0
        obtain ⟨ea, rfl⟩ := Later.mk_ex hxa
        have r2 := rest_at h0 2 (by kernel_rfl)
        simp at r2
        clear hd h0
        go_simp
        first | exact ⟨_, rfl, Ext.refl _, rfl⟩ | exact ⟨Ext.refl _, rfl⟩ | exact rfl | exact ⟨_, rfl, rfl⟩ | exact Ext.refl _ | (trace_state; fail)
      · intro A wa hxa hd h0
        obtain ⟨ea, rfl⟩ := Later.mk_ex hxa
        have q2 := depOn hd 2 47 (by kernel_rfl) rfl
        simp [fr6F] at q2
        clear hd h0
        go_simp
        refine (wire7_any nm ea.w).mono ?_
        rintro e w2 ⟨gx, rfl, hbx, hgx, hx⟩
        go_simp
        first | exact ⟨_, rfl, hx, ⟨gx, rfl, hbx⟩⟩ | exact ⟨hx, ⟨gx, rfl, hbx⟩⟩ | exact ⟨gx, rfl, hbx⟩ | exact ⟨_, rfl, ⟨gx, rfl, hbx⟩⟩ | (trace_state; fail)
      · intro A wa hxa hd h0
        obtain ⟨ea, rfl⟩ := Later.mk_ex hxa
        obtain ⟨gx, q3, hbx⟩ := depOn hd 3 48 (by kernel_rfl) rfl
        simp at q3
        clear hd h0
        go_simp
        first | exact ⟨_, rfl, Ext.new _ _, ea.w.heap.size, gx, rfl, Blk.new _ _ (cW nm gx), hbx.ext (Ext.new _ _)⟩ | exact ⟨Ext.new _ _, ea.w.heap.size, gx, rfl, Blk.new _ _ (cW nm gx), hbx.ext (Ext.new _ _)⟩ | (trace_state; fail)
      · intro A wa hxa hd h0
        obtain ⟨ea, rfl⟩ := Later.mk_ex hxa
        have q0 := depOn hd 0 45 (by kernel_rfl) rfl
        simp [fr6F] at q0
        have q1 := depOn hd 1 46 (by kernel_rfl) rfl
        simp [fr6F] at q1
        obtain ⟨g9, gx, q4, hb9, hbx⟩ := depOn hd 4 49 (by kernel_rfl) rfl
        simp at q4
        clear hd h0
        go_simp
        refine (put7_any ea.w.heap.size f k hk [iW nm] ea.w _ _ (HSW.out ea) (Sl.one hb9.lt rfl hb9.cells (one_cW2 nm gx) (ri_iW nm hbx.lt hbx.cells)) (Nat.le_refl _) (by omega) (by simp) (by omega)).mono ?_
        rintro e w2 ⟨v10, rfl, hx, hs10⟩
        go_simp
        first | exact ⟨_, rfl, hx, ⟨v10, rfl, hs10⟩⟩ | exact ⟨hx, ⟨v10, rfl, hs10⟩⟩ | exact ⟨v10, rfl, hs10⟩ | exact ⟨_, rfl, ⟨v10, rfl, hs10⟩⟩ | (trace_state; fail)
      · intro A wa hxa hd h0
        obtain ⟨ea, rfl⟩ := Later.mk_ex hxa
        clear hd h0
        go_simp
        first | exact ⟨_, rfl, Ext.new _ _, ea.w.heap.size, rfl, ea.ext.size, Blk.new _ _ [.slice none 0 0]⟩ | exact ⟨Ext.new _ _, ea.w.heap.size, rfl, ea.ext.size, Blk.new _ _ [.slice none 0 0]⟩ | (trace_state; fail)
    intro A wa hk
    obtain ⟨hxa, hsz, hdf, hdn, hrs⟩ := hk
    obtain ⟨ea, rfl⟩ := Later.mk_ex hxa
    obtain ⟨vp, k50, hsp⟩ := (show ∃ v', A.tmps.getD 50 undef = .agg #[v'] ∧ Sl (RM ea.w ea.w.heap.size) ea.w ea.w.heap.size 4 (putM f k [iW nm]) v' from hdn 5 50 rfl rfl)
    obtain ⟨gb, k8, hgb, hbb⟩ := (show ∃ g, A.tmps.getD 8 undef = .pointer (some ⟨g, 0, none⟩) ∧ wr.heap.size ≤ g ∧ Blk ea.w g 24 [.slice none 0 0] from hdn 6 8 rfl rfl)
    simp at k50 k8
    have k0 := rest_at hrs 0 (by kernel_rfl)
    simp at k0
    have k1 := rest_at hrs 1 (by kernel_rfl)
    simp at k1
    have k2 := rest_at hrs 2 (by kernel_rfl)
    simp at k2
    have k3 := rest_at hrs 3 (by kernel_rfl)
    simp at k3
    have k4 := rest_at hrs 4 (by kernel_rfl)
    simp at k4
    have k5 := rest_at hrs 5 (by kernel_rfl)
    simp at k5
    have k6 := rest_at hrs 6 (by kernel_rfl)
    simp at k6
    have k7 := rest_at hrs 7 (by kernel_rfl)
    simp at k7
    have k9 := rest_at hrs 9 (by kernel_rfl)
    simp at k9
    have k10 := rest_at hrs 10 (by kernel_rfl)
    simp at k10
    clear hdn hrs
    rw [act_lit hsz hdf]
    simp [List.range, List.range.loop, k50, k8, k0, k1, k2, k3, k4, k5, k6, k7, k9, k10]
    clear k50 k8 k0 k1 k2 k3 k4 k5 k6 k7 k9 k10 hsz hdf
    generalize A.tmps[11]?.getD undef = A11 at *
    generalize A.tmps[12]?.getD undef = A12 at *
    generalize A.tmps[13]?.getD undef = A13 at *
    generalize A.tmps[14]?.getD undef = A14 at *
    generalize A.tmps[15]?.getD undef = A15 at *
    generalize A.tmps[16]?.getD undef = A16 at *
    generalize A.tmps[17]?.getD undef = A17 at *
    generalize A.tmps[18]?.getD undef = A18 at *
    generalize A.tmps[19]?.getD undef = A19 at *
    generalize A.tmps[20]?.getD undef = A20 at *
    generalize A.tmps[21]?.getD undef = A21 at *
    generalize A.tmps[22]?.getD undef = A22 at *
    generalize A.tmps[23]?.getD undef = A23 at *
    generalize A.tmps[24]?.getD undef = A24 at *
    generalize A.tmps[25]?.getD undef = A25 at *
    generalize A.tmps[26]?.getD undef = A26 at *
    generalize A.tmps[27]?.getD undef = A27 at *
    generalize A.tmps[28]?.getD undef = A28 at *
    generalize A.tmps[29]?.getD undef = A29 at *
    generalize A.tmps[30]?.getD undef = A30 at *
    generalize A.tmps[31]?.getD undef = A31 at *
    generalize A.tmps[32]?.getD undef = A32 at *
    generalize A.tmps[33]?.getD undef = A33 at *
    generalize A.tmps[34]?.getD undef = A34 at *
    generalize A.tmps[35]?.getD undef = A35 at *
    generalize A.tmps[36]?.getD undef = A36 at *
    generalize A.tmps[37]?.getD undef = A37 at *
    generalize A.tmps[38]?.getD undef = A38 at *
    generalize A.tmps[39]?.getD undef = A39 at *
    generalize A.tmps[40]?.getD undef = A40 at *
    generalize A.tmps[41]?.getD undef = A41 at *
    generalize A.tmps[42]?.getD undef = A42 at *
    generalize A.tmps[43]?.getD undef = A43 at *
    generalize A.tmps[44]?.getD undef = A44 at *
    generalize A.tmps[45]?.getD undef = A45 at *
    generalize A.tmps[46]?.getD undef = A46 at *
    generalize A.tmps[47]?.getD undef = A47 at *
    generalize A.tmps[48]?.getD undef = A48 at *
    generalize A.tmps[49]?.getD undef = A49 at *
    generalize A.tmps[51]?.getD undef = A51 at *
    generalize A.tmps[52]?.getD undef = A52 at *
    generalize A.tmps[53]?.getD undef = A53 at *
    generalize A.tmps[54]?.getD undef = A54 at *
    generalize A.tmps[55]?.getD undef = A55 at *
    generalize A.tmps[56]?.getD undef = A56 at *
    generalize A.tmps[57]?.getD undef = A57 at *
    generalize A.tmps[58]?.getD undef = A58 at *
    generalize A.tmps[59]?.getD undef = A59 at *
    generalize A.tmps[60]?.getD undef = A60 at *
    generalize A.tmps[61]?.getD undef = A61 at *
    generalize A.tmps[62]?.getD undef = A62 at *
    generalize A.tmps[63]?.getD undef = A63 at *
    generalize A.tmps[64]?.getD undef = A64 at *
    generalize A.tmps[65]?.getD undef = A65 at *
    generalize A.tmps[66]?.getD undef = A66 at *
    generalize A.tmps[67]?.getD undef = A67 at *
    generalize A.tmps[68]?.getD undef = A68 at *
    generalize A.tmps[69]?.getD undef = A69 at *
    generalize A.tmps[70]?.getD undef = A70 at *
    generalize A.tmps[71]?.getD undef = A71 at *
    generalize A.tmps[72]?.getD undef = A72 at *
    generalize A.tmps[73]?.getD undef = A73 at *
    generalize A.tmps[74]?.getD undef = A74 at *
    generalize A.tmps[75]?.getD undef = A75 at *
    generalize A.tmps[76]?.getD undef = A76 at *
    generalize A.tmps[77]?.getD undef = A77 at *
    generalize A.tmps[78]?.getD undef = A78 at *
    generalize A.tmps[79]?.getD undef = A79 at *
    generalize A.tmps[80]?.getD undef = A80 at *
    generalize A.tmps[81]?.getD undef = A81 at *
    generalize A.tmps[82]?.getD undef = A82 at *
    generalize A.tmps[83]?.getD undef = A83 at *
    generalize A.tmps[84]?.getD undef = A84 at *
    generalize A.tmps[85]?.getD undef = A85 at *
    generalize A.tmps[86]?.getD undef = A86 at *
    generalize A.tmps[87]?.getD undef = A87 at *
    generalize A.tmps[88]?.getD undef = A88 at *
    generalize A.tmps[89]?.getD undef = A89 at *
    generalize A.tmps[90]?.getD undef = A90 at *
    generalize A.tmps[91]?.getD undef = A91 at *
    generalize A.tmps[92]?.getD undef = A92 at *
    generalize A.tmps[93]?.getD undef = A93 at *
    generalize A.tmps[94]?.getD undef = A94 at *
    generalize A.tmps[95]?.getD undef = A95 at *
    generalize A.tmps[96]?.getD undef = A96 at *
    generalize A.tmps[97]?.getD undef = A97 at *
    generalize A.tmps[98]?.getD undef = A98 at *
    generalize A.tmps[99]?.getD undef = A99 at *
    generalize A.tmps[100]?.getD undef = A100 at *
    generalize A.tmps[101]?.getD undef = A101 at *
    generalize A.tmps[102]?.getD undef = A102 at *
    generalize A.tmps[103]?.getD undef = A103 at *
    generalize A.tmps[104]?.getD undef = A104 at *
    generalize A.tmps[105]?.getD undef = A105 at *
    generalize A.tmps[106]?.getD undef = A106 at *
    generalize A.tmps[107]?.getD undef = A107 at *
    generalize A.tmps[108]?.getD undef = A108 at *
    have hslot : ∃ a n c, vp = .slice a n c := by obtain ⟨a', c', h, -⟩ := hsp; exact ⟨a', _, c', h⟩
    obtain ⟨pa, pn, pc, rfl⟩ := hslot
    have y0 := hbb.get1
    have y1 := hbb.free1
    obtain ⟨wy, hwy⟩ : ∃ wy, wy = ea.w.setCell ⟨gb, 0, none⟩ (.slice pa pn pc) := ⟨_, rfl⟩
    have hVy := hwy.symm
    have XY := hide (show Ext w wy from by rw [hwy]; exact X5.out.trans (ea.ext.setCell hgb _))
    have XRY := hide (show Ext wr wy from by rw [hwy]; exact ea.ext.setCell hgb _)
    have GBX := hide (show Blk wy gb 24 [.slice pa pn pc] from by rw [hwy]; exact hbb.store1 _)
    have GSL := hide (show Sl (RM wy wy.heap.size) wy wy.heap.size 4 (putM f k [iW nm]) (.slice pa pn pc) from by rw [hwy]; exact hsp.storeM hbb)
    have BX := hide (BX.out.ext XRY.out)
    have e5 := BX.out.later1
    have HSW := hide (fun (e : Later wy) => show Sl (RM e.w e.w.heap.size) e.w e.w.heap.size 4 f (.slice (some ⟨b, o, none⟩) f.length cap) from (HS.out.extRM (XY.out.trans e.ext) hB).moreRM (Nat.le_trans hB (XY.out.trans e.ext).size))
    clear hwy hsp hbb hgb
    obtain ⟨eaw, heaw⟩ : ∃ eaw, eaw = ea := ⟨_, rfl⟩
    go_wp2_with fail
    refine wp_region_facts_last (W := wy) (fr7F wy.heap.size f k nm (.agg #[.slice (some ⟨b, o, none⟩) f.length cap])) (by kernel_rfl) rfl (by kernel_rfl) (by kernel_rfl) (Ext.refl _) (fun i v w w' h hx => fr7F_ext h hx) ?_ ?_
    · refine ⟨?_, ?_, ?_, ?_, ?_, ?_, ?_, ?_, ?_, ?_, ?_, ?_, ?_, trivial⟩
      · intro A wa hxa hd h0
        obtain ⟨ea, rfl⟩ := Later.mk_ex hxa
        have r3 := rest_at h0 3 (by kernel_rfl)
        simp at r3
        clear hd h0
        go_simp
        first | exact ⟨_, rfl, Ext.refl _, rfl⟩ | exact ⟨Ext.refl _, rfl⟩ | exact rfl | exact ⟨_, rfl, rfl⟩ | exact Ext.refl _ | (trace_state; fail)
      · intro A wa hxa hd h0
        obtain ⟨ea, rfl⟩ := Later.mk_ex hxa
        have r1 := rest_at h0 1 (by kernel_rfl)
        simp at r1
        clear hd h0
        go_simp
        first | exact ⟨_, rfl, Ext.refl _, rfl⟩ | exact ⟨Ext.refl _, rfl⟩ | exact rfl | exact ⟨_, rfl, rfl⟩ | exact Ext.refl _ | (trace_state; fail)
      · intro A wa hxa hd h0
        obtain ⟨ea, rfl⟩ := Later.mk_ex hxa
        have r2 := rest_at h0 2 (by kernel_rfl)
        simp at r2
        clear hd h0
        go_simp
        first | exact ⟨_, rfl, Ext.refl _, rfl⟩ | exact ⟨Ext.refl _, rfl⟩ | exact rfl | exact ⟨_, rfl, rfl⟩ | exact Ext.refl _ | (trace_state; fail)
      · intro A wa hxa hd h0
        obtain ⟨ea, rfl⟩ := Later.mk_ex hxa
        have r2 := rest_at h0 2 (by kernel_rfl)
        simp at r2
        clear hd h0
        go_simp
        first | exact ⟨_, rfl, Ext.refl _, rfl⟩ | exact ⟨Ext.refl _, rfl⟩ | exact rfl | exact ⟨_, rfl, rfl⟩ | exact Ext.refl _ | (trace_state; fail)
      · intro A wa hxa hd h0
        obtain ⟨ea, rfl⟩ := Later.mk_ex hxa
        have q3 := depOn hd 3 54 (by kernel_rfl) rfl
        simp [fr7F] at q3
        clear hd h0
        go_simp
        first | exact ⟨_, rfl, Ext.refl _, rfl⟩ | exact ⟨Ext.refl _, rfl⟩ | exact rfl | exact ⟨_, rfl, rfl⟩ | exact Ext.refl _ | (trace_state; fail)
      · intro A wa hxa hd h0
        obtain ⟨ea, rfl⟩ := Later.mk_ex hxa
        clear hd h0
        go_simp
        first | exact ⟨_, rfl, Ext.new _ _, ea.w.heap.size, rfl⟩ | exact ⟨Ext.new _ _, ea.w.heap.size, rfl⟩ | (trace_state; fail)
      · intro A wa hxa hd h0
        obtain ⟨ea, rfl⟩ := Later.mk_ex hxa
        clear hd h0
        go_simp
        refine (one7_any ea.w).mono ?_
        rintro e w2 ⟨rfl, hx⟩
        go_simp
        first | exact ⟨_, rfl, hx, rfl⟩ | exact ⟨hx, rfl⟩ | exact rfl | exact ⟨_, rfl, rfl⟩ | (trace_state; fail)
      · intro A wa hxa hd h0
        obtain ⟨ea, rfl⟩ := Later.mk_ex hxa
        clear hd h0
        go_simp
        refine (one7_any ea.w).mono ?_
        rintro e w2 ⟨rfl, hx⟩
        go_simp
        first | exact ⟨_, rfl, hx, rfl⟩ | exact ⟨hx, rfl⟩ | exact rfl | exact ⟨_, rfl, rfl⟩ | (trace_state; fail)
      · intro A wa hxa hd h0
        obtain ⟨ea, rfl⟩ := Later.mk_ex hxa
        have q6 := depOn hd 6 57 (by kernel_rfl) rfl
        simp [fr7F] at q6
        have q7 := depOn hd 7 58 (by kernel_rfl) rfl
        simp [fr7F] at q7
        clear hd h0
        go_simp
        first | exact ⟨_, rfl, Ext.new _ _, ea.w.heap.size, rfl, Blk.new _ _ (cX ++ cX)⟩ | exact ⟨Ext.new _ _, ea.w.heap.size, rfl, Blk.new _ _ (cX ++ cX)⟩ | (trace_state; fail)
      · intro A wa hxa hd h0
        obtain ⟨ea, rfl⟩ := Later.mk_ex hxa
        have q2 := depOn hd 2 53 (by kernel_rfl) rfl
        simp [fr7F] at q2
        have q4 := depOn hd 4 55 (by kernel_rfl) rfl
        simp [fr7F] at q4
        obtain ⟨g5, q5⟩ := depOn hd 5 56 (by kernel_rfl) rfl
        simp at q5
        obtain ⟨g8, q8, hb8⟩ := depOn hd 8 59 (by kernel_rfl) rfl
        simp at q8
        clear hd h0
        go_simp
        first | exact ⟨_, rfl, Ext.refl _, g5, g8, rfl, hb8⟩ | exact ⟨Ext.refl _, g5, g8, rfl, hb8⟩ | exact ⟨_, rfl, g5, g8, rfl, hb8⟩ | (trace_state; fail)
      · intro A wa hxa hd h0
        obtain ⟨ea, rfl⟩ := Later.mk_ex hxa
        obtain ⟨g5, gs, q9, hbs⟩ := depOn hd 9 60 (by kernel_rfl) rfl
        simp at q9
        clear hd h0
        go_simp
        first | exact ⟨_, rfl, Ext.new _ _, ea.w.heap.size, g5, gs, rfl, Blk.new _ _ (cF nm (under nm) gs (.slice (some ⟨g5, 0, none⟩) 0 0)), hbs.ext (Ext.new _ _)⟩ | exact ⟨Ext.new _ _, ea.w.heap.size, g5, gs, rfl, Blk.new _ _ (cF nm (under nm) gs (.slice (some ⟨g5, 0, none⟩) 0 0)), hbs.ext (Ext.new _ _)⟩ | (trace_state; fail)
      · intro A wa hxa hd h0
        obtain ⟨ea, rfl⟩ := Later.mk_ex hxa
        have q0 := depOn hd 0 51 (by kernel_rfl) rfl
        simp [fr7F] at q0
        have q1 := depOn hd 1 52 (by kernel_rfl) rfl
        simp [fr7F] at q1
        obtain ⟨g10, g5, gs, q10, hb10, hbs⟩ := depOn hd 10 61 (by kernel_rfl) rfl
        simp at q10
        clear hd h0
        go_simp
        refine (put7_any ea.w.heap.size f k hk [iFor nm (under nm) []] ea.w _ _ (HSW.out ea) (Sl.one hb10.lt rfl hb10.cells (one_F rfl) (ri_iFor hbs.lt hbs.cells ⟨_, 0, rfl, Nat.le_refl _, fun k hk => by cases hk⟩)) (Nat.le_refl _) (by omega) (by simp) (by omega)).mono ?_
        rintro e w2 ⟨v10, rfl, hx, hs10⟩
        go_simp
        first | exact ⟨_, rfl, hx, ⟨v10, rfl, hs10⟩⟩ | exact ⟨hx, ⟨v10, rfl, hs10⟩⟩ | exact ⟨v10, rfl, hs10⟩ | exact ⟨_, rfl, ⟨v10, rfl, hs10⟩⟩ | (trace_state; fail)
      · intro A wa hxa hd h0
        obtain ⟨ea, rfl⟩ := Later.mk_ex hxa
        clear hd h0
        go_simp
        first | exact ⟨_, rfl, Ext.new _ _, ea.w.heap.size, rfl, ea.ext.size, Blk.new _ _ [.slice none 0 0]⟩ | exact ⟨Ext.new _ _, ea.w.heap.size, rfl, ea.ext.size, Blk.new _ _ [.slice none 0 0]⟩ | (trace_state; fail)
    intro A wa hk
    obtain ⟨hxa, hsz, hdf, hdn, hrs⟩ := hk
    obtain ⟨ea, rfl⟩ := Later.mk_ex hxa
    obtain ⟨vp, k62, hsp⟩ := (show ∃ v', A.tmps.getD 62 undef = .agg #[v'] ∧ Sl (RM ea.w ea.w.heap.size) ea.w ea.w.heap.size 4 (putM f k [iFor nm (under nm) []]) v' from hdn 11 62 rfl rfl)
    obtain ⟨gb, k9, hgb, hbb⟩ := (show ∃ g, A.tmps.getD 9 undef = .pointer (some ⟨g, 0, none⟩) ∧ wy.heap.size ≤ g ∧ Blk ea.w g 24 [.slice none 0 0] from hdn 12 9 rfl rfl)
    simp at k62 k9
    have k0 := rest_at hrs 0 (by kernel_rfl)
    simp at k0
    have k1 := rest_at hrs 1 (by kernel_rfl)
    simp at k1
    have k2 := rest_at hrs 2 (by kernel_rfl)
    simp at k2
    have k3 := rest_at hrs 3 (by kernel_rfl)
    simp at k3
    have k4 := rest_at hrs 4 (by kernel_rfl)
    simp at k4
    have k5 := rest_at hrs 5 (by kernel_rfl)
    simp at k5
    have k6 := rest_at hrs 6 (by kernel_rfl)
    simp at k6
    have k7 := rest_at hrs 7 (by kernel_rfl)
    simp at k7
    have k8 := rest_at hrs 8 (by kernel_rfl)
    simp at k8
    have k10 := rest_at hrs 10 (by kernel_rfl)
    simp at k10
    clear hdn hrs
    rw [act_lit hsz hdf]
    simp [List.range, List.range.loop, k62, k9, k0, k1, k2, k3, k4, k5, k6, k7, k8, k10]
    clear k62 k9 k0 k1 k2 k3 k4 k5 k6 k7 k8 k10 hsz hdf
    generalize A.tmps[11]?.getD undef = A11 at *
    generalize A.tmps[12]?.getD undef = A12 at *
    generalize A.tmps[13]?.getD undef = A13 at *
    generalize A.tmps[14]?.getD undef = A14 at *
    generalize A.tmps[15]?.getD undef = A15 at *
    generalize A.tmps[16]?.getD undef = A16 at *
    generalize A.tmps[17]?.getD undef = A17 at *
    generalize A.tmps[18]?.getD undef = A18 at *
    generalize A.tmps[19]?.getD undef = A19 at *
    generalize A.tmps[20]?.getD undef = A20 at *
    generalize A.tmps[21]?.getD undef = A21 at *
    generalize A.tmps[22]?.getD undef = A22 at *
    generalize A.tmps[23]?.getD undef = A23 at *
    generalize A.tmps[24]?.getD undef = A24 at *
    generalize A.tmps[25]?.getD undef = A25 at *
    generalize A.tmps[26]?.getD undef = A26 at *
    generalize A.tmps[27]?.getD undef = A27 at *
    generalize A.tmps[28]?.getD undef = A28 at *
    generalize A.tmps[29]?.getD undef = A29 at *
    generalize A.tmps[30]?.getD undef = A30 at *
    generalize A.tmps[31]?.getD undef = A31 at *
    generalize A.tmps[32]?.getD undef = A32 at *
    generalize A.tmps[33]?.getD undef = A33 at *
    generalize A.tmps[34]?.getD undef = A34 at *
    generalize A.tmps[35]?.getD undef = A35 at *
    generalize A.tmps[36]?.getD undef = A36 at *
    generalize A.tmps[37]?.getD undef = A37 at *
    generalize A.tmps[38]?.getD undef = A38 at *
    generalize A.tmps[39]?.getD undef = A39 at *
    generalize A.tmps[40]?.getD undef = A40 at *
    generalize A.tmps[41]?.getD undef = A41 at *
    generalize A.tmps[42]?.getD undef = A42 at *
    generalize A.tmps[43]?.getD undef = A43 at *
    generalize A.tmps[44]?.getD undef = A44 at *
    generalize A.tmps[45]?.getD undef = A45 at *
    generalize A.tmps[46]?.getD undef = A46 at *
    generalize A.tmps[47]?.getD undef = A47 at *
    generalize A.tmps[48]?.getD undef = A48 at *
    generalize A.tmps[49]?.getD undef = A49 at *
    generalize A.tmps[50]?.getD undef = A50 at *
    generalize A.tmps[51]?.getD undef = A51 at *
    generalize A.tmps[52]?.getD undef = A52 at *
    generalize A.tmps[53]?.getD undef = A53 at *
    generalize A.tmps[54]?.getD undef = A54 at *
    generalize A.tmps[55]?.getD undef = A55 at *
    generalize A.tmps[56]?.getD undef = A56 at *
    generalize A.tmps[57]?.getD undef = A57 at *
    generalize A.tmps[58]?.getD undef = A58 at *
    generalize A.tmps[59]?.getD undef = A59 at *
    generalize A.tmps[60]?.getD undef = A60 at *
    generalize A.tmps[61]?.getD undef = A61 at *
    generalize A.tmps[63]?.getD undef = A63 at *
    generalize A.tmps[64]?.getD undef = A64 at *
    generalize A.tmps[65]?.getD undef = A65 at *
    generalize A.tmps[66]?.getD undef = A66 at *
    generalize A.tmps[67]?.getD undef = A67 at *
    generalize A.tmps[68]?.getD undef = A68 at *
    generalize A.tmps[69]?.getD undef = A69 at *
    generalize A.tmps[70]?.getD undef = A70 at *
    generalize A.tmps[71]?.getD undef = A71 at *
    generalize A.tmps[72]?.getD undef = A72 at *
    generalize A.tmps[73]?.getD undef = A73 at *
    generalize A.tmps[74]?.getD undef = A74 at *
    generalize A.tmps[75]?.getD undef = A75 at *
    generalize A.tmps[76]?.getD undef = A76 at *
    generalize A.tmps[77]?.getD undef = A77 at *
    generalize A.tmps[78]?.getD undef = A78 at *
    generalize A.tmps[79]?.getD undef = A79 at *
    generalize A.tmps[80]?.getD undef = A80 at *
    generalize A.tmps[81]?.getD undef = A81 at *
    generalize A.tmps[82]?.getD undef = A82 at *
    generalize A.tmps[83]?.getD undef = A83 at *
    generalize A.tmps[84]?.getD undef = A84 at *
    generalize A.tmps[85]?.getD undef = A85 at *
    generalize A.tmps[86]?.getD undef = A86 at *
    generalize A.tmps[87]?.getD undef = A87 at *
    generalize A.tmps[88]?.getD undef = A88 at *
    generalize A.tmps[89]?.getD undef = A89 at *
    generalize A.tmps[90]?.getD undef = A90 at *
    generalize A.tmps[91]?.getD undef = A91 at *
    generalize A.tmps[92]?.getD undef = A92 at *
    generalize A.tmps[93]?.getD undef = A93 at *
    generalize A.tmps[94]?.getD undef = A94 at *
    generalize A.tmps[95]?.getD undef = A95 at *
    generalize A.tmps[96]?.getD undef = A96 at *
    generalize A.tmps[97]?.getD undef = A97 at *
    generalize A.tmps[98]?.getD undef = A98 at *
    generalize A.tmps[99]?.getD undef = A99 at *
    generalize A.tmps[100]?.getD undef = A100 at *
    generalize A.tmps[101]?.getD undef = A101 at *
    generalize A.tmps[102]?.getD undef = A102 at *
    generalize A.tmps[103]?.getD undef = A103 at *
    generalize A.tmps[104]?.getD undef = A104 at *
    generalize A.tmps[105]?.getD undef = A105 at *
    generalize A.tmps[106]?.getD undef = A106 at *
    generalize A.tmps[107]?.getD undef = A107 at *
    generalize A.tmps[108]?.getD undef = A108 at *
    have hslot : ∃ a n c, vp = .slice a n c := by obtain ⟨a', c', h, -⟩ := hsp; exact ⟨a', _, c', h⟩
    obtain ⟨qa, qn, qc, rfl⟩ := hslot
    have z0 := hbb.get1
    have z1 := hbb.free1
    obtain ⟨wz, hwz⟩ : ∃ wz, wz = ea.w.setCell ⟨gb, 0, none⟩ (.slice qa qn qc) := ⟨_, rfl⟩
    have hVz := hwz.symm
    have XZ := hide (show Ext wy wz from by rw [hwz]; exact ea.ext.setCell hgb _)
    have HBX := hide (show Blk wz gb 24 [.slice qa qn qc] from by rw [hwz]; exact hbb.store1 _)
    have HSL := hide (show Sl (RM wz wz.heap.size) wz wz.heap.size 4 (putM f k [iFor nm (under nm) []]) (.slice qa qn qc) from by rw [hwz]; exact hsp.storeM hbb)
    have BX := hide (BX.out.ext XZ.out)
    have c6 := BX.out.get1
    obtain ⟨a', cap', hve, -, hrow⟩ := HS.out
    obtain ⟨rfl, -, rfl⟩ := Value.slice.inj hve
    obtain ⟨b', o', v0, v1, v2, v3, hbe, hbB, hR, hC, o0, o1, o2, o3⟩ := hrow.open4 hk
    obtain ⟨rfl, rfl⟩ : b = b' ∧ o = o' := by simpa using hbe
    have HRM := hide hR
    obtain ⟨v1', v2', v3', hcs, -, -, -⟩ := hR
    simp only [List.cons.injEq, and_true] at hcs
    obtain ⟨rfl, rfl, rfl, rfl⟩ := hcs
    have X6 := hide (XY.out.trans XZ.out)
    have HCC4 := hide hC
    have GA := hide (fun (w' : World) (hx : Ext w w') => rAll_any B f[k] w' [.string f[k].name, v1, v2, v3] (HRM.out.ext hx hB) (Nat.le_trans hB hx.size) (by omega))
    have hal := allM_len (m := f[k])
    clear hwz hsp hbb hgb hve hbe hC hrow
    by_cases h64 : (64 : Int) ≤ (nm.size : Int)
    · go_wp2_with fail
      go_ret
      exact ⟨rfl, X6.out⟩
    obtain ⟨d0, d1, d2, d3⟩ := (HCC4.out.ext X6.out).get4
    go_wp2_with fail
    go_at_call 27
    refine (GA.out wz X6.out).mono ?_
    rintro _ w6 ⟨v6, rfl, hs6, hx6⟩
    have X7 := hide hx6
    have GM := hide (refAmong_any (allM f[k]) nm w6 v6 hs6 (by omega))
    have c6 := (BX.out.ext X7.out).get1
    obtain ⟨d0, d1, d2, d3⟩ := (HCC4.out.ext (X6.out.trans X7.out)).get4
    clear hs6 hx6 hVz
    go_wp2_with fail
    go_at_call 26
    refine GM.out.mono ?_
    rintro _ w7 ⟨rfl, h7⟩
    subst h7
    by_cases hin : nm ∈ allM f[k]
    · rw [yes_iff.2 hin]
      rcases (fresh_wire HCC.out hfew hk hnp).1 with hcg | hcg
      all_goals
        have GC := hide (fun (w' : World) (hx : Ext wy w') => ask_put GSL.out (HT.out.ext XY.out) hx HGS.out HGV.out)
        rw [hcg] at GC
        have g1 := (GBX.out.ext (XZ.out.trans X7.out)).get1
        clear hcg
        go_wp2_with fail
        go_at_call 10
        refine (GC.out _ (XZ.out.trans X7.out)).mono ?_
        rintro _ wk ⟨rfl, hxk⟩
        have XK := hide (X7.out.trans hxk)
        have g1 := (GBX.out.ext (XZ.out.trans XK.out)).get1
        clear hxk
        go_wp2_with (go_at_call 10; refine (GC.out _ (XZ.out.trans XK.out)).mono ?_; rintro _ wk ⟨rfl, hxk⟩; have XK := hide (XK.out.trans hxk); clear hxk g1)
        go_ret
        exact ⟨rfl, XY.out.trans (XZ.out.trans XK.out)⟩
    · rw [yes_no.2 hin]
      go_wp2_with fail
      go_at_call 27
      refine (GA.out w7 (X6.out.trans X7.out)).mono ?_
      rintro _ w8 ⟨v8, rfl, hs8, hx8⟩
      have X8 := hide (X7.out.trans hx8)
      have GM := hide (refAmong_any (allM f[k]) (nm ++ ⟨#[95]⟩) w8 v8 hs8 (by omega))
      clear hs8 hx8 c6 d0 d1 d2 d3
      go_wp2_with fail
      go_at_call 26
      refine GM.out.mono ?_
      rintro _ w9 ⟨rfl, h9⟩
      subst h9
      by_cases hin2 : (nm ++ ⟨#[95]⟩) ∈ allM f[k]
      · rw [yes_iff.2 hin2]
        rcases (fresh_wire HCC.out hfew hk hnp).1 with hcg | hcg
        all_goals
          have GC := hide (fun (w' : World) (hx : Ext wy w') => ask_put GSL.out (HT.out.ext XY.out) hx HGS.out HGV.out)
          rw [hcg] at GC
          have g1 := (GBX.out.ext (XZ.out.trans X8.out)).get1
          clear hcg
          go_wp2_with fail
          go_at_call 10
          refine (GC.out _ (XZ.out.trans X8.out)).mono ?_
          rintro _ wk ⟨rfl, hxk⟩
          have XK := hide (X8.out.trans hxk)
          have g1 := (GBX.out.ext (XZ.out.trans XK.out)).get1
          clear hxk
          go_wp2_with (go_at_call 10; refine (GC.out _ (XZ.out.trans XK.out)).mono ?_; rintro _ wk ⟨rfl, hxk⟩; have XK := hide (XK.out.trans hxk); clear hxk g1)
          go_ret
          exact ⟨rfl, XY.out.trans (XZ.out.trans XK.out)⟩
      · rw [yes_no.2 hin2]
        have hcg := (fresh_wire HCC.out hfew hk hnp).2 hin
        have hch := fresh_for HCC.out hfew hk hnp (under_fresh hnp (by omega)) (fun e => under_ne nm e.symm) hin hin2
        have GC := hide (fun (w' : World) (hx : Ext wy w') => ask_put GSL.out (HT.out.ext XY.out) hx HGS.out HGV.out)
        have GD := hide (fun (w' : World) (hx : Ext wz w') => ask_put HSL.out (HT.out.ext X6.out) hx HHS.out HHV.out)
        rw [hcg] at GC
        rw [hch] at GD
        have g1 := (GBX.out.ext (XZ.out.trans X8.out)).get1
        clear hcg hch
        go_wp2_with fail
        go_at_call 10
        refine (GC.out _ (XZ.out.trans X8.out)).mono ?_
        rintro _ wk ⟨rfl, hxk⟩
        have XK := hide (X8.out.trans hxk)
        have g2 := (HBX.out.ext XK.out).get1
        clear hxk g1
        go_wp2_with fail
        go_at_call 10
        refine (GD.out _ XK.out).mono ?_
        rintro _ wl ⟨rfl, hxl⟩
        have XL := hide (XK.out.trans hxl)
        clear hxl g2
        go_wp2_with fail
        go_ret
        exact ⟨rfl, X6.out.trans XL.out⟩

end Go.Proofs.YtjoglnjpgkobeaaGreatDoor

/-
  THE ROW AND THE CARD OF THE LAW NamesFresh: of every input of bulk at most 1048576 the law, run in the model from the tables that its row lists, returns true and leaves its arguments as they were. Conditions: those of the given statement, no others.
-/
namespace Go.Proofs.YtjoglnjpgkobeaaGreatDoor.namesFresh
open Go Go.ChangeShapes Go.WideShapes Go.ChangeAt Go.RowKit
set_option linter.all false
set_option linter.unusedVariables false
set_option linter.unusedSimpArgs false
set_option linter.unusedVariables false
set_option linter.unusedSimpArgs false

set_option maxRecDepth 100000 in
/-- WHAT THE WALK GIVES, OF EVERY ARGUMENT AND EVERY WORLD THAT HOLDS THE TABLES. -/
theorem contract (H : Type) (enc : TypeId × Value → H) (W : World) (base : Nat) (args : Array Value) (ds gs : List (DataW H)) (before : List MemPlace)
    (hval : ∀ (j : Nat) t v, Tryz.f6.params[j]? = some t → args[j]? = some v → Value.okWide Tryz.prog W .any base t v)
    (hW : DataW.Whole enc Tryz.prog Tryz.f6.params.toList Rows.namesFreshSpec.vars false W args.toList ds gs before) (hb : Rows.uptoSmall H (ds ++ gs) = true) (hL : laidMetH Tryz.prog Rows.namesFreshUptoRow.laid W) (hsh : W.ShapedOpen Tryz.prog) :
    Calls Tryz.prog 6 args W fun e W' => ∃ v, e = .returned v ∧ Rows.namesFreshSpec.post enc Tryz.prog Tryz.f6 false true false false W args v W' := by
  have hT : Tabs W := tabs_of hL hsh
  have hW' := hW
  obtain ⟨p, q, hA0, hV, rfl, -, -⟩ := hW
  have hA : DataW.TrodAll enc Tryz.prog W 0 (fun _ => true) true Tryz.f6.params.toList args.toList ds p := hA0
  rw [Tryz.params6] at hA
  have hval' := hval
  rw [Tryz.params6] at hval'
  obtain ⟨a0, vs0, d0, ds0, p0, q0, hargs, rfl, rfl, h0, r0⟩ := trodAll_cons hA
  obtain ⟨a1, vs1, d1, ds1, p1, q1, rfl, rfl, rfl, h1, r1⟩ := trodAll_cons r0
  obtain ⟨a2, vs2, d2, ds2, p2, q2, rfl, rfl, rfl, h2, r2⟩ := trodAll_cons r1
  obtain ⟨rfl, rfl, rfl⟩ := trodAll_nil r2
  obtain rfl : args = #[a0, a1, a2] := by cases args; simp_all
  obtain ⟨rfl, rfl⟩ := trodVars_none hV
  have hb' := small_all hb
  simp only [List.append_nil, Rows.uptoBulkAll] at hb'
  obtain ⟨f0, v0, rfl, s0, w0, z0⟩ := open_file hval' 0 rfl rfl h0 (by omega)
  obtain ⟨x1, rfl, -⟩ := open_int hval' 1 rfl rfl h1
  obtain ⟨x2, rfl, z2⟩ := open_str hval' 2 rfl rfl h2 (by omega)
  refine (lawNFresh_any W.heap.size f0 x1 x2 W v0 hT (Nat.le_refl _) s0 (by omega) w0 (by omega)).mono fun e W' he => ?_
  obtain ⟨rfl, hx⟩ := he
  exact ⟨_, rfl, post_true Tryz.underlying4 laidOut mapsIn full (s := Rows.namesFreshSpec) (ds := [d0, d1, d2]) (gs := []) rfl rfl (by rw [Tryz.params6]; decide) hW' rfl hx⟩

theorem reads (os : Os) {H : Type} (enc : TypeId × Value → H) : ∃ places, DataW.whole enc Tryz.prog ((laidWorld os).forCall (fun _ _ => 0) ⟨#[], #[zFile, .int .i64 0, (.string ⟨#[]⟩)], []⟩).memory Tryz.f6.params.toList Rows.namesFreshSpec.vars false (#[zFile, .int .i64 0, (.string ⟨#[]⟩)] : Array Value).toList 8 = some ([zFileD, .lit (.int .i64 0), (.lit (.string []))], [], places) :=
  ⟨[], by kernel_rfl⟩

set_option maxRecDepth 100000 in
theorem lifted (os : Os) (started : os.Started) (H : Type) (enc : TypeId × Value → H) (F : Stop.Interp) :
    ReturnsInHanded {} Tryz.checked os 6 .any ((Rows.OpenSpec.upto Rows.namesFreshSpec).preRow enc Tryz.prog Tryz.f6 Rows.namesFreshUptoRow.domain false Rows.namesFreshUptoRow.laid) (((Rows.OpenSpec.upto Rows.namesFreshSpec).at F).post enc Tryz.prog Tryz.f6 false true false false) := by
  obtain ⟨places, hx⟩ := reads os enc
  refine returnsInHanded_of_row (C := Tryz.checked) (s := Rows.OpenSpec.upto Rows.namesFreshSpec) ownNone started (by kernel_rfl) Tryz.func6
    (witness_row_at (enc := enc) (C := Tryz.checked) false (laidWorld os) #[zFile, .int .i64 0, (.string ⟨#[]⟩)] rfl (by kernel_rfl) (by kernel_rfl) (by kernel_rfl)
      (OpenSpec.preRow_of_cond 8 hx (by kernel_rfl) (fun k hk => by cases hk; kernel_rfl) (by kernel_rfl) (laid_met os _))) ?_
  intro W base args ds gs before hval hW _ hcond _ hL hsh _
  exact contract H enc W base args ds gs before hval hW (hcond _ rfl) hL hsh

theorem saidUpto : Rows.NamesFreshUptoSaid :=
  OpenClaim.holds_of_cond 6 Tryz.f6 rfl rfl rfl rfl rfl rfl rfl ⟨rfl, rfl, rfl, rfl, rfl⟩ rfl rfl rfl rfl rfl (by kernel_rfl) Tryz.func6 (by kernel_rfl)
    (of_decide_eq_true (by kernel_rfl)) (by unfold Func.isWrapper; first | (rw [if_pos (by decide +kernel)]; kernel_rfl) | (rw [if_neg (by decide +kernel)]; exact ⟨rfl, rfl⟩))
    (fun os started H enc _ F => by rw [OpenClaim.pre_eq_preRow]; exact lifted os started H enc F)

/-- No parameter wants a stand-in; the program's own looks are off. -/
theorem plain (f : FuncId) (fn : Func) (hf : Tryz.pinned.checked.prog.funcNamed "filigree/filigreelaw07.NamesFresh" = some f) (hfn : Tryz.pinned.checked.prog.funcs[f]? = some fn) :
    true = Tryz.pinned.checked.prog.looks [] ∧ ∀ (j : Nat) t, fn.params[j]? = some t → Tryz.pinned.checked.prog.wantsStandIn t = false := by
  obtain rfl : f = 6 := Option.some.inj ((show Tryz.prog.funcNamed "filigree/filigreelaw07.NamesFresh" = some 6 by kernel_rfl).symm.trans hf) |>.symm
  obtain rfl : fn = Tryz.f6 := (Option.some.inj (Tryz.func6.symm.trans hfn)).symm
  refine ⟨by kernel_rfl, fun j t ht => ?_⟩
  rw [Tryz.params6] at ht
  have hm := Array.mem_of_getElem? ht
  simp only [List.mem_toArray, List.mem_cons, List.not_mem_nil, or_false] at hm
  rcases hm with rfl | rfl | rfl
  · exact (show Tryz.prog.wantsStandIn 24 = false by kernel_rfl)
  · exact (show Tryz.prog.wantsStandIn 3 = false by kernel_rfl)
  · exact (show Tryz.prog.wantsStandIn 9 = false by kernel_rfl)

/-- THE CARD -/
theorem cardUpto : Rows.NamesFreshUptoCardSaid :=
  Claim7.holds_tied_plain_at .later [] _ _ _ _ saidUpto (fun _ h => by cases h) (by kernel_rfl) (fun _ h => by cases h) namesFreshUpto_row_tie rfl ⟨rfl, rfl⟩ (by kernel_rfl) rfl plain (by kernel_rfl)
end Go.Proofs.YtjoglnjpgkobeaaGreatDoor.namesFresh
