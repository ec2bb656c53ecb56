/-
  THE CONTRACTS OF THE REFERENCE's COUNTING FUNCTIONS: files.
-/
import Derived.Test.YtjoglnjpgkobeaaGreatDoorCntPk
namespace Go.Proofs.YtjoglnjpgkobeaaGreatDoor
open Go Go.RowKit
set_option linter.all false
set_option linter.unusedVariables false
set_option linter.unusedSimpArgs false
set_option linter.unusedVariables false
set_option linter.unusedSimpArgs false
attribute [local go_sem] run_store_one

set_option maxHeartbeats 2000000 in
theorem refSize_any (B : Nat) (l : List Mdl) (w : World) (v : Value) (hS : Sl (RM w B) w B 4 l v) (hB : B ≤ w.heap.size) (hsz : msize sizeM l ≤ 1000000000) :
    Calls Tryz.prog 30 #[.agg #[v]] w fun e w' => e = .returned (.int .i64 (msize sizeM l)) ∧ Ext w w' := by
  obtain ⟨a, cap, rfl, hcap, hrow⟩ := hS
  have hln := length_le_msize sizeM l sizeM_pos
  go_enter Tryz.func30, Tryz.ntmps30
  go_wp2_with fail
  obtain ⟨W0, hW0, hx0, hb0⟩ := box1 w (.slice a l.length cap) 24
  rw [← hW0]
  clear hW0
  go_loopw [3, 4] (fun r i wr => ∃ k : Nat, k ≤ l.length ∧ i = .int .i64 k ∧ r = .int .i64 (msize sizeM (l.take k) : Nat) ∧ Ext W0 wr) (fun _ i _ => l.length - (intOf i).toNat)
  case atStart => exact ⟨0, Nat.zero_le _, rfl, rfl, Ext.refl _⟩
  case round =>
    obtain ⟨k, hk, rfl, rfl, hxr⟩ := hrel
    have hx := hx0.trans hxr
    have c0 := (hb0.ext hxr).get1
    have hle := msize_take_le sizeM l k
    by_cases hlt : k < l.length
    · have hsu := msize_take_succ sizeM l k hlt
      have hs1 := msize_take_le sizeM l (k + 1)
      have hs2 := msize_mem sizeM l l[k] (List.getElem_mem hlt)
      have hss := msize_take_succ sizeM l k hlt
      obtain ⟨b, o, v0, v1, v2, v3, rfl, hbB, hE, hC, o0, o1, o2, o3⟩ := hrow.open4 hlt
      generalize l[k] = y at *
      obtain ⟨_, _, _, he, hP, hQ, hI⟩ := hE
      simp only [List.cons.injEq, and_true] at he
      obtain ⟨rfl, rfl, rfl, rfl⟩ := he
      obtain ⟨d0, d1, d2, d3⟩ := (hC.ext hx).get4
      have hdef : sizeM y = 1 + msize sizeB y.params + msize sizeP y.ports + msize sizeI y.items := rfl
      have hdd : deepM y = 1 + max (max (mdeep deepB y.params) (mdeep deepP y.ports)) (mdeep deepI y.items) := rfl
      have hB' : B ≤ wr.heap.size := by have := hx.size; omega
      have q1 : msize sizeB y.params ≤ 1000000000 := by omega
      have q2 : msize sizeI y.items ≤ 1000000000 := by omega
      have q3 : msize sizeP y.ports ≤ 1000000000 := by omega
      have p1 := deepBL_le y.params
      have p2 := deepIL_le y.items
      have p3 := deepPL_le y.ports
      have q4 : msize sizeM (l.take k) + 1 + msize sizeB y.params + msize sizeI y.items + msize sizeP y.ports ≤ 1000000000 := by omega
      have p4 := deepML_le (l.take k)
      have hpl := length_le_msize sizeP y.ports sizeP_pos
      have QQ := hide (show msize sizeM (l.take (k + 1)) = msize sizeM (l.take k) + 1 + msize sizeB y.params + msize sizeI y.items + msize sizeP y.ports by omega)
      generalize y.params = yp at *
      generalize y.ports = yq at *
      generalize y.items = yi at *
      generalize y.name = yn at *
      have k0 : (0 : Int) ≤ (k : Int) := by omega
      have k1 : (k : Int) < (l.length : Int) := by omega
      have HP := hide hP
      have HQ := hide hQ
      have HI := hide hI
      clear hrow hsu hss hdef hdd hs2 hP hQ hI hC
      go_wp2_with fail
      obtain ⟨W1, hW1, hx1, hb1⟩ := box4 wr (.string yn) v1 v2 v3 33
      rw [← hW1]
      clear hW1
      have hxw := hx.trans hx1
      obtain ⟨e0, e1, e2, e3⟩ := hb1.later4
      have HB := fun e : Later W1 => Nat.le_trans hB' (hx1.trans e.ext).size
      clear d0 d1 d2 d3
      refine wp_region_later (W := W1) (by kernel_rfl) (by kernel_rfl) (Ext.refl _) ?_
      repeat (go_big_quiet_step (first
        | (go_at_call 59; exact Later.calls (refSizeB_any B _ _ _ (HP.out.extRB (hxw.trans (Later.ext _)) hB) (HB _) q1))
        | (go_at_call 60; exact Later.calls (refSizeI_any B _ _ _ (HI.out.extRI (hxw.trans (Later.ext _)) hB) (HB _) q2))))
      refine wpQuiet_nil ?_
      rintro _ ⟨e, rfl⟩
      have hxe := hxw.trans e.ext
      obtain ⟨aq, cq, hvq, hcq, hrq⟩ := HQ.out.extRP hxe hB
      subst hvq
      have hbe := hb1.ext e.ext
      have hxo := (hxr.trans hx1).trans e.ext
      obtain ⟨W2, hW2⟩ : ∃ W2, W2 = e.w := ⟨_, rfl⟩
      rw [← hW2] at hxe hrq hbe hxo ⊢
      clear hW2 e e0 e1 e2 e3 HB hb1
      go_wp2_with fail
      go_loopw [3, 6] (fun r i wr => ∃ j : Nat, j ≤ yq.length ∧ i = .int .i64 j ∧ r = .int .i64 (msize sizeM (l.take k) + 1 + msize sizeB yp + msize sizeI yi + msize sizeP (yq.take j) : Nat) ∧ Ext W2 wr) (fun _ i _ => yq.length - (intOf i).toNat)
      case atStart => exact ⟨0, Nat.zero_le _, rfl, by simp [msize, mdeep], Ext.refl _⟩
      case round =>
        obtain ⟨j, hj, rfl, rfl, hx2⟩ := hrel
        obtain ⟨f0, f1, f2, f3⟩ := (hbe.ext hx2).get4
        have hle2 := msize_take_le sizeP yq j
        have hle3 := deepPL_le (yq.take j)
        by_cases hlt2 : j < yq.length
        · have hsu := msize_take_succ sizeP yq j hlt2
          have hss := msize_take_succ sizeP yq j hlt2
          have hs1 := msize_take_le sizeP yq (j + 1)
          obtain ⟨b2, o2, u0, u1, u2, u3, u4, u5, u6, u7, rfl, hb2, hE2, hC2, _⟩ := hrq.open8 hlt2
          generalize yq[j] = z at *
          obtain ⟨rfl, rfl, hX2⟩ := RP_iff.1 hE2
          obtain ⟨g0, g1, g2, g3, g4, g5, g6, g7⟩ := (hC2.ext hx2).get8
          have hxz := hX2.ext hx2 (by have := hxe.size; omega)
          have hz1 : sizeP z = 1 + sizeX z.w := rfl
          have hz2 : deepP z = 1 + deepX z.w := rfl
          have hz3 := deepX_le z.w
          have hz4 : sizeX z.w ≤ 1000000000 := by omega
          have hz5 : B ≤ W2.heap.size := by have := hxe.size; omega
          have SS := hide (show msize sizeP (yq.take (j + 1)) = msize sizeP (yq.take j) + 1 + sizeX z.w by omega)
          have hb9 : msize sizeM (l.take k) + 1 + msize sizeB yp + msize sizeI yi + msize sizeP (yq.take j) + 1 + sizeX z.w ≤ 1000000000 := by omega
          clear hsu hss hz1 hz2 hX2 hE2 hC2 hrq QQ
          go_wp2_with fail
          refine (refSizeX_any B z.w wr _ hxz (by have := hx2.size; omega) hz4).mono ?_
          rintro e w' ⟨rfl, hb'⟩
          go_wp2_with fail
          all_goals
            go_roundw
            case rel => exact ⟨j + 1, by omega, by go_num, by rw [SS.out]; go_num, hx2.trans hb'⟩
            case measure => simp [intOf]; omega
        · have : j = yq.length := by omega
          subst this
          go_wp2_with fail
          go_roundw
          case rel => exact ⟨k + 1, by omega, by go_num, by rw [QQ.out]; simp, hxo.trans hx2⟩
          case measure => simp [intOf]; omega
    · go_wp2_with fail
      go_ret
      have : k = l.length := by omega
      subst this
      exact ⟨by simp, hx⟩

theorem iteMax1 (a b : Nat) : (if a < b then (b : Int) else (a : Int)) = ((max a b : Nat) : Int) := by split <;> omega
theorem iteMax2 (a b : Nat) : (if (a : Int) < 1 + (b : Int) then 1 + (b : Int) else (a : Int)) = ((max a (1 + b) : Nat) : Int) := by split <;> omega

set_option maxHeartbeats 2000000 in
theorem refDeep_any (B : Nat) (l : List Mdl) (w : World) (v : Value) (hS : Sl (RM w B) w B 4 l v) (hB : B ≤ w.heap.size) (hsz : msize sizeM l ≤ 1000000000) :
    Calls Tryz.prog 31 #[.agg #[v]] w fun e w' => e = .returned (.int .i64 (mdeep deepM l)) ∧ Ext w w' := by
  obtain ⟨a, cap, rfl, hcap, hrow⟩ := hS
  have hln := length_le_msize sizeM l sizeM_pos
  go_enter Tryz.func31, Tryz.ntmps31
  go_wp2_with fail
  obtain ⟨W0, hW0, hx0, hb0⟩ := box1 w (.slice a l.length cap) 24
  rw [← hW0]
  clear hW0
  go_loopw [3, 4] (fun r i wr => ∃ k : Nat, k ≤ l.length ∧ i = .int .i64 k ∧ r = .int .i64 (mdeep deepM (l.take k) : Nat) ∧ Ext W0 wr) (fun _ i _ => l.length - (intOf i).toNat)
  case atStart => exact ⟨0, Nat.zero_le _, rfl, rfl, Ext.refl _⟩
  case round =>
    obtain ⟨k, hk, rfl, rfl, hxr⟩ := hrel
    have hx := hx0.trans hxr
    have c0 := (hb0.ext hxr).get1
    have hle := msize_take_le sizeM l k
    by_cases hlt : k < l.length
    · have hsu := mdeep_take_succ deepM l k hlt
      have hs1 := msize_take_le sizeM l (k + 1)
      have hs2 := msize_mem sizeM l l[k] (List.getElem_mem hlt)
      have hss := msize_take_succ sizeM l k hlt
      obtain ⟨b, o, v0, v1, v2, v3, rfl, hbB, hE, hC, o0, o1, o2, o3⟩ := hrow.open4 hlt
      generalize l[k] = y at *
      obtain ⟨_, _, _, he, hP, hQ, hI⟩ := hE
      simp only [List.cons.injEq, and_true] at he
      obtain ⟨rfl, rfl, rfl, rfl⟩ := he
      obtain ⟨d0, d1, d2, d3⟩ := (hC.ext hx).get4
      have hdef : sizeM y = 1 + msize sizeB y.params + msize sizeP y.ports + msize sizeI y.items := rfl
      have hdd : deepM y = 1 + max (max (mdeep deepB y.params) (mdeep deepP y.ports)) (mdeep deepI y.items) := rfl
      have hB' : B ≤ wr.heap.size := by have := hx.size; omega
      have q1 : msize sizeB y.params ≤ 1000000000 := by omega
      have q2 : msize sizeI y.items ≤ 1000000000 := by omega
      have q3 : msize sizeP y.ports ≤ 1000000000 := by omega
      have p1 := deepBL_le y.params
      have p2 := deepIL_le y.items
      have p3 := deepPL_le y.ports
      have q4 : msize sizeM (l.take k) + 1 + msize sizeB y.params + msize sizeI y.items + msize sizeP y.ports ≤ 1000000000 := by omega
      have p4 := deepML_le (l.take k)
      have hpl := length_le_msize sizeP y.ports sizeP_pos
      have QQ := hide (show mdeep deepM (l.take (k + 1)) = max (max (mdeep deepM (l.take k)) (1 + max (mdeep deepB y.params) (mdeep deepI y.items))) (if y.ports.length = 0 then 0 else 1 + mdeep deepP y.ports) by
        rw [hsu, hdd]
        split
        · rename_i h0
          rw [List.eq_nil_of_length_eq_zero h0]
          simp only [mdeep]; omega
        · omega)
      generalize y.params = yp at *
      generalize y.ports = yq at *
      generalize y.items = yi at *
      generalize y.name = yn at *
      have k0 : (0 : Int) ≤ (k : Int) := by omega
      have k1 : (k : Int) < (l.length : Int) := by omega
      have HP := hide hP
      have HQ := hide hQ
      have HI := hide hI
      clear hrow hsu hss hdef hdd hs2 hP hQ hI hC
      go_wp2_with fail
      obtain ⟨W1, hW1, hx1, hb1⟩ := box4 wr (.string yn) v1 v2 v3 33
      rw [← hW1]
      clear hW1
      have hxw := hx.trans hx1
      obtain ⟨e0, e1, e2, e3⟩ := hb1.later4
      have HB := fun e : Later W1 => Nat.le_trans hB' (hx1.trans e.ext).size
      clear d0 d1 d2 d3
      refine wp_region_later (W := W1) (by kernel_rfl) (by kernel_rfl) (Ext.refl _) ?_
      repeat (go_big_quiet_step (first
        | (go_at_call 62; exact Later.calls (refDeepB_any B _ _ _ (HP.out.extRB (hxw.trans (Later.ext _)) hB) (HB _) q1))
        | (go_at_call 63; exact Later.calls (refDeepI_any B _ _ _ (HI.out.extRI (hxw.trans (Later.ext _)) hB) (HB _) q2))))
      refine wpQuiet_nil ?_
      rintro _ ⟨e, rfl⟩
      simp only [iteMax1, iteMax2]
      have hxe := hxw.trans e.ext
      obtain ⟨aq, cq, hvq, hcq, hrq⟩ := HQ.out.extRP hxe hB
      subst hvq
      have hbe := hb1.ext e.ext
      have hxo := (hxr.trans hx1).trans e.ext
      obtain ⟨W2, hW2⟩ : ∃ W2, W2 = e.w := ⟨_, rfl⟩
      rw [← hW2] at hxe hrq hbe hxo ⊢
      clear hW2 e e0 e1 e2 e3 HB hb1
      go_wp2_with fail
      go_loopw [3, 6] (fun r i wr => ∃ j : Nat, j ≤ yq.length ∧ i = .int .i64 j ∧ r = .int .i64 (max (max (mdeep deepM (l.take k)) (1 + max (mdeep deepB yp) (mdeep deepI yi))) (if j = 0 then 0 else 1 + mdeep deepP (yq.take j)) : Nat) ∧ Ext W2 wr) (fun _ i _ => yq.length - (intOf i).toNat)
      case atStart => exact ⟨0, Nat.zero_le _, rfl, by simp [msize, mdeep], Ext.refl _⟩
      case round =>
        obtain ⟨j, hj, rfl, rfl, hx2⟩ := hrel
        obtain ⟨f0, f1, f2, f3⟩ := (hbe.ext hx2).get4
        have hle2 := msize_take_le sizeP yq j
        have hle3 := deepPL_le (yq.take j)
        by_cases hlt2 : j < yq.length
        · have hsu := mdeep_take_succ deepP yq j hlt2
          have hss := msize_take_succ sizeP yq j hlt2
          have hs1 := msize_take_le sizeP yq (j + 1)
          obtain ⟨b2, o2, u0, u1, u2, u3, u4, u5, u6, u7, rfl, hb2, hE2, hC2, _⟩ := hrq.open8 hlt2
          generalize yq[j] = z at *
          obtain ⟨rfl, rfl, hX2⟩ := RP_iff.1 hE2
          obtain ⟨g0, g1, g2, g3, g4, g5, g6, g7⟩ := (hC2.ext hx2).get8
          have hxz := hX2.ext hx2 (by have := hxe.size; omega)
          have hz1 : sizeP z = 1 + sizeX z.w := rfl
          have hz2 : deepP z = 1 + deepX z.w := rfl
          have hz3 := deepX_le z.w
          have hz4 : sizeX z.w ≤ 1000000000 := by omega
          have hz5 : B ≤ W2.heap.size := by have := hxe.size; omega
          have SS := hide (show max (max (mdeep deepM (l.take k)) (1 + max (mdeep deepB yp) (mdeep deepI yi))) (if j + 1 = 0 then 0 else 1 + mdeep deepP (yq.take (j + 1))) = max (max (max (mdeep deepM (l.take k)) (1 + max (mdeep deepB yp) (mdeep deepI yi))) (if j = 0 then 0 else 1 + mdeep deepP (yq.take j))) (2 + deepX z.w) by
            rw [if_neg (Nat.succ_ne_zero j)]
            split
            · rename_i h0
              subst h0
              simp only [List.take_zero, mdeep] at hsu
              omega
            · omega)
          have hb9 : max (max (mdeep deepM (l.take k)) (1 + max (mdeep deepB yp) (mdeep deepI yi))) (if j = 0 then 0 else 1 + mdeep deepP (yq.take j)) ≤ 1000000001 := by split <;> omega
          generalize max (max (mdeep deepM (l.take k)) (1 + max (mdeep deepB yp) (mdeep deepI yi))) (if j = 0 then 0 else 1 + mdeep deepP (yq.take j)) = acc at *
          clear hsu hss hz1 hz2 hX2 hE2 hC2 hrq QQ
          go_wp2_with fail
          refine (refDeepX_any B z.w wr _ hxz (by have := hx2.size; omega) hz4).mono ?_
          rintro e w' ⟨rfl, hb'⟩
          go_wp2_with fail
          all_goals
            go_roundw
            case rel => exact ⟨j + 1, by omega, by go_num, by rw [SS.out]; congr 1; omega, hx2.trans hb'⟩
            case measure => simp [intOf]; omega
        · have : j = yq.length := by omega
          subst this
          go_wp2_with fail
          go_roundw
          case rel => exact ⟨k + 1, by omega, by go_num, by rw [QQ.out]; simp, hxo.trans hx2⟩
          case measure => simp [intOf]; omega
    · go_wp2_with fail
      go_ret
      have : k = l.length := by omega
      subst this
      exact ⟨by simp, hx⟩

end Go.Proofs.YtjoglnjpgkobeaaGreatDoor
