/-
  CHAPTER 06's live, in memory.
-/
import Derived.Test.YtonbgnaopkopoaaDoorKexPPk
import Derived.Test.YtonbgnaopkopoaaDoorFactsGPk
namespace Go.Proofs.YtonbgnaopkopoaaDoor
open Go Go.RowKit
set_option linter.all false
set_option linter.unusedVariables false
set_option linter.unusedSimpArgs false
set_option linter.unusedVariables false
set_option linter.unusedSimpArgs false
attribute [local go_sem] run_store_one

/-- What is known of the values of a region that makes an operation, and asks what it is. -/
def binF (cn : List Value) (x : X) (op k a er : Int) (E : Value) (i : Nat) (v : Value) (w : World) : Prop := match i with
  | 0 => v = .agg cn.toArray
  | 1 => v = .agg #[.int .i64 1, .string ⟨#[]⟩, .int .i64 0, .int .i64 0, .int .u64 k, .slice none 0 0]
  | 2 => ∃ q, v = .agg #[.int .i64 6, .string ⟨#[]⟩, .int .i64 op, .int .i64 0, .int .u64 0, .slice (some ⟨q, 0, none⟩) 2 2] ∧ RX w w.heap.size (xBin op x (xN k)) [.int .i64 6, .string ⟨#[]⟩, .int .i64 op, .int .i64 0, .int .u64 0, .slice (some ⟨q, 0, none⟩) 2 2]
  | 3 => v = E
  | 4 => v = .tuple #[.int .i64 a, .int .i64 er]
  | 5 => v = .tuple #[.int .i64 a, .int .i64 er]
  | 6 => v = .int .i64 a
  | 7 => v = .int .i64 er
  | 8 => v = .int .i64 a
  | 9 => v = .int .i64 er
  | _ => True
theorem binF_ext {cn : List Value} {x : X} {op k a er : Int} {E v : Value} {i : Nat} {w w' : World} (h : binF cn x op k a er E i v w) (hx : Ext w w') : binF cn x op k a er E i v w' := by
  unfold binF at *
  split at h
  case h_3 => obtain ⟨q, h1, h2⟩ := h; exact ⟨q, h1, (h2.ext hx (Nat.le_refl _)).more hx.size⟩
  all_goals exact h

set_option maxRecDepth 20000 in
set_option maxHeartbeats 4000000 in
theorem live6_any (w : World) (hT : Tabs w) : Calls Tryd.prog 12 #[] w fun e w' => e = .returned (.bool true) ∧ Ext w w' := by
  have HT := hide hT
  obtain ⟨Wa, hWa⟩ : ∃ Wa, Wa = w.alloc (.cells #[.string ⟨#[78]⟩, .int .i64 9, .string ⟨#[78]⟩, .int .i64 3] 57) := ⟨_, rfl⟩
  have hxa : Ext w Wa := by rw [hWa]; exact Ext.new _ _
  have hba : Blk Wa w.heap.size 57 ([.string tN, .int .i64 9] ++ [.string tN, .int .i64 3]) := by rw [hWa]; exact Blk.new w _ [_, _, _, _]
  obtain ⟨Wb, hWb, hxb, hbb⟩ := box6 Wa (.int .i64 0) (.string ⟨#[]⟩) (.int .i64 0) (.int .i64 0) (.int .u64 0) (.slice none 0 0) 25
  obtain ⟨m0, m1, m2, m3, m4, m5⟩ := hbb.get6
  obtain ⟨n0, n1, n2, n3, n4, n5⟩ := hbb.free6
  have za : Wa.heap.size = w.heap.size + 1 := by rw [hWa]; simp
  obtain ⟨Wc, hWc⟩ : ∃ Wc, Wc = (((((Wb.setCell ⟨Wa.heap.size, 0, none⟩ (.int .i64 2)).setCell ⟨Wa.heap.size, 1, none⟩ (.string ⟨#[78]⟩)).setCell ⟨Wa.heap.size, 2, none⟩ (.int .i64 0)).setCell ⟨Wa.heap.size, 3, none⟩ (.int .i64 0)).setCell ⟨Wa.heap.size, 4, none⟩ (.int .u64 0)).setCell ⟨Wa.heap.size, 5, none⟩ (.slice none 0 0) := ⟨_, rfl⟩
  have hbc := hbb.store6 (.int .i64 2) (.string ⟨#[78]⟩) (.int .i64 0) (.int .i64 0) (.int .u64 0) (.slice none 0 0)
  rw [← hWc] at hbc
  have hac : Ext Wa Wc := by rw [hWc]; exact (((((hxb.setCell (Nat.le_refl _) _).setCell (Nat.le_refl _) _).setCell (Nat.le_refl _) _).setCell (Nat.le_refl _) _).setCell (Nat.le_refl _) _).setCell (Nat.le_refl _) _
  have hxc := hxa.trans hac
  have hbac := hba.ext hac
  have HENV := hide (show ∀ w', Ext Wc w' → Sl RNm w' Wc.heap.size 2 env6 (.slice (some ⟨w.heap.size, 0, none⟩) 2 2) from fun w' hw => Sl.extN (Sl.two hbac.lt rfl rfl hbac.cells (by intro v hv; simp only [List.cons_append, List.nil_append, List.mem_cons, List.not_mem_nil, or_false] at hv; rcases hv with rfl | rfl | rfl | rfl <;> rfl) rfl rfl) hw (Nat.le_refl _))
  have HC := hide hbc
  have Q0C := hide hxc
  have hVa := hWa.symm
  have hVb := hWb.symm
  have hVc := hWc.symm
  obtain ⟨c0, c1, c2, c3, c4, c5⟩ := hbc.later6
  have KEV := hide (show ∀ (x : X) (cs : List Value) (w' : World) (pr : Int × Int), Ext Wc w' → RX w' w'.heap.size x cs → sizeX x ≤ 1000000000 → VX x → evalW env6 x = pr → Calls Tryd.prog 14 #[.agg cs.toArray, .slice (some ⟨w.heap.size, 0, none⟩) 2 2] w' fun e w'' => e = .returned (.tuple #[.int .i64 pr.1, .int .i64 pr.2]) ∧ Ext w' w'' from
    fun x cs w' pr hw hR hs hv he => he ▸ kEval_any w'.heap.size env6 x w' _ cs (HT.out.ext (Q0C.out.trans hw)) hR ((HENV.out w' hw).keep (fun p hp => rfl) hw.size (fun _ _ _ h => h)) (Nat.le_refl _) hs hv (by decide))
  have RNN := hide (show ∀ w', Ext Wc w' → RX w' w'.heap.size (xNm tN) (cNm tN) from fun w' _ => rx_nm tN)
  clear hT hWa hWb hWc hxa hxb hba hbb hbc hac hxc hbac za
  generalize hge : w.heap.size = ge at *
  go_enter Tryd.func12, Tryd.ntmps12
  go_wp2_with fail
  refine wp_region_facts (W := Wc) (binF (cNm tN) (xNm tN) 14 1 4 0 (.slice (some ⟨ge, 0, none⟩) 2 2)) (by kernel_rfl) (by kernel_rfl) (Ext.refl _) (fun i v w w' h hx => binF_ext h hx) ?_ ?_
  · refine ⟨?_, ?_, ?_, ?_, ?_, ?_, ?_, ?_, ?_, ?_, trivial⟩
    · intro A wa hxa hd h0
      have e1 := rest_at h0 2 (by kernel_rfl)
      simp at e1
      obtain ⟨d0, d1, d2, d3, d4, d5⟩ := (HC.out.ext hxa).get6
      clear hd h0
      go_simp
      first | exact ⟨_, rfl, Ext.refl _, rfl⟩ | exact ⟨Ext.refl _, rfl⟩ | exact Ext.refl _ | rfl
    · intro A wa hxa hd h0
      clear hd h0
      go_simp
      refine (num_any 1 wa (by decide) (by decide)).mono ?_
      rintro e w2 ⟨rfl, hx⟩
      go_simp
      first | exact ⟨_, rfl, rfl⟩ | exact ⟨_, rfl, hx, rfl⟩
    · intro A wa hxa hd h0
      have q0 := depOn hd 0 23 (by rfl) rfl
      have q1 := depOn hd 1 24 (by rfl) rfl
      simp [binF] at q0 q1
      clear hd h0
      go_simp
      refine (bin_any wa.heap.size 14 (xNm tN) (xN 1) wa (cNm tN) _ (RNN.out wa hxa) (rx_num2 1) (Nat.le_refl _)).mono ?_
      rintro e w2 ⟨q, rfl, hR, hx⟩
      go_simp
      first | exact ⟨_, rfl, q, rfl, hR⟩ | exact ⟨_, rfl, hx, q, rfl, hR⟩
    · intro A wa hxa hd h0
      have e1 := rest_at h0 1 (by kernel_rfl)
      simp at e1
      clear hd h0
      go_simp
      first | exact ⟨_, rfl, Ext.refl _, rfl⟩ | exact ⟨Ext.refl _, rfl⟩ | exact Ext.refl _ | rfl
    · intro A wa hxa hd h0
      obtain ⟨q, q0, hR⟩ := depOn hd 2 25 (by rfl) rfl
      have q1 := depOn hd 3 26 (by rfl) rfl
      simp [binF] at q0 q1
      clear hd h0
      go_simp
      refine (KEV.out _ _ wa (4, 0) hxa hR (by rw [size_xBin, size_xNm, size_xN]; decide) (vx_xBin (vx_nm (by decide)) (vx_xN (by decide) (by decide))) (by rw [evalW_ex (by decide) (by decide) (by decide)]; decide)).mono ?_
      rintro e w2 ⟨rfl, hx⟩
      go_simp
      first | exact ⟨_, rfl, rfl⟩ | exact ⟨_, rfl, hx, rfl⟩
    · intro A wa hxa hd h0
      have q0 := depOn hd 4 27 (by rfl) rfl
      simp [binF] at q0
      clear hd h0
      go_simp
      first | exact ⟨_, rfl, Ext.refl _, rfl⟩ | exact ⟨Ext.refl _, rfl⟩ | exact Ext.refl _ | rfl
    · intro A wa hxa hd h0
      have q0 := depOn hd 5 22 (by rfl) rfl
      simp [binF] at q0
      clear hd h0
      go_simp
      first | exact ⟨_, rfl, Ext.refl _, rfl⟩ | exact ⟨Ext.refl _, rfl⟩ | exact Ext.refl _ | rfl
    · intro A wa hxa hd h0
      have q0 := depOn hd 5 22 (by rfl) rfl
      simp [binF] at q0
      clear hd h0
      go_simp
      first | exact ⟨_, rfl, Ext.refl _, rfl⟩ | exact ⟨Ext.refl _, rfl⟩ | exact Ext.refl _ | rfl
    · intro A wa hxa hd h0
      have q0 := depOn hd 6 28 (by rfl) rfl
      simp [binF] at q0
      clear hd h0
      go_simp
      first | exact ⟨_, rfl, Ext.refl _, rfl⟩ | exact ⟨Ext.refl _, rfl⟩ | exact Ext.refl _ | rfl
    · intro A wa hxa hd h0
      have q0 := depOn hd 7 29 (by rfl) rfl
      simp [binF] at q0
      clear hd h0
      go_simp
      first | exact ⟨_, rfl, Ext.refl _, rfl⟩ | exact ⟨Ext.refl _, rfl⟩ | exact Ext.refl _ | rfl
  · intro A wa hk
    obtain ⟨hxw1, hsz, hdf, hdn, hrs⟩ := hk
    have ta := hdn 8 3 rfl rfl
    have tb := hdn 9 4 rfl rfl
    have k0 := rest_at hrs 0 (by kernel_rfl)
    have k1 := rest_at hrs 1 (by kernel_rfl)
    have k2 := rest_at hrs 2 (by kernel_rfl)
    clear hdn hrs
    rw [act_lit hsz hdf]
    simp [binF, List.range, List.range.loop] at ta tb k0 k1 k2
    simp [List.range, List.range.loop, ta, tb, k0, k1, k2]
    clear ta tb k0 k1 k2 hsz hdf
    generalize A.tmps[5]?.getD undef = A5 at *
    generalize A.tmps[6]?.getD undef = A6 at *
    generalize A.tmps[7]?.getD undef = A7 at *
    generalize A.tmps[8]?.getD undef = A8 at *
    generalize A.tmps[9]?.getD undef = A9 at *
    generalize A.tmps[10]?.getD undef = A10 at *
    generalize A.tmps[11]?.getD undef = A11 at *
    generalize A.tmps[12]?.getD undef = A12 at *
    generalize A.tmps[13]?.getD undef = A13 at *
    generalize A.tmps[14]?.getD undef = A14 at *
    generalize A.tmps[15]?.getD undef = A15 at *
    generalize A.tmps[16]?.getD undef = A16 at *
    generalize A.tmps[17]?.getD undef = A17 at *
    generalize A.tmps[18]?.getD undef = A18 at *
    generalize A.tmps[19]?.getD undef = A19 at *
    generalize A.tmps[20]?.getD undef = A20 at *
    generalize A.tmps[21]?.getD undef = A21 at *
    generalize A.tmps[22]?.getD undef = A22 at *
    generalize A.tmps[23]?.getD undef = A23 at *
    generalize A.tmps[24]?.getD undef = A24 at *
    generalize A.tmps[25]?.getD undef = A25 at *
    generalize A.tmps[26]?.getD undef = A26 at *
    generalize A.tmps[27]?.getD undef = A27 at *
    generalize A.tmps[28]?.getD undef = A28 at *
    generalize A.tmps[29]?.getD undef = A29 at *
    generalize A.tmps[30]?.getD undef = A30 at *
    generalize A.tmps[31]?.getD undef = A31 at *
    generalize A.tmps[32]?.getD undef = A32 at *
    generalize A.tmps[33]?.getD undef = A33 at *
    generalize A.tmps[34]?.getD undef = A34 at *
    generalize A.tmps[35]?.getD undef = A35 at *
    generalize A.tmps[36]?.getD undef = A36 at *
    generalize A.tmps[37]?.getD undef = A37 at *
    generalize A.tmps[38]?.getD undef = A38 at *
    generalize A.tmps[39]?.getD undef = A39 at *
    generalize A.tmps[40]?.getD undef = A40 at *
    generalize A.tmps[41]?.getD undef = A41 at *
    generalize A.tmps[42]?.getD undef = A42 at *
    generalize A.tmps[43]?.getD undef = A43 at *
    generalize A.tmps[44]?.getD undef = A44 at *
    generalize A.tmps[45]?.getD undef = A45 at *
    generalize A.tmps[46]?.getD undef = A46 at *
    generalize A.tmps[47]?.getD undef = A47 at *
    generalize A.tmps[48]?.getD undef = A48 at *
    generalize A.tmps[49]?.getD undef = A49 at *
    generalize A.tmps[50]?.getD undef = A50 at *
    generalize A.tmps[51]?.getD undef = A51 at *
    generalize A.tmps[52]?.getD undef = A52 at *
    generalize A.tmps[53]?.getD undef = A53 at *
    generalize A.tmps[54]?.getD undef = A54 at *
    generalize A.tmps[55]?.getD undef = A55 at *
    generalize A.tmps[56]?.getD undef = A56 at *
    generalize A.tmps[57]?.getD undef = A57 at *
    generalize A.tmps[58]?.getD undef = A58 at *
    generalize A.tmps[59]?.getD undef = A59 at *
    generalize A.tmps[60]?.getD undef = A60 at *
    generalize A.tmps[61]?.getD undef = A61 at *
    generalize A.tmps[62]?.getD undef = A62 at *
    generalize A.tmps[63]?.getD undef = A63 at *
    generalize A.tmps[64]?.getD undef = A64 at *
    generalize A.tmps[65]?.getD undef = A65 at *
    generalize A.tmps[66]?.getD undef = A66 at *
    generalize A.tmps[67]?.getD undef = A67 at *
    generalize A.tmps[68]?.getD undef = A68 at *
    generalize A.tmps[69]?.getD undef = A69 at *
    generalize A.tmps[70]?.getD undef = A70 at *
    generalize A.tmps[71]?.getD undef = A71 at *
    generalize A.tmps[72]?.getD undef = A72 at *
    generalize A.tmps[73]?.getD undef = A73 at *
    generalize A.tmps[74]?.getD undef = A74 at *
    generalize A.tmps[75]?.getD undef = A75 at *
    generalize A.tmps[76]?.getD undef = A76 at *
    generalize A.tmps[77]?.getD undef = A77 at *
    generalize A.tmps[78]?.getD undef = A78 at *
    generalize A.tmps[79]?.getD undef = A79 at *
    generalize A.tmps[80]?.getD undef = A80 at *
    generalize A.tmps[81]?.getD undef = A81 at *
    generalize A.tmps[82]?.getD undef = A82 at *
    generalize A.tmps[83]?.getD undef = A83 at *
    generalize A.tmps[84]?.getD undef = A84 at *
    generalize A.tmps[85]?.getD undef = A85 at *
    generalize A.tmps[86]?.getD undef = A86 at *
    generalize A.tmps[87]?.getD undef = A87 at *
    generalize A.tmps[88]?.getD undef = A88 at *
    generalize A.tmps[89]?.getD undef = A89 at *
    generalize A.tmps[90]?.getD undef = A90 at *
    generalize A.tmps[91]?.getD undef = A91 at *
    generalize A.tmps[92]?.getD undef = A92 at *
    generalize A.tmps[93]?.getD undef = A93 at *
    generalize A.tmps[94]?.getD undef = A94 at *
    generalize A.tmps[95]?.getD undef = A95 at *
    generalize A.tmps[96]?.getD undef = A96 at *
    generalize A.tmps[97]?.getD undef = A97 at *
    generalize A.tmps[98]?.getD undef = A98 at *
    generalize A.tmps[99]?.getD undef = A99 at *
    generalize A.tmps[100]?.getD undef = A100 at *
    generalize A.tmps[101]?.getD undef = A101 at *
    generalize A.tmps[102]?.getD undef = A102 at *
    generalize A.tmps[103]?.getD undef = A103 at *
    generalize A.tmps[104]?.getD undef = A104 at *
    generalize A.tmps[105]?.getD undef = A105 at *
    generalize A.tmps[106]?.getD undef = A106 at *
    generalize A.tmps[107]?.getD undef = A107 at *
    generalize A.tmps[108]?.getD undef = A108 at *
    generalize A.tmps[109]?.getD undef = A109 at *
    generalize A.tmps[110]?.getD undef = A110 at *
    generalize A.tmps[111]?.getD undef = A111 at *
    generalize A.tmps[112]?.getD undef = A112 at *
    generalize A.tmps[113]?.getD undef = A113 at *
    generalize A.tmps[114]?.getD undef = A114 at *
    generalize A.tmps[115]?.getD undef = A115 at *
    generalize A.tmps[116]?.getD undef = A116 at *
    generalize A.tmps[117]?.getD undef = A117 at *
    generalize A.tmps[118]?.getD undef = A118 at *
    generalize A.tmps[119]?.getD undef = A119 at *
    generalize A.tmps[120]?.getD undef = A120 at *
    generalize A.tmps[121]?.getD undef = A121 at *
    generalize A.tmps[122]?.getD undef = A122 at *
    generalize A.tmps[123]?.getD undef = A123 at *
    generalize A.tmps[124]?.getD undef = A124 at *
    generalize A.tmps[125]?.getD undef = A125 at *
    generalize A.tmps[126]?.getD undef = A126 at *
    generalize A.tmps[127]?.getD undef = A127 at *
    generalize A.tmps[128]?.getD undef = A128 at *
    generalize A.tmps[129]?.getD undef = A129 at *
    generalize A.tmps[130]?.getD undef = A130 at *
    generalize A.tmps[131]?.getD undef = A131 at *
    go_wp2_with fail
    refine wp_region_facts (W := Wc) (binF (cNm tN) (xNm tN) 15 4 0 62 (.slice (some ⟨ge, 0, none⟩) 2 2)) (by kernel_rfl) (by kernel_rfl) (hxw1) (fun i v w w' h hx => binF_ext h hx) ?_ ?_
    · refine ⟨?_, ?_, ?_, ?_, ?_, ?_, ?_, ?_, ?_, ?_, trivial⟩
      · intro A wa hxa hd h0
        have e1 := rest_at h0 2 (by kernel_rfl)
        simp at e1
        obtain ⟨d0, d1, d2, d3, d4, d5⟩ := (HC.out.ext hxa).get6
        clear hd h0
        go_simp
        first | exact ⟨_, rfl, Ext.refl _, rfl⟩ | exact ⟨Ext.refl _, rfl⟩ | exact Ext.refl _ | rfl
      · intro A wa hxa hd h0
        clear hd h0
        go_simp
        refine (num_any 4 wa (by decide) (by decide)).mono ?_
        rintro e w2 ⟨rfl, hx⟩
        go_simp
        first | exact ⟨_, rfl, rfl⟩ | exact ⟨_, rfl, hx, rfl⟩
      · intro A wa hxa hd h0
        have q0 := depOn hd 0 31 (by rfl) rfl
        have q1 := depOn hd 1 32 (by rfl) rfl
        simp [binF] at q0 q1
        clear hd h0
        go_simp
        refine (bin_any wa.heap.size 15 (xNm tN) (xN 4) wa (cNm tN) _ (RNN.out wa hxa) (rx_num2 4) (Nat.le_refl _)).mono ?_
        rintro e w2 ⟨q, rfl, hR, hx⟩
        go_simp
        first | exact ⟨_, rfl, q, rfl, hR⟩ | exact ⟨_, rfl, hx, q, rfl, hR⟩
      · intro A wa hxa hd h0
        have e1 := rest_at h0 1 (by kernel_rfl)
        simp at e1
        clear hd h0
        go_simp
        first | exact ⟨_, rfl, Ext.refl _, rfl⟩ | exact ⟨Ext.refl _, rfl⟩ | exact Ext.refl _ | rfl
      · intro A wa hxa hd h0
        obtain ⟨q, q0, hR⟩ := depOn hd 2 33 (by rfl) rfl
        have q1 := depOn hd 3 34 (by rfl) rfl
        simp [binF] at q0 q1
        clear hd h0
        go_simp
        refine (KEV.out _ _ wa (0, 62) hxa hR (by rw [size_xBin, size_xNm, size_xN]; decide) (vx_xBin (vx_nm (by decide)) (vx_xN (by decide) (by decide))) (by rw [evalW_ex (by decide) (by decide) (by decide)]; decide)).mono ?_
        rintro e w2 ⟨rfl, hx⟩
        go_simp
        first | exact ⟨_, rfl, rfl⟩ | exact ⟨_, rfl, hx, rfl⟩
      · intro A wa hxa hd h0
        have q0 := depOn hd 4 35 (by rfl) rfl
        simp [binF] at q0
        clear hd h0
        go_simp
        first | exact ⟨_, rfl, Ext.refl _, rfl⟩ | exact ⟨Ext.refl _, rfl⟩ | exact Ext.refl _ | rfl
      · intro A wa hxa hd h0
        have q0 := depOn hd 5 30 (by rfl) rfl
        simp [binF] at q0
        clear hd h0
        go_simp
        first | exact ⟨_, rfl, Ext.refl _, rfl⟩ | exact ⟨Ext.refl _, rfl⟩ | exact Ext.refl _ | rfl
      · intro A wa hxa hd h0
        have q0 := depOn hd 5 30 (by rfl) rfl
        simp [binF] at q0
        clear hd h0
        go_simp
        first | exact ⟨_, rfl, Ext.refl _, rfl⟩ | exact ⟨Ext.refl _, rfl⟩ | exact Ext.refl _ | rfl
      · intro A wa hxa hd h0
        have q0 := depOn hd 6 36 (by rfl) rfl
        simp [binF] at q0
        clear hd h0
        go_simp
        first | exact ⟨_, rfl, Ext.refl _, rfl⟩ | exact ⟨Ext.refl _, rfl⟩ | exact Ext.refl _ | rfl
      · intro A wa hxa hd h0
        have q0 := depOn hd 7 37 (by rfl) rfl
        simp [binF] at q0
        clear hd h0
        go_simp
        first | exact ⟨_, rfl, Ext.refl _, rfl⟩ | exact ⟨Ext.refl _, rfl⟩ | exact Ext.refl _ | rfl
    · intro A wa hk
      obtain ⟨hxw2, hsz, hdf, hdn, hrs⟩ := hk
      have ta := hdn 8 5 rfl rfl
      have tb := hdn 9 6 rfl rfl
      have k0 := rest_at hrs 0 (by kernel_rfl)
      have k1 := rest_at hrs 1 (by kernel_rfl)
      have k2 := rest_at hrs 2 (by kernel_rfl)
      have k3 := rest_at hrs 3 (by kernel_rfl)
      have k4 := rest_at hrs 4 (by kernel_rfl)
      clear hdn hrs
      rw [act_lit hsz hdf]
      simp [binF, List.range, List.range.loop] at ta tb k0 k1 k2 k3 k4
      simp [List.range, List.range.loop, ta, tb, k0, k1, k2, k3, k4]
      clear ta tb k0 k1 k2 k3 k4 hsz hdf
      generalize A.tmps[7]?.getD undef = A7 at *
      generalize A.tmps[8]?.getD undef = A8 at *
      generalize A.tmps[9]?.getD undef = A9 at *
      generalize A.tmps[10]?.getD undef = A10 at *
      generalize A.tmps[11]?.getD undef = A11 at *
      generalize A.tmps[12]?.getD undef = A12 at *
      generalize A.tmps[13]?.getD undef = A13 at *
      generalize A.tmps[14]?.getD undef = A14 at *
      generalize A.tmps[15]?.getD undef = A15 at *
      generalize A.tmps[16]?.getD undef = A16 at *
      generalize A.tmps[17]?.getD undef = A17 at *
      generalize A.tmps[18]?.getD undef = A18 at *
      generalize A.tmps[19]?.getD undef = A19 at *
      generalize A.tmps[20]?.getD undef = A20 at *
      generalize A.tmps[21]?.getD undef = A21 at *
      generalize A.tmps[22]?.getD undef = A22 at *
      generalize A.tmps[23]?.getD undef = A23 at *
      generalize A.tmps[24]?.getD undef = A24 at *
      generalize A.tmps[25]?.getD undef = A25 at *
      generalize A.tmps[26]?.getD undef = A26 at *
      generalize A.tmps[27]?.getD undef = A27 at *
      generalize A.tmps[28]?.getD undef = A28 at *
      generalize A.tmps[29]?.getD undef = A29 at *
      generalize A.tmps[30]?.getD undef = A30 at *
      generalize A.tmps[31]?.getD undef = A31 at *
      generalize A.tmps[32]?.getD undef = A32 at *
      generalize A.tmps[33]?.getD undef = A33 at *
      generalize A.tmps[34]?.getD undef = A34 at *
      generalize A.tmps[35]?.getD undef = A35 at *
      generalize A.tmps[36]?.getD undef = A36 at *
      generalize A.tmps[37]?.getD undef = A37 at *
      generalize A.tmps[38]?.getD undef = A38 at *
      generalize A.tmps[39]?.getD undef = A39 at *
      generalize A.tmps[40]?.getD undef = A40 at *
      generalize A.tmps[41]?.getD undef = A41 at *
      generalize A.tmps[42]?.getD undef = A42 at *
      generalize A.tmps[43]?.getD undef = A43 at *
      generalize A.tmps[44]?.getD undef = A44 at *
      generalize A.tmps[45]?.getD undef = A45 at *
      generalize A.tmps[46]?.getD undef = A46 at *
      generalize A.tmps[47]?.getD undef = A47 at *
      generalize A.tmps[48]?.getD undef = A48 at *
      generalize A.tmps[49]?.getD undef = A49 at *
      generalize A.tmps[50]?.getD undef = A50 at *
      generalize A.tmps[51]?.getD undef = A51 at *
      generalize A.tmps[52]?.getD undef = A52 at *
      generalize A.tmps[53]?.getD undef = A53 at *
      generalize A.tmps[54]?.getD undef = A54 at *
      generalize A.tmps[55]?.getD undef = A55 at *
      generalize A.tmps[56]?.getD undef = A56 at *
      generalize A.tmps[57]?.getD undef = A57 at *
      generalize A.tmps[58]?.getD undef = A58 at *
      generalize A.tmps[59]?.getD undef = A59 at *
      generalize A.tmps[60]?.getD undef = A60 at *
      generalize A.tmps[61]?.getD undef = A61 at *
      generalize A.tmps[62]?.getD undef = A62 at *
      generalize A.tmps[63]?.getD undef = A63 at *
      generalize A.tmps[64]?.getD undef = A64 at *
      generalize A.tmps[65]?.getD undef = A65 at *
      generalize A.tmps[66]?.getD undef = A66 at *
      generalize A.tmps[67]?.getD undef = A67 at *
      generalize A.tmps[68]?.getD undef = A68 at *
      generalize A.tmps[69]?.getD undef = A69 at *
      generalize A.tmps[70]?.getD undef = A70 at *
      generalize A.tmps[71]?.getD undef = A71 at *
      generalize A.tmps[72]?.getD undef = A72 at *
      generalize A.tmps[73]?.getD undef = A73 at *
      generalize A.tmps[74]?.getD undef = A74 at *
      generalize A.tmps[75]?.getD undef = A75 at *
      generalize A.tmps[76]?.getD undef = A76 at *
      generalize A.tmps[77]?.getD undef = A77 at *
      generalize A.tmps[78]?.getD undef = A78 at *
      generalize A.tmps[79]?.getD undef = A79 at *
      generalize A.tmps[80]?.getD undef = A80 at *
      generalize A.tmps[81]?.getD undef = A81 at *
      generalize A.tmps[82]?.getD undef = A82 at *
      generalize A.tmps[83]?.getD undef = A83 at *
      generalize A.tmps[84]?.getD undef = A84 at *
      generalize A.tmps[85]?.getD undef = A85 at *
      generalize A.tmps[86]?.getD undef = A86 at *
      generalize A.tmps[87]?.getD undef = A87 at *
      generalize A.tmps[88]?.getD undef = A88 at *
      generalize A.tmps[89]?.getD undef = A89 at *
      generalize A.tmps[90]?.getD undef = A90 at *
      generalize A.tmps[91]?.getD undef = A91 at *
      generalize A.tmps[92]?.getD undef = A92 at *
      generalize A.tmps[93]?.getD undef = A93 at *
      generalize A.tmps[94]?.getD undef = A94 at *
      generalize A.tmps[95]?.getD undef = A95 at *
      generalize A.tmps[96]?.getD undef = A96 at *
      generalize A.tmps[97]?.getD undef = A97 at *
      generalize A.tmps[98]?.getD undef = A98 at *
      generalize A.tmps[99]?.getD undef = A99 at *
      generalize A.tmps[100]?.getD undef = A100 at *
      generalize A.tmps[101]?.getD undef = A101 at *
      generalize A.tmps[102]?.getD undef = A102 at *
      generalize A.tmps[103]?.getD undef = A103 at *
      generalize A.tmps[104]?.getD undef = A104 at *
      generalize A.tmps[105]?.getD undef = A105 at *
      generalize A.tmps[106]?.getD undef = A106 at *
      generalize A.tmps[107]?.getD undef = A107 at *
      generalize A.tmps[108]?.getD undef = A108 at *
      generalize A.tmps[109]?.getD undef = A109 at *
      generalize A.tmps[110]?.getD undef = A110 at *
      generalize A.tmps[111]?.getD undef = A111 at *
      generalize A.tmps[112]?.getD undef = A112 at *
      generalize A.tmps[113]?.getD undef = A113 at *
      generalize A.tmps[114]?.getD undef = A114 at *
      generalize A.tmps[115]?.getD undef = A115 at *
      generalize A.tmps[116]?.getD undef = A116 at *
      generalize A.tmps[117]?.getD undef = A117 at *
      generalize A.tmps[118]?.getD undef = A118 at *
      generalize A.tmps[119]?.getD undef = A119 at *
      generalize A.tmps[120]?.getD undef = A120 at *
      generalize A.tmps[121]?.getD undef = A121 at *
      generalize A.tmps[122]?.getD undef = A122 at *
      generalize A.tmps[123]?.getD undef = A123 at *
      generalize A.tmps[124]?.getD undef = A124 at *
      generalize A.tmps[125]?.getD undef = A125 at *
      generalize A.tmps[126]?.getD undef = A126 at *
      generalize A.tmps[127]?.getD undef = A127 at *
      generalize A.tmps[128]?.getD undef = A128 at *
      generalize A.tmps[129]?.getD undef = A129 at *
      generalize A.tmps[130]?.getD undef = A130 at *
      generalize A.tmps[131]?.getD undef = A131 at *
      go_wp2_with fail
      refine wp_region_facts (W := Wc) (binF (cNm tN) (xNm tN) 17 2 12 0 (.slice (some ⟨ge, 0, none⟩) 2 2)) (by kernel_rfl) (by kernel_rfl) (hxw2) (fun i v w w' h hx => binF_ext h hx) ?_ ?_
      · refine ⟨?_, ?_, ?_, ?_, ?_, ?_, ?_, ?_, ?_, ?_, trivial⟩
        · intro A wa hxa hd h0
          have e1 := rest_at h0 2 (by kernel_rfl)
          simp at e1
          obtain ⟨d0, d1, d2, d3, d4, d5⟩ := (HC.out.ext hxa).get6
          clear hd h0
          go_simp
          first | exact ⟨_, rfl, Ext.refl _, rfl⟩ | exact ⟨Ext.refl _, rfl⟩ | exact Ext.refl _ | rfl
        · intro A wa hxa hd h0
          clear hd h0
          go_simp
          refine (num_any 2 wa (by decide) (by decide)).mono ?_
          rintro e w2 ⟨rfl, hx⟩
          go_simp
          first | exact ⟨_, rfl, rfl⟩ | exact ⟨_, rfl, hx, rfl⟩
        · intro A wa hxa hd h0
          have q0 := depOn hd 0 39 (by rfl) rfl
          have q1 := depOn hd 1 40 (by rfl) rfl
          simp [binF] at q0 q1
          clear hd h0
          go_simp
          refine (bin_any wa.heap.size 17 (xNm tN) (xN 2) wa (cNm tN) _ (RNN.out wa hxa) (rx_num2 2) (Nat.le_refl _)).mono ?_
          rintro e w2 ⟨q, rfl, hR, hx⟩
          go_simp
          first | exact ⟨_, rfl, q, rfl, hR⟩ | exact ⟨_, rfl, hx, q, rfl, hR⟩
        · intro A wa hxa hd h0
          have e1 := rest_at h0 1 (by kernel_rfl)
          simp at e1
          clear hd h0
          go_simp
          first | exact ⟨_, rfl, Ext.refl _, rfl⟩ | exact ⟨Ext.refl _, rfl⟩ | exact Ext.refl _ | rfl
        · intro A wa hxa hd h0
          obtain ⟨q, q0, hR⟩ := depOn hd 2 41 (by rfl) rfl
          have q1 := depOn hd 3 42 (by rfl) rfl
          simp [binF] at q0 q1
          clear hd h0
          go_simp
          refine (KEV.out _ _ wa (12, 0) hxa hR (by rw [size_xBin, size_xNm, size_xN]; decide) (vx_xBin (vx_nm (by decide)) (vx_xN (by decide) (by decide))) (by rw [evalW_ex (by decide) (by decide) (by decide)]; decide)).mono ?_
          rintro e w2 ⟨rfl, hx⟩
          go_simp
          first | exact ⟨_, rfl, rfl⟩ | exact ⟨_, rfl, hx, rfl⟩
        · intro A wa hxa hd h0
          have q0 := depOn hd 4 43 (by rfl) rfl
          simp [binF] at q0
          clear hd h0
          go_simp
          first | exact ⟨_, rfl, Ext.refl _, rfl⟩ | exact ⟨Ext.refl _, rfl⟩ | exact Ext.refl _ | rfl
        · intro A wa hxa hd h0
          have q0 := depOn hd 5 38 (by rfl) rfl
          simp [binF] at q0
          clear hd h0
          go_simp
          first | exact ⟨_, rfl, Ext.refl _, rfl⟩ | exact ⟨Ext.refl _, rfl⟩ | exact Ext.refl _ | rfl
        · intro A wa hxa hd h0
          have q0 := depOn hd 5 38 (by rfl) rfl
          simp [binF] at q0
          clear hd h0
          go_simp
          first | exact ⟨_, rfl, Ext.refl _, rfl⟩ | exact ⟨Ext.refl _, rfl⟩ | exact Ext.refl _ | rfl
        · intro A wa hxa hd h0
          have q0 := depOn hd 6 44 (by rfl) rfl
          simp [binF] at q0
          clear hd h0
          go_simp
          first | exact ⟨_, rfl, Ext.refl _, rfl⟩ | exact ⟨Ext.refl _, rfl⟩ | exact Ext.refl _ | rfl
        · intro A wa hxa hd h0
          have q0 := depOn hd 7 45 (by rfl) rfl
          simp [binF] at q0
          clear hd h0
          go_simp
          first | exact ⟨_, rfl, Ext.refl _, rfl⟩ | exact ⟨Ext.refl _, rfl⟩ | exact Ext.refl _ | rfl
      · intro A wa hk
        obtain ⟨hxw3, hsz, hdf, hdn, hrs⟩ := hk
        have ta := hdn 8 7 rfl rfl
        have tb := hdn 9 8 rfl rfl
        have k0 := rest_at hrs 0 (by kernel_rfl)
        have k1 := rest_at hrs 1 (by kernel_rfl)
        have k2 := rest_at hrs 2 (by kernel_rfl)
        have k3 := rest_at hrs 3 (by kernel_rfl)
        have k4 := rest_at hrs 4 (by kernel_rfl)
        have k5 := rest_at hrs 5 (by kernel_rfl)
        have k6 := rest_at hrs 6 (by kernel_rfl)
        clear hdn hrs
        rw [act_lit hsz hdf]
        simp [binF, List.range, List.range.loop] at ta tb k0 k1 k2 k3 k4 k5 k6
        simp [List.range, List.range.loop, ta, tb, k0, k1, k2, k3, k4, k5, k6]
        clear ta tb k0 k1 k2 k3 k4 k5 k6 hsz hdf
        generalize A.tmps[9]?.getD undef = A9 at *
        generalize A.tmps[10]?.getD undef = A10 at *
        generalize A.tmps[11]?.getD undef = A11 at *
        generalize A.tmps[12]?.getD undef = A12 at *
        generalize A.tmps[13]?.getD undef = A13 at *
        generalize A.tmps[14]?.getD undef = A14 at *
        generalize A.tmps[15]?.getD undef = A15 at *
        generalize A.tmps[16]?.getD undef = A16 at *
        generalize A.tmps[17]?.getD undef = A17 at *
        generalize A.tmps[18]?.getD undef = A18 at *
        generalize A.tmps[19]?.getD undef = A19 at *
        generalize A.tmps[20]?.getD undef = A20 at *
        generalize A.tmps[21]?.getD undef = A21 at *
        generalize A.tmps[22]?.getD undef = A22 at *
        generalize A.tmps[23]?.getD undef = A23 at *
        generalize A.tmps[24]?.getD undef = A24 at *
        generalize A.tmps[25]?.getD undef = A25 at *
        generalize A.tmps[26]?.getD undef = A26 at *
        generalize A.tmps[27]?.getD undef = A27 at *
        generalize A.tmps[28]?.getD undef = A28 at *
        generalize A.tmps[29]?.getD undef = A29 at *
        generalize A.tmps[30]?.getD undef = A30 at *
        generalize A.tmps[31]?.getD undef = A31 at *
        generalize A.tmps[32]?.getD undef = A32 at *
        generalize A.tmps[33]?.getD undef = A33 at *
        generalize A.tmps[34]?.getD undef = A34 at *
        generalize A.tmps[35]?.getD undef = A35 at *
        generalize A.tmps[36]?.getD undef = A36 at *
        generalize A.tmps[37]?.getD undef = A37 at *
        generalize A.tmps[38]?.getD undef = A38 at *
        generalize A.tmps[39]?.getD undef = A39 at *
        generalize A.tmps[40]?.getD undef = A40 at *
        generalize A.tmps[41]?.getD undef = A41 at *
        generalize A.tmps[42]?.getD undef = A42 at *
        generalize A.tmps[43]?.getD undef = A43 at *
        generalize A.tmps[44]?.getD undef = A44 at *
        generalize A.tmps[45]?.getD undef = A45 at *
        generalize A.tmps[46]?.getD undef = A46 at *
        generalize A.tmps[47]?.getD undef = A47 at *
        generalize A.tmps[48]?.getD undef = A48 at *
        generalize A.tmps[49]?.getD undef = A49 at *
        generalize A.tmps[50]?.getD undef = A50 at *
        generalize A.tmps[51]?.getD undef = A51 at *
        generalize A.tmps[52]?.getD undef = A52 at *
        generalize A.tmps[53]?.getD undef = A53 at *
        generalize A.tmps[54]?.getD undef = A54 at *
        generalize A.tmps[55]?.getD undef = A55 at *
        generalize A.tmps[56]?.getD undef = A56 at *
        generalize A.tmps[57]?.getD undef = A57 at *
        generalize A.tmps[58]?.getD undef = A58 at *
        generalize A.tmps[59]?.getD undef = A59 at *
        generalize A.tmps[60]?.getD undef = A60 at *
        generalize A.tmps[61]?.getD undef = A61 at *
        generalize A.tmps[62]?.getD undef = A62 at *
        generalize A.tmps[63]?.getD undef = A63 at *
        generalize A.tmps[64]?.getD undef = A64 at *
        generalize A.tmps[65]?.getD undef = A65 at *
        generalize A.tmps[66]?.getD undef = A66 at *
        generalize A.tmps[67]?.getD undef = A67 at *
        generalize A.tmps[68]?.getD undef = A68 at *
        generalize A.tmps[69]?.getD undef = A69 at *
        generalize A.tmps[70]?.getD undef = A70 at *
        generalize A.tmps[71]?.getD undef = A71 at *
        generalize A.tmps[72]?.getD undef = A72 at *
        generalize A.tmps[73]?.getD undef = A73 at *
        generalize A.tmps[74]?.getD undef = A74 at *
        generalize A.tmps[75]?.getD undef = A75 at *
        generalize A.tmps[76]?.getD undef = A76 at *
        generalize A.tmps[77]?.getD undef = A77 at *
        generalize A.tmps[78]?.getD undef = A78 at *
        generalize A.tmps[79]?.getD undef = A79 at *
        generalize A.tmps[80]?.getD undef = A80 at *
        generalize A.tmps[81]?.getD undef = A81 at *
        generalize A.tmps[82]?.getD undef = A82 at *
        generalize A.tmps[83]?.getD undef = A83 at *
        generalize A.tmps[84]?.getD undef = A84 at *
        generalize A.tmps[85]?.getD undef = A85 at *
        generalize A.tmps[86]?.getD undef = A86 at *
        generalize A.tmps[87]?.getD undef = A87 at *
        generalize A.tmps[88]?.getD undef = A88 at *
        generalize A.tmps[89]?.getD undef = A89 at *
        generalize A.tmps[90]?.getD undef = A90 at *
        generalize A.tmps[91]?.getD undef = A91 at *
        generalize A.tmps[92]?.getD undef = A92 at *
        generalize A.tmps[93]?.getD undef = A93 at *
        generalize A.tmps[94]?.getD undef = A94 at *
        generalize A.tmps[95]?.getD undef = A95 at *
        generalize A.tmps[96]?.getD undef = A96 at *
        generalize A.tmps[97]?.getD undef = A97 at *
        generalize A.tmps[98]?.getD undef = A98 at *
        generalize A.tmps[99]?.getD undef = A99 at *
        generalize A.tmps[100]?.getD undef = A100 at *
        generalize A.tmps[101]?.getD undef = A101 at *
        generalize A.tmps[102]?.getD undef = A102 at *
        generalize A.tmps[103]?.getD undef = A103 at *
        generalize A.tmps[104]?.getD undef = A104 at *
        generalize A.tmps[105]?.getD undef = A105 at *
        generalize A.tmps[106]?.getD undef = A106 at *
        generalize A.tmps[107]?.getD undef = A107 at *
        generalize A.tmps[108]?.getD undef = A108 at *
        generalize A.tmps[109]?.getD undef = A109 at *
        generalize A.tmps[110]?.getD undef = A110 at *
        generalize A.tmps[111]?.getD undef = A111 at *
        generalize A.tmps[112]?.getD undef = A112 at *
        generalize A.tmps[113]?.getD undef = A113 at *
        generalize A.tmps[114]?.getD undef = A114 at *
        generalize A.tmps[115]?.getD undef = A115 at *
        generalize A.tmps[116]?.getD undef = A116 at *
        generalize A.tmps[117]?.getD undef = A117 at *
        generalize A.tmps[118]?.getD undef = A118 at *
        generalize A.tmps[119]?.getD undef = A119 at *
        generalize A.tmps[120]?.getD undef = A120 at *
        generalize A.tmps[121]?.getD undef = A121 at *
        generalize A.tmps[122]?.getD undef = A122 at *
        generalize A.tmps[123]?.getD undef = A123 at *
        generalize A.tmps[124]?.getD undef = A124 at *
        generalize A.tmps[125]?.getD undef = A125 at *
        generalize A.tmps[126]?.getD undef = A126 at *
        generalize A.tmps[127]?.getD undef = A127 at *
        generalize A.tmps[128]?.getD undef = A128 at *
        generalize A.tmps[129]?.getD undef = A129 at *
        generalize A.tmps[130]?.getD undef = A130 at *
        generalize A.tmps[131]?.getD undef = A131 at *
        go_wp2_with fail
        have HX := hide hxw3
        obtain ⟨e, rfl⟩ := Later.mk_ex hxw3
        have KE := hide (show ECalls Tryd.prog 14 #[.agg #[.int .i64 2, .string ⟨#[77]⟩, .int .i64 0, .int .i64 0, .int .u64 0, .slice none 0 0], .slice (some ⟨ge, 0, none⟩) 2 2] Wc (.tuple #[.int .i64 0, .int .i64 60]) from fun w' hw => KEV.out (xNm tK) (cNm tK) w' (0, 60) hw (rx_nm tK) (by rw [size_xNm]; decide) (vx_nm (by decide)) evalW_K)
        have KL := hide (show ECalls Tryd.prog 16 #[.slice (some ⟨ge, 0, none⟩) 2 2, .string ⟨#[78]⟩] Wc (.tuple #[.int .i64 3, .bool true]) from fun w' hw => by
          have := klookup_any Wc.heap.size env6 tN w' _ (HENV.out w' hw) hw.size (by decide)
          rw [lookE_N] at this
          exact this)
        have KW := hide (show ECalls Tryd.prog 18 #[.agg #[.int .i64 2, .string ⟨#[78]⟩, .int .i64 0, .int .i64 0, .int .u64 0, .slice none 0 0], .slice (some ⟨ge, 0, none⟩) 2 2] Wc (.tuple #[.int .i64 3, .int .i64 0]) from fun w' hw => by
          have := kWidth_any Wc.heap.size env6 (xNm tN) w' _ (cNm tN) (HT.out.ext (Q0C.out.trans hw)) (rx_nm tN) (HENV.out w' hw) hw.size (by rw [size_xNm]; decide) (vx_nm (by decide)) (by decide)
          rw [widthK_N] at this
          exact this)
        have KN := hide (show ECalls Tryd.prog 20 #[.agg #[.int .i64 1, .string ⟨#[]⟩, .int .i64 0, .int .i64 8, .int .u64 200, .slice none 0 0], .slice none 0 0] Wc (.tuple #[.agg #[.int .i64 8, .int .u64 200], .int .i64 0]) from fun w' hw => by
          have := kNumber_any Wc.heap.size [] x8 w' (.slice none 0 0) [.int .i64 1, .string ⟨#[]⟩, .int .i64 0, .int .i64 8, .int .u64 200, .slice none 0 0] (HT.out.ext (Q0C.out.trans hw)) (RX_iff.2 ⟨_, rfl, Sl.nil⟩) Sl.nil hw.size (by decide) vx_x8 (by decide)
          rw [numK_8] at this
          exact this)
        refine (KE.out.at_ _).mono ?_
        rintro _ _ ⟨rfl, e, rfl⟩
        go_wp2_with (first
          | (go_at_call 16; refine (KL.out.at_ _).mono ?_; rintro _ _ ⟨rfl, e, rfl⟩)
          | (go_at_call 18; refine (KW.out.at_ _).mono ?_; rintro _ _ ⟨rfl, e, rfl⟩))
        refine (KN.out.at_ _).mono ?_
        rintro _ _ ⟨rfl, e9, rfl⟩
        obtain ⟨Wd, hWd, hxd, hbd⟩ := box2 e9.w (.int .i64 0) (.int .u64 0) 36
        obtain ⟨m0, m1⟩ := hbd.get2
        obtain ⟨n0, n1⟩ := hbd.free2
        obtain ⟨We, hWe⟩ : ∃ We, We = (Wd.setCell ⟨e9.w.heap.size, 0, none⟩ (.int .i64 8)).setCell ⟨e9.w.heap.size, 1, none⟩ (.int .u64 200) := ⟨_, rfl⟩
        have hbe := hbd.store2 (.int .i64 8) (.int .u64 200)
        rw [← hWe] at hbe
        obtain ⟨ee, hee⟩ := Later.mk_ex (show Ext Wc We by rw [hWe]; exact ((e9.ext.trans hxd).setCell e9.ext.size _).setCell e9.ext.size _)
        have hVd := hWd.symm
        have hVe := hWe.symm.trans hee
        rw [hee] at hbe
        have HBE := hide hbe
        have KS := hide (ksub_any Wc.heap.size env6 (.slice (some ⟨ge, 0, none⟩) 2 2) (by decide) (xNm tN) (by rw [size_xNm]; decide) ee.w (cNm tN) (rx_nm tN) ee.ext.size (HENV.out ee.w ee.ext))
        clear hWd hWe hee hbd hbe hxd
        go_wp2_with fail
        refine KS.out.mono ?_
        rintro _ w10 ⟨cs', rfl, hD, hx10⟩
        rw [subst_N] at hD
        obtain ⟨y5, rfl, hy⟩ := RXD_iff.1 hD
        have oy := hy.oneCell
        obtain ⟨p0, p1⟩ := (HBE.out.ext hx10).later2
        obtain ⟨Wf, hWf, hxf, hbf⟩ := box6 w10 (.int .i64 0) (.string ⟨#[]⟩) (.int .i64 0) (.int .i64 0) (.int .u64 0) (.slice none 0 0) 25
        obtain ⟨q0, q1, q2, q3, q4, q5⟩ := hbf.get6
        obtain ⟨r0, r1, r2, r3, r4, r5⟩ := hbf.free6
        obtain ⟨Wg, hWg⟩ : ∃ Wg, Wg = (((((Wf.setCell ⟨w10.heap.size, 0, none⟩ (.int .i64 1)).setCell ⟨w10.heap.size, 1, none⟩ (.string ⟨#[]⟩)).setCell ⟨w10.heap.size, 2, none⟩ (.int .i64 0)).setCell ⟨w10.heap.size, 3, none⟩ (.int .i64 0)).setCell ⟨w10.heap.size, 4, none⟩ (.int .u64 3)).setCell ⟨w10.heap.size, 5, none⟩ y5 := ⟨_, rfl⟩
        have hbg := hbf.store6 (.int .i64 1) (.string ⟨#[]⟩) (.int .i64 0) (.int .i64 0) (.int .u64 3) y5
        rw [← hWg] at hbg
        have hx1g : Ext w10 Wg := by rw [hWg]; exact (((((hxf.setCell (Nat.le_refl _) _).setCell (Nat.le_refl _) _).setCell (Nat.le_refl _) _).setCell (Nat.le_refl _) _).setCell (Nat.le_refl _) _).setCell (Nat.le_refl _) _
        obtain ⟨s0, s1, s2, s3, s4, s5⟩ := hbg.get6
        have t0 := p0 ⟨Wg, hx1g⟩
        have t1 := p1 ⟨Wg, hx1g⟩
        simp only at t0 t1
        have HFIN := hide (Q0C.out.trans (ee.ext.trans (hx10.trans hx1g)))
        have hVf := hWf.symm
        have hVg := hWg.symm
        simp only [xN, X.op, X.name, X.n, X.w, X.v, X.l, tE]
        clear hWf hWg hxf hbf hbg hx1g hx10 hD hy p0 p1 KS
        go_wp2_with fail
        go_ret
        exact ⟨rfl, HFIN.out⟩

end Go.Proofs.YtonbgnaopkopoaaDoor
