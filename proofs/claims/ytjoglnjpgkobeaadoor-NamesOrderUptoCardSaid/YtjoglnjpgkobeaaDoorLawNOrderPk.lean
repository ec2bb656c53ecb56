/-
  THE LAW NamesOrder: WHAT IT COMPUTES.
-/
import Derived.Test.YtjoglnjpgkobeaaDoorNLivePk
namespace Go.Proofs.YtjoglnjpgkobeaaDoor
open Go Go.RowKit
set_option linter.all false
set_option linter.unusedVariables false
set_option linter.unusedSimpArgs false
set_option linter.unusedVariables false
set_option linter.unusedSimpArgs false
attribute [local go_sem] run_store_one

set_option maxRecDepth 20000 in
set_option maxHeartbeats 8000000 in
theorem lawNOrder_any (B : Nat) (f : List Mdl) (w : World) (vf : Value) (hT : Tabs w) (hB : B ≤ w.heap.size) (hS : Sl (RM w B) w B 4 f vf) (hsz : msize sizeM f ≤ 10000000) (hvx : ∀ m, m ∈ f → VM m) :
    Calls Tryd.prog 3 #[.agg #[vf]] w fun e w' => e = .returned (.bool true) ∧ Ext w w' := by
  have HS := hide hS
  have HTab := hide hT
  have hln := length_le_msize sizeM f sizeM_pos
  have HIT := hide (fun m (hm : m ∈ f) => Nat.le_trans (items_le hm) hsz)
  obtain ⟨a, cap, rfl, hcap, hrow⟩ := hS
  obtain ⟨W1, e1, hV1, hx1, -, a0⟩ := boxL1 w (.slice a f.length cap) 24
  have hB1 : B ≤ W1.heap.size := Nat.le_trans hB hx1.size
  have GL := hide (show ECalls Tryd.prog 9 #[] W1 (.bool true) from fun w' hw => live7_any w' (HTab.out.ext (hx1.trans hw)))
  have GF := hide (show ECalls Tryd.prog 10 #[.agg #[.slice a f.length cap]] W1 (.bool (yes (fewP (msize sizeM f) (mdeep deepM f)))) from fun w' hw => few7_any B f w' _ (HS.out.extRM (hx1.trans hw) hB) (Nat.le_trans hB1 hw.size) (by omega))
  have CF := hide (show ECalls Tryd.prog 12 #[.agg #[.slice a f.length cap]] W1 (.int .i64 (checkN f)) from fun w' hw => checkN_any B f w' _ (HTab.out.ext (hx1.trans hw)) (HS.out.extRM (hx1.trans hw) hB) (Nat.le_trans hB1 hw.size) hsz hvx)
  have GO := hide (fun (e : Later W1) => orderN_any B f e.w _ (HTab.out.ext (hx1.trans e.ext)) (HS.out.extRM (hx1.trans e.ext) hB) (Nat.le_trans hB1 e.ext.size) hsz hvx)
  have Q01 := hide hx1
  clear hcap hrow hx1 hT hvx
  cases hb1 : yes (fewP (msize sizeM f) (mdeep deepM f)) with
  | false =>
    rw [hb1] at GF
    clear GO CF
    go_enter Tryd.func3, Tryd.ntmps3
    go_wp2_with (first
      | (go_at_call 9; refine (GL.out.at_ _).mono ?_; rintro _ _ ⟨rfl, e, rfl⟩)
      | (go_at_call 10; with_reducible refine (GF.out.at_ _).mono ?_; rintro _ _ ⟨rfl, e, rfl⟩))
    go_ret
    exact ⟨rfl, Q01.out.trans (Later.ext _)⟩
  | true =>
    rw [hb1] at GF
    clear hb1
    obtain ⟨c, hc⟩ : ∃ c, c = checkN f := ⟨_, rfl⟩
    have HC := hide hc
    go_enter Tryd.func3, Tryd.ntmps3
    go_wp2_with (first
      | (go_at_call 9; refine (GL.out.at_ _).mono ?_; rintro _ _ ⟨rfl, e, rfl⟩)
      | (go_at_call 10; with_reducible refine (GF.out.at_ _).mono ?_; rintro _ _ ⟨rfl, e, rfl⟩))
    go_at_call 11
    refine (GO.out _).mono ?_
    rintro _ w2 ⟨v, rfl, hx2, hok, hno⟩
    rw [← hc] at hok hno CF ⊢
    clear hc GL GF GO
    by_cases h0 : c = 0
    · have hown := hok h0
      subst h0
      obtain ⟨hF, hnd, hri, hus, hlen⟩ := check_facts HC.out.symm
      have hss := SStr.of_row hown
      obtain ⟨W2, hW2⟩ : ∃ W2, W2 = w2 := ⟨_, rfl⟩
      rw [← hW2] at hss hx2
      have hx12 : Ext W1 W2 := (Later.ext _).trans hx2
      obtain ⟨e2, he2⟩ := Later.mk_ex (W := W2) (w := w2) (by rw [hW2]; exact Ext.refl _)
      subst he2
      obtain ⟨va, vc, rfl⟩ := row_slice_n hown
      have HSL := hide hss
      obtain ⟨va', vc', hva, hcl, hrl⟩ := hss
      obtain ⟨rfl, -, rfl⟩ := Value.slice.inj hva
      have HRL := hide hrl
      have HCL := hide hcl
      have a0 := cellL a0 hx12
      have CF := hide (CF.out.later hx12)
      have Q02 := hide (Q01.out.trans hx12)
      have hlen' : ((orderF f).length : Int) = (f.length : Int) := by rw [hlen]
      have LAW := hide (order_law HC.out.symm)
      have ut : Tryd.prog.underlying 27 = some (.slice (Tryd.prog.elem 27)) := by kernel_rfl
      have sz1 : ∀ w : World, (sizeOf (Tryd.prog.elem 27)).run Tryd.prog w = .ok 1 w := fun _ => by kernel_rfl
      have HUT := hide ut
      have HS1 := hide sz1
      clear hW2 hx2 hx12 hok hno hown hrl hcl hva hF hnd hri hus Q01 ut sz1
      obtain ⟨L, hL⟩ : ∃ L, orderF f = L := ⟨_, rfl⟩
      simp only [hL] at *
      have hne : ((L.length : Int) != (f.length : Int)) = false := by simpa using hlen'
      have hLl : L.length ≤ 1000000000 := by omega
      clear hlen hlen'
      go_wp2_with (go_at_call 12; refine (CF.out.at_ _).mono ?_; rintro _ _ ⟨rfl, e, rfl⟩)
      clear hne CF
      go_loopw [6] (fun i wr => ∃ k : Nat, k ≤ L.length ∧ i = .int .i64 k ∧ Ext W2 wr) (fun i _ => L.length - (intOf i).toNat)
      case atStart => exact ⟨0, Nat.zero_le _, rfl, Later.ext _⟩
      case round =>
        obtain ⟨k, hk, rfl, hxr⟩ := hrel
        by_cases hlt : k < L.length
        · obtain ⟨bl, ol, rfl, hcell⟩ := HRL.out k hlt
          obtain ⟨m, hfm, hmf, hnot, huse⟩ := LAW.out k hlt
          obtain ⟨vs, hvs⟩ : ∃ vs, vs = Go.sliced (some ⟨bl, ol, none⟩) 0 k vc 1 := ⟨_, rfl⟩
          have hrun : ∀ w : World, (Instr.slice 27 (.slice (some ⟨bl, ol, none⟩) L.length vc) none (some (.int .i64 k)) none).run Tryd.prog w = .ok vs w := fun w => by
            have hcl := HCL.out
            rw [run_slice_h (ht := HUT.out) (h := (k : Int)) (h0 := by omega) (h2 := by omega), HS1.out, hvs]; rfl
          have hss : SStr W2 (L.take k) vs := by rw [hvs]; exact HSL.out.take hlt
          have KA := hide (show ECalls Tryd.prog 14 #[vs, .string L[k]] W2 (.bool false) from fun w' hw => (refAmong_any (L.take k) L[k] w' vs (hss.ext hw) (by rw [List.length_take]; omega)).mono fun _ _ ⟨h1, h2⟩ => ⟨by rw [h1, yes_no.2 hnot], by rw [h2]; exact Ext.refl _⟩)
          have KU := hide (fun (u : ByteArray) (hu : u ∈ usesM m) => show ECalls Tryd.prog 14 #[vs, .string u] W2 (.bool true) from fun w' hw => (refAmong_any (L.take k) u w' vs (hss.ext hw) (by rw [List.length_take]; omega)).mono fun _ _ ⟨h1, h2⟩ => ⟨by rw [h1, yes_iff.2 (huse u hu)], by rw [h2]; exact Ext.refl _⟩)
          have hit := HIT.out m hmf
          have hul := uses_len m hit
          have hcells := cellAt (hxr.at_ hcell)
          have FND := hide (fun (w' : World) (hw : Ext w w') => find_any B f L[k] w' _ (HS.out.extRM hw hB) (Nat.le_trans hB hw.size) (by omega))
          rw [hfm, Option.isSome_some, Option.getD_some] at FND
          have ovs : vs.oneCell' = true := by rw [hvs]; rfl
          have a0r := cellL a0 hxr
          have HXW := hide (Q02.out.trans hxr)
          have HXR := hide hxr
          have GU := hide (fun (w' : World) (cs : List Value) (hw : Ext w w') (hR : RM w B m cs) => uses_any B m w' cs (hR.ext hw hB) (Nat.le_trans hB hw.size) hit)
          clear hvs hss hcell hnot huse hfm hmf hxr hit
          generalize L[k] = s at *
          go_wp2_with fail
          refine wp_region_facts_s (W := wr) (finF w B wr (.slice a f.length cap) (.slice (some ⟨bl, ol, none⟩) L.length vc) k ⟨bl, ol + k, none⟩ s m true) (finG w B wr m) 10 9 7 (by kernel_rfl) (by kernel_rfl) (by kernel_rfl) (by decide) (by decide) ?_ (Ext.refl _) (fun i v w w' h hx => finF_ext h hx) (fun v w w' h hx => finG_ext h hx) ?_ ?_
          · simp [GuardsMet, finF]
          · refine ⟨?_, ?_, ?_, ?_, ?_, ?_, ?_, ?_, ?_, ?_, ?_, ?_, trivial⟩
            · intro A wa hxa hd h0
              obtain ⟨ea, rfl⟩ := Later.mk_ex hxa
              have r1 := rest_at h0 1 (by kernel_rfl)
              simp at r1
              clear hd h0
              go_simp
              first | exact ⟨_, rfl, Ext.refl _, rfl⟩ | exact ⟨Ext.refl _, rfl⟩ | exact rfl | exact ⟨_, rfl, rfl⟩
            · intro A wa hxa hd h0
              obtain ⟨ea, rfl⟩ := Later.mk_ex hxa
              have r4 := rest_at h0 4 (by kernel_rfl)
              simp at r4
              clear hd h0
              go_simp
              first | exact ⟨_, rfl, Ext.refl _, rfl⟩ | exact ⟨Ext.refl _, rfl⟩ | exact rfl | exact ⟨_, rfl, rfl⟩
            · intro A wa hxa hd h0
              obtain ⟨ea, rfl⟩ := Later.mk_ex hxa
              have r6 := rest_at h0 6 (by kernel_rfl)
              simp at r6
              clear hd h0
              go_simp
              first | exact ⟨_, rfl, Ext.refl _, rfl⟩ | exact ⟨Ext.refl _, rfl⟩ | exact rfl | exact ⟨_, rfl, rfl⟩
            · intro A wa hxa hd h0
              obtain ⟨ea, rfl⟩ := Later.mk_ex hxa
              have q1 := depOn hd 1 56 (by kernel_rfl) rfl
              simp [finF] at q1
              have q2 := depOn hd 2 57 (by kernel_rfl) rfl
              simp [finF] at q2
              clear hd h0
              go_simp
              first | exact ⟨_, rfl, Ext.refl _, rfl⟩ | exact ⟨Ext.refl _, rfl⟩ | exact rfl | exact ⟨_, rfl, rfl⟩
            · intro A wa hxa hd h0
              obtain ⟨ea, rfl⟩ := Later.mk_ex hxa
              have q3 := depOn hd 3 58 (by kernel_rfl) rfl
              simp [finF] at q3
              clear hd h0
              go_simp
              first | exact ⟨_, rfl, Ext.refl _, rfl⟩ | exact ⟨Ext.refl _, rfl⟩ | exact rfl | exact ⟨_, rfl, rfl⟩
            · intro A wa hxa hd h0
              obtain ⟨ea, rfl⟩ := Later.mk_ex hxa
              have q0 := depOn hd 0 55 (by kernel_rfl) rfl
              simp [finF] at q0
              have q4 := depOn hd 4 59 (by kernel_rfl) rfl
              simp [finF] at q4
              clear hd h0
              go_simp
              refine (FND.out ea.w (HXW.out.trans ea.ext)).mono ?_
              rintro e w2 ⟨c0, c1, c2, c3, rfl, hR, hx⟩
              have hrm := rm_back hR (HXW.out.trans (ea.ext.trans hx)) hB
              go_simp
              first | exact ⟨_, rfl, hx, _, _, _, _, rfl, hrm⟩ | exact ⟨hx, _, _, _, _, rfl, hrm⟩ | exact ⟨_, rfl, _, _, _, _, rfl, hrm⟩
            · intro A wa hxa hd h0
              obtain ⟨ea, rfl⟩ := Later.mk_ex hxa
              obtain ⟨c0, c1, c2, c3, q5, hrm⟩ := depOn hd 5 60 (by kernel_rfl) rfl
              simp at q5
              clear hd h0
              have HR := hide hrm
              clear hrm
              go_simp
              first | exact ⟨_, rfl, Ext.refl _, _, _, _, _, rfl, HR.out⟩ | exact ⟨Ext.refl _, _, _, _, _, rfl, HR.out⟩ | exact ⟨_, _, _, _, rfl, HR.out⟩
            · intro A wa hxa hd h0
              obtain ⟨ea, rfl⟩ := Later.mk_ex hxa
              obtain ⟨c0, c1, c2, c3, q6, hrm⟩ := depOn hd 6 54 (by kernel_rfl) rfl
              simp at q6
              clear hd h0
              have HR := hide hrm
              clear hrm
              go_simp
              first | exact ⟨_, rfl, Ext.refl _, _, _, _, _, rfl, HR.out⟩ | exact ⟨Ext.refl _, _, _, _, _, rfl, HR.out⟩ | exact ⟨_, _, _, _, rfl, HR.out⟩
            · intro A wa hxa hd h0
              obtain ⟨ea, rfl⟩ := Later.mk_ex hxa
              obtain ⟨c0, c1, c2, c3, q6, hrm⟩ := depOn hd 6 54 (by kernel_rfl) rfl
              simp at q6
              clear hd h0
              go_simp
              first | exact ⟨_, rfl, Ext.refl _, rfl⟩ | exact ⟨Ext.refl _, rfl⟩ | exact rfl | exact ⟨_, rfl, rfl⟩
            · intro A wa hxa hd h0
              obtain ⟨ea, rfl⟩ := Later.mk_ex hxa
              clear hd h0
              obtain ⟨W4, hW4, hx4, hb4⟩ := box4 ea.w (.string ⟨#[]⟩) (.slice none 0 0) (.slice none 0 0) (.slice none 0 0) 36
              have hV4 := hW4.symm
              have HG := hide (And.intro hx4 hb4)
              have HZ := hide ea.ext.size
              clear hW4 hx4 hb4
              go_simp
              exact ⟨_, rfl, HG.out.1, _, _, _, _, _, rfl, HZ.out, HG.out.2⟩
            · intro A wa hxa hd h0
              obtain ⟨ea, rfl⟩ := Later.mk_ex hxa
              obtain ⟨g, d0, d1, d2, d3, q9, hge, hbk⟩ := depOn hd 9 7 (by kernel_rfl) rfl
              simp at q9
              obtain ⟨c0, c1, c2, c3, q7, hrm⟩ := depOn hd 7 61 (by kernel_rfl) rfl
              simp at q7
              clear hd h0
              obtain ⟨z0, z1, z2, z3⟩ := hbk.get4
              obtain ⟨f0, f1, f2, f3⟩ := hbk.free4
              have hrm' := hrm
              obtain ⟨v1', v2', v3', hcs, hp1, hq1, hi1⟩ := hrm'
              simp only [List.cons.injEq, and_true] at hcs
              obtain ⟨rfl, rfl, rfl, rfl⟩ := hcs
              have o1 := hp1.oneCell
              have o2 := hq1.oneCell
              have o3 := hi1.oneCell
              clear hp1 hq1 hi1
              have HG := hide (And.intro hge (And.intro hbk hrm))
              clear hge hbk hrm
              go_simp
              exact ⟨ext_store4 ea.ext HG.out.1 _ _ _ _, fun j u h => finF_store _ _ _ _ h, _, _, _, _, _, rfl, HG.out.1, HG.out.2.1.store4 _ _ _ _, HG.out.2.2⟩
            · intro A wa hxa hd h0
              obtain ⟨ea, rfl⟩ := Later.mk_ex hxa
              have q8 := depOn hd 8 62 (by kernel_rfl) rfl
              simp [finF] at q8
              clear hd h0
              go_simp
              first | exact ⟨_, rfl, Ext.refl _, rfl⟩ | exact ⟨Ext.refl _, rfl⟩ | exact rfl | exact ⟨_, rfl, rfl⟩
          intro A wa hk hG
          obtain ⟨hxa, hsz, hdf, hdn, hrs⟩ := hk
          obtain ⟨ea, rfl⟩ := Later.mk_ex hxa
          obtain ⟨g, c0, c1, c2, c3, k7, hge, hbk, hrm⟩ := hG
          have k8 := hdn 11 8 rfl rfl
          simp [finF] at k8
          have k0 := rest_at hrs 0 (by kernel_rfl)
          simp at k0
          have k1 := rest_at hrs 1 (by kernel_rfl)
          simp at k1
          have k2 := rest_at hrs 2 (by kernel_rfl)
          simp at k2
          have k3 := rest_at hrs 3 (by kernel_rfl)
          simp at k3
          have k4 := rest_at hrs 4 (by kernel_rfl)
          simp at k4
          have k5 := rest_at hrs 5 (by kernel_rfl)
          simp at k5
          have k6 := rest_at hrs 6 (by kernel_rfl)
          simp at k6
          have k11 := rest_at hrs 11 (by kernel_rfl)
          simp at k11
          have k12 := rest_at hrs 12 (by kernel_rfl)
          simp at k12
          have k13 := rest_at hrs 13 (by kernel_rfl)
          simp at k13
          have k14 := rest_at hrs 14 (by kernel_rfl)
          simp at k14
          have k15 := rest_at hrs 15 (by kernel_rfl)
          simp at k15
          have k16 := rest_at hrs 16 (by kernel_rfl)
          simp at k16
          have k17 := rest_at hrs 17 (by kernel_rfl)
          simp at k17
          have k18 := rest_at hrs 18 (by kernel_rfl)
          simp at k18
          have k19 := rest_at hrs 19 (by kernel_rfl)
          simp at k19
          have k20 := rest_at hrs 20 (by kernel_rfl)
          simp at k20
          have k21 := rest_at hrs 21 (by kernel_rfl)
          simp at k21
          have k22 := rest_at hrs 22 (by kernel_rfl)
          simp at k22
          have k23 := rest_at hrs 23 (by kernel_rfl)
          simp at k23
          have k24 := rest_at hrs 24 (by kernel_rfl)
          simp at k24
          have k25 := rest_at hrs 25 (by kernel_rfl)
          simp at k25
          have k26 := rest_at hrs 26 (by kernel_rfl)
          simp at k26
          have k27 := rest_at hrs 27 (by kernel_rfl)
          simp at k27
          have k28 := rest_at hrs 28 (by kernel_rfl)
          simp at k28
          have k29 := rest_at hrs 29 (by kernel_rfl)
          simp at k29
          have k30 := rest_at hrs 30 (by kernel_rfl)
          simp at k30
          have k31 := rest_at hrs 31 (by kernel_rfl)
          simp at k31
          have k32 := rest_at hrs 32 (by kernel_rfl)
          simp at k32
          have k33 := rest_at hrs 33 (by kernel_rfl)
          simp at k33
          have k34 := rest_at hrs 34 (by kernel_rfl)
          simp at k34
          have k35 := rest_at hrs 35 (by kernel_rfl)
          simp at k35
          have k36 := rest_at hrs 36 (by kernel_rfl)
          simp at k36
          have k37 := rest_at hrs 37 (by kernel_rfl)
          simp at k37
          have k38 := rest_at hrs 38 (by kernel_rfl)
          simp at k38
          have k39 := rest_at hrs 39 (by kernel_rfl)
          simp at k39
          have k40 := rest_at hrs 40 (by kernel_rfl)
          simp at k40
          have k41 := rest_at hrs 41 (by kernel_rfl)
          simp at k41
          have k42 := rest_at hrs 42 (by kernel_rfl)
          simp at k42
          have k43 := rest_at hrs 43 (by kernel_rfl)
          simp at k43
          have k44 := rest_at hrs 44 (by kernel_rfl)
          simp at k44
          have k45 := rest_at hrs 45 (by kernel_rfl)
          simp at k45
          have k46 := rest_at hrs 46 (by kernel_rfl)
          simp at k46
          have k47 := rest_at hrs 47 (by kernel_rfl)
          simp at k47
          have k92 := rest_at hrs 92 (by kernel_rfl)
          simp at k92
          clear hdn hrs
          rw [act_lit hsz hdf]
          simp [List.range, List.range.loop] at k7 k8 k0 k1 k2 k3 k4 k5 k6 k11 k12 k13 k14 k15 k16 k17 k18 k19 k20 k21 k22 k23 k24 k25 k26 k27 k28 k29 k30 k31 k32 k33 k34 k35 k36 k37 k38 k39 k40 k41 k42 k43 k44 k45 k46 k47 k92
          simp [List.range, List.range.loop, k7, k8, k0, k1, k2, k3, k4, k5, k6, k11, k12, k13, k14, k15, k16, k17, k18, k19, k20, k21, k22, k23, k24, k25, k26, k27, k28, k29, k30, k31, k32, k33, k34, k35, k36, k37, k38, k39, k40, k41, k42, k43, k44, k45, k46, k47, k92]
          clear k7 k8 k0 k1 k2 k3 k4 k5 k6 k11 k12 k13 k14 k15 k16 k17 k18 k19 k20 k21 k22 k23 k24 k25 k26 k27 k28 k29 k30 k31 k32 k33 k34 k35 k36 k37 k38 k39 k40 k41 k42 k43 k44 k45 k46 k47 k92 hsz hdf
          generalize A.tmps[9]?.getD undef = A9 at *
          generalize A.tmps[10]?.getD undef = A10 at *
          generalize A.tmps[48]?.getD undef = A48 at *
          generalize A.tmps[49]?.getD undef = A49 at *
          generalize A.tmps[50]?.getD undef = A50 at *
          generalize A.tmps[51]?.getD undef = A51 at *
          generalize A.tmps[52]?.getD undef = A52 at *
          generalize A.tmps[53]?.getD undef = A53 at *
          generalize A.tmps[54]?.getD undef = A54 at *
          generalize A.tmps[55]?.getD undef = A55 at *
          generalize A.tmps[56]?.getD undef = A56 at *
          generalize A.tmps[57]?.getD undef = A57 at *
          generalize A.tmps[58]?.getD undef = A58 at *
          generalize A.tmps[59]?.getD undef = A59 at *
          generalize A.tmps[60]?.getD undef = A60 at *
          generalize A.tmps[61]?.getD undef = A61 at *
          generalize A.tmps[62]?.getD undef = A62 at *
          generalize A.tmps[63]?.getD undef = A63 at *
          generalize A.tmps[64]?.getD undef = A64 at *
          generalize A.tmps[65]?.getD undef = A65 at *
          generalize A.tmps[66]?.getD undef = A66 at *
          generalize A.tmps[67]?.getD undef = A67 at *
          generalize A.tmps[68]?.getD undef = A68 at *
          generalize A.tmps[69]?.getD undef = A69 at *
          generalize A.tmps[70]?.getD undef = A70 at *
          generalize A.tmps[71]?.getD undef = A71 at *
          generalize A.tmps[72]?.getD undef = A72 at *
          generalize A.tmps[73]?.getD undef = A73 at *
          generalize A.tmps[74]?.getD undef = A74 at *
          generalize A.tmps[75]?.getD undef = A75 at *
          generalize A.tmps[76]?.getD undef = A76 at *
          generalize A.tmps[77]?.getD undef = A77 at *
          generalize A.tmps[78]?.getD undef = A78 at *
          generalize A.tmps[79]?.getD undef = A79 at *
          generalize A.tmps[80]?.getD undef = A80 at *
          generalize A.tmps[81]?.getD undef = A81 at *
          generalize A.tmps[82]?.getD undef = A82 at *
          generalize A.tmps[83]?.getD undef = A83 at *
          generalize A.tmps[84]?.getD undef = A84 at *
          generalize A.tmps[85]?.getD undef = A85 at *
          generalize A.tmps[86]?.getD undef = A86 at *
          generalize A.tmps[87]?.getD undef = A87 at *
          generalize A.tmps[88]?.getD undef = A88 at *
          generalize A.tmps[89]?.getD undef = A89 at *
          generalize A.tmps[90]?.getD undef = A90 at *
          generalize A.tmps[91]?.getD undef = A91 at *
          have HBK := hide (And.intro hbk (And.intro hrm hge))
          have HXE := hide (HXW.out.trans ea.ext)
          have KA := hide (KA.out.later (HXR.out.trans ea.ext))
          have hcells := cellL hcells ea.ext
          clear hbk hrm hge
          go_wp2_with fail
          refine wp_region_later (W := ea.w) (by kernel_rfl) (by kernel_rfl) (Ext.refl _) ?_
          repeat (go_big_quiet_step ((go_at_call 14; exact KA.out.at_ _)))
          refine wpQuiet_nil ?_
          rintro _ ⟨e5, rfl⟩
          have HX5 := hide (HXR.out.trans (ea.ext.trans e5.ext))
          have HW5 := hide (HXE.out.trans e5.ext)
          have hb5 := HBK.out.1.ext e5.ext
          obtain ⟨d0, d1, d2, d3⟩ := hb5.get4
          have GU := hide (GU.out e5.w [c0, c1, c2, c3] HW5.out HBK.out.2.1)
          clear hb5 hcells KA
          go_wp2_with fail
          go_at_call 15
          refine GU.out.mono ?_
          rintro _ w6 ⟨v, rfl, hown, hx6⟩
          have hsu := SStr.of_row hown
          obtain ⟨ua, uc, rfl⟩ := row_slice_n hown
          obtain ⟨ua', uc', hua, huc, hru⟩ := hsu
          obtain ⟨rfl, -, rfl⟩ := Value.slice.inj hua
          have HRU := hide hru
          have HX6 := hide (HX5.out.trans hx6)
          have hU := hide (fun (j : Nat) (hj : j < (usesM m).length) => KU.out (usesM m)[j] (List.getElem_mem hj))
          obtain ⟨wq, hwq⟩ : ∃ wq, wq = wr := ⟨_, rfl⟩
          subst hwq
          clear hown hx6 hru huc hua GU KU HX5 HW5 d0 d1 d2 d3
          obtain ⟨U, hUe⟩ : ∃ U, usesM m = U := ⟨_, rfl⟩
          simp only [hUe] at *
          clear hUe
          go_wp2_with fail
          go_loopw [10] (fun i wr => ∃ j : Nat, j ≤ U.length ∧ i = .int .i64 j ∧ Ext w6 wr) (fun i _ => U.length - (intOf i).toNat)
          case atStart => exact ⟨0, Nat.zero_le _, rfl, Ext.refl _⟩
          case round =>
            obtain ⟨j, hj, rfl, hxj⟩ := hrel
            by_cases hjl : j < U.length
            · obtain ⟨bu, ou, rfl, hcu⟩ := HRU.out j hjl
              have hcu := cellAt (hxj.at_ hcu)
              have KA := hide ((hU.out j hjl).later (HX6.out.trans hxj))
              have HXJ := hide hxj
              clear hxj
              generalize U[j] = s2 at *
              go_wp2_with fail
              refine wp_region_later (W := wr) (by kernel_rfl) (by kernel_rfl) (Ext.refl _) ?_
              repeat (go_big_quiet_step ((go_at_call 14; exact KA.out.at_ _)))
              refine wpQuiet_nil ?_
              rintro _ ⟨e7, rfl⟩
              go_wp2_with fail
              go_roundw
              case rel => exact ⟨j + 1, by omega, by go_num, HXJ.out.trans e7.ext⟩
              case measure => simp [intOf]; omega
            · have hjl2 : j = U.length := by omega
              subst hjl2
              have HXZ := hide (HX6.out.trans hxj)
              go_wp2_with fail
              go_roundw
              case rel => exact ⟨k + 1, by omega, by go_num, HXZ.out⟩
              case measure => simp [intOf]; omega
        · have hkl : k = L.length := by omega
          subst hkl
          have HXZ := hide (Q02.out.trans hxr)
          go_wp2_with fail
          go_ret
          exact ⟨rfl, HXZ.out⟩
    · have hne : (c != 0) = true := by simpa using h0
      obtain rfl := hno h0
      have hxx := (Later.ext _).trans hx2
      obtain ⟨W2, hW2⟩ : ∃ W2, W2 = w2 := ⟨_, rfl⟩
      rw [← hW2] at hxx
      have HX := hide (Q01.out.trans hxx)
      have CF := hide (CF.out.later hxx)
      have a0 := cellL a0 hxx
      obtain ⟨e2, he2⟩ := Later.mk_ex (W := W2) (w := w2) (by rw [hW2]; exact Ext.refl _)
      subst he2
      clear hW2 hxx hx2 hok hno h0 HC
      go_wp2_with (go_at_call 12; refine (CF.out.at_ _).mono ?_; rintro _ _ ⟨rfl, e, rfl⟩)
      go_ret
      exact ⟨rfl, HX.out.trans (Later.ext _)⟩

end Go.Proofs.YtjoglnjpgkobeaaDoor
