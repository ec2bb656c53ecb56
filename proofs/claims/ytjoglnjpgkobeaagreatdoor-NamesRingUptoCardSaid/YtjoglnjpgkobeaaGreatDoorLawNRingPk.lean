/-
  THE LAW NamesRing: WHAT IT COMPUTES.
-/
import Derived.Test.YtjoglnjpgkobeaaGreatDoorCards
import Derived.Test.YtjoglnjpgkobeaaGreatDoorTie
import Derived.Test.YtjoglnjpgkobeaaGreatDoorNZPPk
import Derived.Test.YtjoglnjpgkobeaaGreatDoorTabPk
import Derived.Test.YtjoglnjpgkobeaaGreatDoorShutIPk
namespace Go.Proofs.YtjoglnjpgkobeaaGreatDoor
open Go Go.RowKit
set_option linter.all false
set_option linter.unusedVariables false
set_option linter.unusedSimpArgs false
set_option linter.unusedVariables false
set_option linter.unusedSimpArgs false
attribute [local go_sem] run_store_one

set_option maxRecDepth 20000 in
set_option maxHeartbeats 16000000 in
theorem lawNRing_any (B : Nat) (f : List Mdl) (top : ByteArray) (n : Int) (nm : ByteArray) (w : World) (vf : Value) (hT : Tabs w) (hB : B ≤ w.heap.size) (hS : Sl (RM w B) w B 4 f vf) (hsz : msize sizeM f ≤ 2000000) (hvx : ∀ m, m ∈ f → VM m) (hz1 : top.size ≤ 2000000) (hz2 : nm.size ≤ 2000000) :
    Calls Tryz.prog 7 #[.agg #[vf], .string top, .int .i64 n, .string nm] w fun e w' => e = .returned (.bool true) ∧ Ext w w' := by
  have HS := hide hS
  have HT := hide hT
  have HVX := hide hvx
  have hln := length_le_msize sizeM f sizeM_pos
  obtain ⟨a, cap, xf, rfl, hfl, hff⟩ := hS.fl
  obtain ⟨W1, hW1, hx1, hb1⟩ := box1 w (.slice a f.length cap) 24
  have hV1 := hW1.symm
  have BX := hide hb1
  have X1 := hide hx1
  have HFL := hide hfl
  clear hT hvx hW1 hx1 hb1 hfl hff hS
  go_enter Tryz.func7, Tryz.ntmps7
  go_wp2_with fail
  go_at_call 8
  refine (live7_any W1 (HT.out.ext X1.out)).mono ?_
  rintro _ w2 ⟨rfl, hx2⟩
  have X2 := hide (X1.out.trans hx2)
  have c2 := (BX.out.ext hx2).get1
  have BX := hide (BX.out.ext hx2)
  clear hx2 hV1
  go_wp2_with fail
  go_at_call 9
  refine (few7_any B f w2 _ (HS.out.extRM X2.out hB) (Nat.le_trans hB X2.out.size) (by omega)).mono ?_
  rintro _ w3 ⟨rfl, hx3⟩
  have X3 := hide (X2.out.trans hx3)
  have c3 := (BX.out.ext hx3).get1
  have BX := hide (BX.out.ext hx3)
  clear hx3 c2
  cases hb1 : yes (fewP (msize sizeM f) (mdeep deepM f)) with
  | false =>
    go_wp2_with fail
    go_ret
    exact ⟨rfl, X3.out⟩
  | true =>
    have hfew := (yes_iff.1 hb1).1
    clear hb1
    by_cases ht1 : (100 : Int) < (top.size : Int)
    · go_wp2_with fail
      go_ret
      exact ⟨rfl, X3.out⟩
    by_cases ht2 : (100 : Int) < (nm.size : Int)
    · go_wp2_with fail
      go_ret
      exact ⟨rfl, X3.out⟩
    go_wp2_with fail
    go_at_call 22
    refine (CheckX_any w3.heap.size (xName nm) w3 [.int .i64 2, .string nm, .int .i64 0, .int .i64 0, .int .u64 0, .slice none 0 0] (HT.out.ext X3.out) (rx_xName nm) (Nat.le_refl _) (show (1 : Nat) ≤ 1000000000 by decide) (vx_xName (by omega))).mono ?_
    rintro _ w4 ⟨rfl, hx4⟩
    have X4 := hide (X3.out.trans hx4)
    have c4 := (BX.out.ext hx4).get1
    have BX := hide (BX.out.ext hx4)
    obtain ⟨cx, hcx⟩ : ∃ cx, told (sizeX (xName nm)) (deepX (xName nm)) (yes (MayX (xName nm))) = cx := ⟨_, rfl⟩
    have HCX := hide hcx
    rw [hcx]
    clear hx4 c3 hcx
    by_cases h0 : cx = 0
    · subst h0
      have hnp := told_name HCX.out
      go_wp2_with fail
      go_at_call 20
      refine (below_any B f top w4 _ (HT.out.ext X4.out) (HS.out.extRM X4.out hB) (Nat.le_trans hB X4.out.size) (by omega) HVX.out).mono ?_
      rintro _ w5 ⟨v5, c5, rfl, hx5, hc5, hok5, hno5⟩
      have X5 := hide (X4.out.trans hx5)
      have c6 := (BX.out.ext hx5).get1
      have BX := hide (BX.out.ext hx5)
      clear hx5 c4
      by_cases h5 : c5 = 0
      · have hrow5 := SStr.of_row (hok5 h5)
        have hcc : checkN f = 0 ∧ (findM f top).isSome = true := by
          rw [h5] at hc5
          by_cases h1 : checkN f = 0
          · rw [if_pos h1] at hc5
            by_cases hs : (findM f top).isSome = true
            · exact ⟨h1, hs⟩
            · rw [if_neg hs] at hc5; omega
          · rw [if_neg h1] at hc5; omega
        obtain ⟨hck, hsome⟩ := hcc
        have HCK := hide hck
        have HSOME := hide hsome
        obtain ⟨L, hL⟩ : ∃ L, belowN f top = L := ⟨_, rfl⟩
        have HL := hide hL
        rw [hL] at hrow5
        obtain ⟨la, lc, rfl, -, hla⟩ := hrow5
        have HLA := hide hla
        obtain ⟨nl, hnl⟩ : ∃ nl, L.length = nl := ⟨_, rfl⟩
        have HNL := hide hnl
        rw [hnl]
        subst h5
        clear hok5 hno5 hc5 hck hsome hla hnl hL
        by_cases hn0 : n < 0
        · go_wp2_with fail
          go_ret
          exact ⟨rfl, X5.out⟩
        by_cases hn1 : (nl : Int) ≤ n
        · go_wp2_with fail
          go_ret
          exact ⟨rfl, X5.out⟩
        obtain ⟨n, rfl⟩ : ∃ i : Nat, n = i := ⟨n.toNat, by omega⟩
        have hni : n < L.length := by rw [HNL.out]; omega
        obtain ⟨lb, lo, rfl, hcl⟩ := HLA.out n hni
        have hmemL := List.getElem_mem hni
        have hreach : Reach f top L[n] := by
          exact (mem_below HCK.out HSOME.out _).1 (by rw [HL.out]; exact hmemL)
        have hnam : L[n] ∈ namesF f := find_isSome.1 (hreach.isIn HSOME.out)
        have HRE := hide hreach
        have HNA := hide hnam
        have HCL := hide hcl
        clear hmemL hreach hnam hcl
        generalize L[n] = s at *
        obtain ⟨b, o, rfl⟩ : ∃ b o, a = some ⟨b, o, none⟩ := by
          obtain ⟨m, hm, -⟩ := List.mem_map.1 HNA.out
          obtain ⟨b, o, h, -⟩ := HFL.out.2.2 (List.length_pos_of_mem hm)
          exact ⟨b, o, h⟩
        obtain ⟨a', cap', hve, -, hrow⟩ := HS.out
        obtain ⟨rfl, -, rfl⟩ := Value.slice.inj hve
        have HROW := hide hrow
        clear hve hrow
        have BX0 := BX
        go_wp2_with fail
        clear c6
        go_loopw [12, 13] (fun kv iv wr => ∃ i : Nat, i ≤ f.length ∧ iv = .int .i64 i ∧ Ext w5 wr ∧ ((kv = .int .i64 (-1) ∧ ∀ j, ∀ h : j < f.length, j < i → ¬ f[j].name = s) ∨ ∃ j, ∃ h : j < f.length, kv = .int .i64 (j : Nat) ∧ f[j].name = s)) (fun _ iv _ => f.length - (intOf iv).toNat)
        case atStart => exact ⟨0, Nat.zero_le _, rfl, Ext.refl _, .inl ⟨rfl, fun j h hj => absurd hj (by omega)⟩⟩
        case round =>
          obtain ⟨i, hi, rfl, hxr, hkv⟩ := hrel
          have HKV := hide hkv
          have hfb := (BX0.out.ext hxr).get1
          have HXR := hide hxr
          clear hkv
          by_cases hlt : i < f.length
          · obtain ⟨b', o', v0, v1, v2, v3, hbe, hbB, hR, hC, o0, o1, o2, o3⟩ := HROW.out.open4 hlt
            obtain ⟨rfl, rfl⟩ : b = b' ∧ o = o' := by simpa using hbe
            obtain ⟨v1', v2', v3', hcs, -, -, -⟩ := hR
            simp only [List.cons.injEq, and_true] at hcs
            obtain ⟨rfl, rfl, rfl, rfl⟩ := hcs
            obtain ⟨d0, -, -, -⟩ := (hC.ext (X5.out.trans hxr)).later4
            have l0 := cellAt (hxr.at_ HCL.out)
            have f0 := (BX0.out.ext hxr).later1
            have hu12 : u12.oneCell' = true ∨ True := .inr trivial
            clear hC hbe hxr hu12
            obtain ⟨ni, hnie⟩ : ∃ ni, f[i].name = ni := ⟨_, rfl⟩
            rw [hnie] at d0
            have HNI := hide hnie
            by_cases heq : ni = s
            · have hte : (ni.toList == s.toList) = true := by rw [heq]; simp
              clear hnie
              go_wp2_with fail
              refine wp_region_facts_g (W := wr) (eqF [.pointer (some ⟨w.heap.size, 0, none⟩), .slice (some ⟨b, o, none⟩) f.length cap, .int .i64 i, .pointer (some ⟨b, o + i * 4, none⟩), .pointer (some ⟨b, o + i * 4, none⟩), .string ni, .slice (some ⟨lb, lo, none⟩) nl lc, .int .i64 n, .pointer (some ⟨lb, lo + n, none⟩), .string s, .bool true]) (by kernel_rfl) (by kernel_rfl) ?_ (Ext.refl _) (fun i v w w' h hx => eqF_ext h hx) ?_ ?_
              · simp [GuardsMet, eqF]
              · refine ⟨?_, ?_, ?_, ?_, ?_, ?_, ?_, ?_, ?_, ?_, ?_, trivial⟩
                · intro A wa hxa hd h0
                  obtain ⟨ea, rfl⟩ := Later.mk_ex hxa
                  have r4 := rest_at h0 4 (by kernel_rfl)
                  simp at r4
                  clear hd h0
                  go_simp
                  first | exact ⟨_, rfl, Ext.refl _, rfl⟩ | exact ⟨Ext.refl _, rfl⟩ | exact rfl | exact ⟨_, rfl, rfl⟩
                · intro A wa hxa hd h0
                  obtain ⟨ea, rfl⟩ := Later.mk_ex hxa
                  have q0 := depOn hd 0 63 (by kernel_rfl) rfl
                  simp [eqF] at q0
                  clear hd h0
                  go_simp
                  first | exact ⟨_, rfl, Ext.refl _, rfl⟩ | exact ⟨Ext.refl _, rfl⟩ | exact rfl | exact ⟨_, rfl, rfl⟩
                · intro A wa hxa hd h0
                  obtain ⟨ea, rfl⟩ := Later.mk_ex hxa
                  have r13 := rest_at h0 13 (by kernel_rfl)
                  simp at r13
                  clear hd h0
                  go_simp
                  first | exact ⟨_, rfl, Ext.refl _, rfl⟩ | exact ⟨Ext.refl _, rfl⟩ | exact rfl | exact ⟨_, rfl, rfl⟩
                · intro A wa hxa hd h0
                  obtain ⟨ea, rfl⟩ := Later.mk_ex hxa
                  have q1 := depOn hd 1 64 (by kernel_rfl) rfl
                  simp [eqF] at q1
                  have q2 := depOn hd 2 65 (by kernel_rfl) rfl
                  simp [eqF] at q2
                  clear hd h0
                  go_simp
                  first | exact ⟨_, rfl, Ext.refl _, rfl⟩ | exact ⟨Ext.refl _, rfl⟩ | exact rfl | exact ⟨_, rfl, rfl⟩
                · intro A wa hxa hd h0
                  obtain ⟨ea, rfl⟩ := Later.mk_ex hxa
                  have q3 := depOn hd 3 66 (by kernel_rfl) rfl
                  simp [eqF] at q3
                  clear hd h0
                  go_simp
                  first | exact ⟨_, rfl, Ext.refl _, rfl⟩ | exact ⟨Ext.refl _, rfl⟩ | exact rfl | exact ⟨_, rfl, rfl⟩
                · intro A wa hxa hd h0
                  obtain ⟨ea, rfl⟩ := Later.mk_ex hxa
                  have q4 := depOn hd 4 67 (by kernel_rfl) rfl
                  simp [eqF] at q4
                  clear hd h0
                  go_simp
                  first | exact ⟨_, rfl, Ext.refl _, rfl⟩ | exact ⟨Ext.refl _, rfl⟩ | exact rfl | exact ⟨_, rfl, rfl⟩
                · intro A wa hxa hd h0
                  obtain ⟨ea, rfl⟩ := Later.mk_ex hxa
                  have r10 := rest_at h0 10 (by kernel_rfl)
                  simp at r10
                  clear hd h0
                  go_simp
                  first | exact ⟨_, rfl, Ext.refl _, rfl⟩ | exact ⟨Ext.refl _, rfl⟩ | exact rfl | exact ⟨_, rfl, rfl⟩
                · intro A wa hxa hd h0
                  obtain ⟨ea, rfl⟩ := Later.mk_ex hxa
                  have r2 := rest_at h0 2 (by kernel_rfl)
                  simp at r2
                  clear hd h0
                  go_simp
                  first | exact ⟨_, rfl, Ext.refl _, rfl⟩ | exact ⟨Ext.refl _, rfl⟩ | exact rfl | exact ⟨_, rfl, rfl⟩
                · intro A wa hxa hd h0
                  obtain ⟨ea, rfl⟩ := Later.mk_ex hxa
                  have q6 := depOn hd 6 69 (by kernel_rfl) rfl
                  simp [eqF] at q6
                  have q7 := depOn hd 7 70 (by kernel_rfl) rfl
                  simp [eqF] at q7
                  clear hd h0
                  go_simp
                  first | exact ⟨_, rfl, Ext.refl _, rfl⟩ | exact ⟨Ext.refl _, rfl⟩ | exact rfl | exact ⟨_, rfl, rfl⟩
                · intro A wa hxa hd h0
                  obtain ⟨ea, rfl⟩ := Later.mk_ex hxa
                  have q8 := depOn hd 8 71 (by kernel_rfl) rfl
                  simp [eqF] at q8
                  clear hd h0
                  go_simp
                  first | exact ⟨_, rfl, Ext.refl _, rfl⟩ | exact ⟨Ext.refl _, rfl⟩ | exact rfl | exact ⟨_, rfl, rfl⟩
                · intro A wa hxa hd h0
                  obtain ⟨ea, rfl⟩ := Later.mk_ex hxa
                  have q5 := depOn hd 5 68 (by kernel_rfl) rfl
                  simp [eqF] at q5
                  have q9 := depOn hd 9 72 (by kernel_rfl) rfl
                  simp [eqF] at q9
                  clear hd h0
                  go_simp
                  first | exact ⟨_, rfl, Ext.refl _, rfl⟩ | exact ⟨Ext.refl _, rfl⟩ | exact rfl | exact ⟨_, rfl, rfl⟩
              · intro A wa hk
                obtain ⟨hxa, hsz, hdf, hdn, hrs⟩ := hk
                obtain ⟨ea, rfl⟩ := Later.mk_ex hxa
                have k0 := rest_at hrs 0 (by kernel_rfl)
                simp at k0
                have k1 := rest_at hrs 1 (by kernel_rfl)
                simp at k1
                have k2 := rest_at hrs 2 (by kernel_rfl)
                simp at k2
                have k3 := rest_at hrs 3 (by kernel_rfl)
                simp at k3
                have k4 := rest_at hrs 4 (by kernel_rfl)
                simp at k4
                have k5 := rest_at hrs 5 (by kernel_rfl)
                simp at k5
                have k6 := rest_at hrs 6 (by kernel_rfl)
                simp at k6
                have k7 := rest_at hrs 7 (by kernel_rfl)
                simp at k7
                have k8 := rest_at hrs 8 (by kernel_rfl)
                simp at k8
                have k9 := rest_at hrs 9 (by kernel_rfl)
                simp at k9
                have k10 := rest_at hrs 10 (by kernel_rfl)
                simp at k10
                have k11 := rest_at hrs 11 (by kernel_rfl)
                simp at k11
                have k12 := rest_at hrs 12 (by kernel_rfl)
                simp at k12
                have k13 := rest_at hrs 13 (by kernel_rfl)
                simp at k13
                have k14 := rest_at hrs 14 (by kernel_rfl)
                simp at k14
                have k15 := rest_at hrs 15 (by kernel_rfl)
                simp at k15
                have k16 := rest_at hrs 16 (by kernel_rfl)
                simp at k16
                have k17 := rest_at hrs 17 (by kernel_rfl)
                simp at k17
                have k18 := rest_at hrs 18 (by kernel_rfl)
                simp at k18
                have k19 := rest_at hrs 19 (by kernel_rfl)
                simp at k19
                have k20 := rest_at hrs 20 (by kernel_rfl)
                simp at k20
                have k21 := rest_at hrs 21 (by kernel_rfl)
                simp at k21
                have k22 := rest_at hrs 22 (by kernel_rfl)
                simp at k22
                have k23 := rest_at hrs 23 (by kernel_rfl)
                simp at k23
                have k24 := rest_at hrs 24 (by kernel_rfl)
                simp at k24
                have k25 := rest_at hrs 25 (by kernel_rfl)
                simp at k25
                have k26 := rest_at hrs 26 (by kernel_rfl)
                simp at k26
                have k27 := rest_at hrs 27 (by kernel_rfl)
                simp at k27
                have k28 := rest_at hrs 28 (by kernel_rfl)
                simp at k28
                have k29 := rest_at hrs 29 (by kernel_rfl)
                simp at k29
                have k30 := rest_at hrs 30 (by kernel_rfl)
                simp at k30
                have k31 := rest_at hrs 31 (by kernel_rfl)
                simp at k31
                have k32 := rest_at hrs 32 (by kernel_rfl)
                simp at k32
                have k33 := rest_at hrs 33 (by kernel_rfl)
                simp at k33
                have k34 := rest_at hrs 34 (by kernel_rfl)
                simp at k34
                have k35 := rest_at hrs 35 (by kernel_rfl)
                simp at k35
                have k36 := rest_at hrs 36 (by kernel_rfl)
                simp at k36
                have k37 := rest_at hrs 37 (by kernel_rfl)
                simp at k37
                have k38 := rest_at hrs 38 (by kernel_rfl)
                simp at k38
                have k39 := rest_at hrs 39 (by kernel_rfl)
                simp at k39
                have k40 := rest_at hrs 40 (by kernel_rfl)
                simp at k40
                have k41 := rest_at hrs 41 (by kernel_rfl)
                simp at k41
                have k42 := rest_at hrs 42 (by kernel_rfl)
                simp at k42
                have k43 := rest_at hrs 43 (by kernel_rfl)
                simp at k43
                have k44 := rest_at hrs 44 (by kernel_rfl)
                simp at k44
                have k45 := rest_at hrs 45 (by kernel_rfl)
                simp at k45
                have k46 := rest_at hrs 46 (by kernel_rfl)
                simp at k46
                have k47 := rest_at hrs 47 (by kernel_rfl)
                simp at k47
                have k48 := rest_at hrs 48 (by kernel_rfl)
                simp at k48
                have k49 := rest_at hrs 49 (by kernel_rfl)
                simp at k49
                have k50 := rest_at hrs 50 (by kernel_rfl)
                simp at k50
                have k51 := rest_at hrs 51 (by kernel_rfl)
                simp at k51
                have k52 := rest_at hrs 52 (by kernel_rfl)
                simp at k52
                have k53 := rest_at hrs 53 (by kernel_rfl)
                simp at k53
                have k54 := rest_at hrs 54 (by kernel_rfl)
                simp at k54
                have k55 := rest_at hrs 55 (by kernel_rfl)
                simp at k55
                have k56 := rest_at hrs 56 (by kernel_rfl)
                simp at k56
                have k57 := rest_at hrs 57 (by kernel_rfl)
                simp at k57
                have k58 := rest_at hrs 58 (by kernel_rfl)
                simp at k58
                have k59 := rest_at hrs 59 (by kernel_rfl)
                simp at k59
                have k60 := rest_at hrs 60 (by kernel_rfl)
                simp at k60
                have k61 := rest_at hrs 61 (by kernel_rfl)
                simp at k61
                have k62 := rest_at hrs 62 (by kernel_rfl)
                simp at k62
                have k74 := rest_at hrs 74 (by kernel_rfl)
                simp at k74
                have k75 := rest_at hrs 75 (by kernel_rfl)
                simp at k75
                have k76 := rest_at hrs 76 (by kernel_rfl)
                simp at k76
                have k77 := rest_at hrs 77 (by kernel_rfl)
                simp at k77
                have k78 := rest_at hrs 78 (by kernel_rfl)
                simp at k78
                have k79 := rest_at hrs 79 (by kernel_rfl)
                simp at k79
                have k80 := rest_at hrs 80 (by kernel_rfl)
                simp at k80
                have k81 := rest_at hrs 81 (by kernel_rfl)
                simp at k81
                have k82 := rest_at hrs 82 (by kernel_rfl)
                simp at k82
                have k83 := rest_at hrs 83 (by kernel_rfl)
                simp at k83
                have k84 := rest_at hrs 84 (by kernel_rfl)
                simp at k84
                have k85 := rest_at hrs 85 (by kernel_rfl)
                simp at k85
                have k86 := rest_at hrs 86 (by kernel_rfl)
                simp at k86
                have k87 := rest_at hrs 87 (by kernel_rfl)
                simp at k87
                have k88 := rest_at hrs 88 (by kernel_rfl)
                simp at k88
                have k89 := rest_at hrs 89 (by kernel_rfl)
                simp at k89
                have k90 := rest_at hrs 90 (by kernel_rfl)
                simp at k90
                have k91 := rest_at hrs 91 (by kernel_rfl)
                simp at k91
                have k92 := rest_at hrs 92 (by kernel_rfl)
                simp at k92
                have k93 := rest_at hrs 93 (by kernel_rfl)
                simp at k93
                have k94 := rest_at hrs 94 (by kernel_rfl)
                simp at k94
                have k95 := rest_at hrs 95 (by kernel_rfl)
                simp at k95
                have k96 := rest_at hrs 96 (by kernel_rfl)
                simp at k96
                have k97 := rest_at hrs 97 (by kernel_rfl)
                simp at k97
                have k73 : A.tmps.getD 73 undef = .bool true := hdn 10 73 rfl rfl
                clear hdn hrs
                rw [act_lit hsz hdf]
                simp [List.range, List.range.loop] at k0 k1 k2 k3 k4 k5 k6 k7 k8 k9 k10 k11 k12 k13 k14 k15 k16 k17 k18 k19 k20 k21 k22 k23 k24 k25 k26 k27 k28 k29 k30 k31 k32 k33 k34 k35 k36 k37 k38 k39 k40 k41 k42 k43 k44 k45 k46 k47 k48 k49 k50 k51 k52 k53 k54 k55 k56 k57 k58 k59 k60 k61 k62 k74 k75 k76 k77 k78 k79 k80 k81 k82 k83 k84 k85 k86 k87 k88 k89 k90 k91 k92 k93 k94 k95 k96 k97 k73
                simp [List.range, List.range.loop, k0, k1, k2, k3, k4, k5, k6, k7, k8, k9, k10, k11, k12, k13, k14, k15, k16, k17, k18, k19, k20, k21, k22, k23, k24, k25, k26, k27, k28, k29, k30, k31, k32, k33, k34, k35, k36, k37, k38, k39, k40, k41, k42, k43, k44, k45, k46, k47, k48, k49, k50, k51, k52, k53, k54, k55, k56, k57, k58, k59, k60, k61, k62, k74, k75, k76, k77, k78, k79, k80, k81, k82, k83, k84, k85, k86, k87, k88, k89, k90, k91, k92, k93, k94, k95, k96, k97, k73]
                clear k0 k1 k2 k3 k4 k5 k6 k7 k8 k9 k10 k11 k12 k13 k14 k15 k16 k17 k18 k19 k20 k21 k22 k23 k24 k25 k26 k27 k28 k29 k30 k31 k32 k33 k34 k35 k36 k37 k38 k39 k40 k41 k42 k43 k44 k45 k46 k47 k48 k49 k50 k51 k52 k53 k54 k55 k56 k57 k58 k59 k60 k61 k62 k74 k75 k76 k77 k78 k79 k80 k81 k82 k83 k84 k85 k86 k87 k88 k89 k90 k91 k92 k93 k94 k95 k96 k97 k73 hsz hdf
                generalize A.tmps[63]?.getD undef = A63 at *
                generalize A.tmps[64]?.getD undef = A64 at *
                generalize A.tmps[65]?.getD undef = A65 at *
                generalize A.tmps[66]?.getD undef = A66 at *
                generalize A.tmps[67]?.getD undef = A67 at *
                generalize A.tmps[68]?.getD undef = A68 at *
                generalize A.tmps[69]?.getD undef = A69 at *
                generalize A.tmps[70]?.getD undef = A70 at *
                generalize A.tmps[71]?.getD undef = A71 at *
                generalize A.tmps[72]?.getD undef = A72 at *
                have hxz := HXR.out.trans ea.ext
                have HXZ := hide hxz
                go_wp2_with fail
                go_roundw
                case rel => exact ⟨i + 1, by omega, by go_num, HXZ.out, .inr ⟨i, hlt, rfl, by rw [HNI.out]; exact heq⟩⟩
                case measure => simp [intOf]; omega
            · have hte : (ni.toList == s.toList) = false := text_ne heq
              clear hnie
              go_wp2_with fail
              refine wp_region_facts_g (W := wr) (eqF [.pointer (some ⟨w.heap.size, 0, none⟩), .slice (some ⟨b, o, none⟩) f.length cap, .int .i64 i, .pointer (some ⟨b, o + i * 4, none⟩), .pointer (some ⟨b, o + i * 4, none⟩), .string ni, .slice (some ⟨lb, lo, none⟩) nl lc, .int .i64 n, .pointer (some ⟨lb, lo + n, none⟩), .string s, .bool false]) (by kernel_rfl) (by kernel_rfl) ?_ (Ext.refl _) (fun i v w w' h hx => eqF_ext h hx) ?_ ?_
              · simp [GuardsMet, eqF]
              · refine ⟨?_, ?_, ?_, ?_, ?_, ?_, ?_, ?_, ?_, ?_, ?_, trivial⟩
                · intro A wa hxa hd h0
                  obtain ⟨ea, rfl⟩ := Later.mk_ex hxa
                  have r4 := rest_at h0 4 (by kernel_rfl)
                  simp at r4
                  clear hd h0
                  go_simp
                  first | exact ⟨_, rfl, Ext.refl _, rfl⟩ | exact ⟨Ext.refl _, rfl⟩ | exact rfl | exact ⟨_, rfl, rfl⟩
                · intro A wa hxa hd h0
                  obtain ⟨ea, rfl⟩ := Later.mk_ex hxa
                  have q0 := depOn hd 0 63 (by kernel_rfl) rfl
                  simp [eqF] at q0
                  clear hd h0
                  go_simp
                  first | exact ⟨_, rfl, Ext.refl _, rfl⟩ | exact ⟨Ext.refl _, rfl⟩ | exact rfl | exact ⟨_, rfl, rfl⟩
                · intro A wa hxa hd h0
                  obtain ⟨ea, rfl⟩ := Later.mk_ex hxa
                  have r13 := rest_at h0 13 (by kernel_rfl)
                  simp at r13
                  clear hd h0
                  go_simp
                  first | exact ⟨_, rfl, Ext.refl _, rfl⟩ | exact ⟨Ext.refl _, rfl⟩ | exact rfl | exact ⟨_, rfl, rfl⟩
                · intro A wa hxa hd h0
                  obtain ⟨ea, rfl⟩ := Later.mk_ex hxa
                  have q1 := depOn hd 1 64 (by kernel_rfl) rfl
                  simp [eqF] at q1
                  have q2 := depOn hd 2 65 (by kernel_rfl) rfl
                  simp [eqF] at q2
                  clear hd h0
                  go_simp
                  first | exact ⟨_, rfl, Ext.refl _, rfl⟩ | exact ⟨Ext.refl _, rfl⟩ | exact rfl | exact ⟨_, rfl, rfl⟩
                · intro A wa hxa hd h0
                  obtain ⟨ea, rfl⟩ := Later.mk_ex hxa
                  have q3 := depOn hd 3 66 (by kernel_rfl) rfl
                  simp [eqF] at q3
                  clear hd h0
                  go_simp
                  first | exact ⟨_, rfl, Ext.refl _, rfl⟩ | exact ⟨Ext.refl _, rfl⟩ | exact rfl | exact ⟨_, rfl, rfl⟩
                · intro A wa hxa hd h0
                  obtain ⟨ea, rfl⟩ := Later.mk_ex hxa
                  have q4 := depOn hd 4 67 (by kernel_rfl) rfl
                  simp [eqF] at q4
                  clear hd h0
                  go_simp
                  first | exact ⟨_, rfl, Ext.refl _, rfl⟩ | exact ⟨Ext.refl _, rfl⟩ | exact rfl | exact ⟨_, rfl, rfl⟩
                · intro A wa hxa hd h0
                  obtain ⟨ea, rfl⟩ := Later.mk_ex hxa
                  have r10 := rest_at h0 10 (by kernel_rfl)
                  simp at r10
                  clear hd h0
                  go_simp
                  first | exact ⟨_, rfl, Ext.refl _, rfl⟩ | exact ⟨Ext.refl _, rfl⟩ | exact rfl | exact ⟨_, rfl, rfl⟩
                · intro A wa hxa hd h0
                  obtain ⟨ea, rfl⟩ := Later.mk_ex hxa
                  have r2 := rest_at h0 2 (by kernel_rfl)
                  simp at r2
                  clear hd h0
                  go_simp
                  first | exact ⟨_, rfl, Ext.refl _, rfl⟩ | exact ⟨Ext.refl _, rfl⟩ | exact rfl | exact ⟨_, rfl, rfl⟩
                · intro A wa hxa hd h0
                  obtain ⟨ea, rfl⟩ := Later.mk_ex hxa
                  have q6 := depOn hd 6 69 (by kernel_rfl) rfl
                  simp [eqF] at q6
                  have q7 := depOn hd 7 70 (by kernel_rfl) rfl
                  simp [eqF] at q7
                  clear hd h0
                  go_simp
                  first | exact ⟨_, rfl, Ext.refl _, rfl⟩ | exact ⟨Ext.refl _, rfl⟩ | exact rfl | exact ⟨_, rfl, rfl⟩
                · intro A wa hxa hd h0
                  obtain ⟨ea, rfl⟩ := Later.mk_ex hxa
                  have q8 := depOn hd 8 71 (by kernel_rfl) rfl
                  simp [eqF] at q8
                  clear hd h0
                  go_simp
                  first | exact ⟨_, rfl, Ext.refl _, rfl⟩ | exact ⟨Ext.refl _, rfl⟩ | exact rfl | exact ⟨_, rfl, rfl⟩
                · intro A wa hxa hd h0
                  obtain ⟨ea, rfl⟩ := Later.mk_ex hxa
                  have q5 := depOn hd 5 68 (by kernel_rfl) rfl
                  simp [eqF] at q5
                  have q9 := depOn hd 9 72 (by kernel_rfl) rfl
                  simp [eqF] at q9
                  clear hd h0
                  go_simp
                  first | exact ⟨_, rfl, Ext.refl _, rfl⟩ | exact ⟨Ext.refl _, rfl⟩ | exact rfl | exact ⟨_, rfl, rfl⟩
              · intro A wa hk
                obtain ⟨hxa, hsz, hdf, hdn, hrs⟩ := hk
                obtain ⟨ea, rfl⟩ := Later.mk_ex hxa
                have k0 := rest_at hrs 0 (by kernel_rfl)
                simp at k0
                have k1 := rest_at hrs 1 (by kernel_rfl)
                simp at k1
                have k2 := rest_at hrs 2 (by kernel_rfl)
                simp at k2
                have k3 := rest_at hrs 3 (by kernel_rfl)
                simp at k3
                have k4 := rest_at hrs 4 (by kernel_rfl)
                simp at k4
                have k5 := rest_at hrs 5 (by kernel_rfl)
                simp at k5
                have k6 := rest_at hrs 6 (by kernel_rfl)
                simp at k6
                have k7 := rest_at hrs 7 (by kernel_rfl)
                simp at k7
                have k8 := rest_at hrs 8 (by kernel_rfl)
                simp at k8
                have k9 := rest_at hrs 9 (by kernel_rfl)
                simp at k9
                have k10 := rest_at hrs 10 (by kernel_rfl)
                simp at k10
                have k11 := rest_at hrs 11 (by kernel_rfl)
                simp at k11
                have k12 := rest_at hrs 12 (by kernel_rfl)
                simp at k12
                have k13 := rest_at hrs 13 (by kernel_rfl)
                simp at k13
                have k14 := rest_at hrs 14 (by kernel_rfl)
                simp at k14
                have k15 := rest_at hrs 15 (by kernel_rfl)
                simp at k15
                have k16 := rest_at hrs 16 (by kernel_rfl)
                simp at k16
                have k17 := rest_at hrs 17 (by kernel_rfl)
                simp at k17
                have k18 := rest_at hrs 18 (by kernel_rfl)
                simp at k18
                have k19 := rest_at hrs 19 (by kernel_rfl)
                simp at k19
                have k20 := rest_at hrs 20 (by kernel_rfl)
                simp at k20
                have k21 := rest_at hrs 21 (by kernel_rfl)
                simp at k21
                have k22 := rest_at hrs 22 (by kernel_rfl)
                simp at k22
                have k23 := rest_at hrs 23 (by kernel_rfl)
                simp at k23
                have k24 := rest_at hrs 24 (by kernel_rfl)
                simp at k24
                have k25 := rest_at hrs 25 (by kernel_rfl)
                simp at k25
                have k26 := rest_at hrs 26 (by kernel_rfl)
                simp at k26
                have k27 := rest_at hrs 27 (by kernel_rfl)
                simp at k27
                have k28 := rest_at hrs 28 (by kernel_rfl)
                simp at k28
                have k29 := rest_at hrs 29 (by kernel_rfl)
                simp at k29
                have k30 := rest_at hrs 30 (by kernel_rfl)
                simp at k30
                have k31 := rest_at hrs 31 (by kernel_rfl)
                simp at k31
                have k32 := rest_at hrs 32 (by kernel_rfl)
                simp at k32
                have k33 := rest_at hrs 33 (by kernel_rfl)
                simp at k33
                have k34 := rest_at hrs 34 (by kernel_rfl)
                simp at k34
                have k35 := rest_at hrs 35 (by kernel_rfl)
                simp at k35
                have k36 := rest_at hrs 36 (by kernel_rfl)
                simp at k36
                have k37 := rest_at hrs 37 (by kernel_rfl)
                simp at k37
                have k38 := rest_at hrs 38 (by kernel_rfl)
                simp at k38
                have k39 := rest_at hrs 39 (by kernel_rfl)
                simp at k39
                have k40 := rest_at hrs 40 (by kernel_rfl)
                simp at k40
                have k41 := rest_at hrs 41 (by kernel_rfl)
                simp at k41
                have k42 := rest_at hrs 42 (by kernel_rfl)
                simp at k42
                have k43 := rest_at hrs 43 (by kernel_rfl)
                simp at k43
                have k44 := rest_at hrs 44 (by kernel_rfl)
                simp at k44
                have k45 := rest_at hrs 45 (by kernel_rfl)
                simp at k45
                have k46 := rest_at hrs 46 (by kernel_rfl)
                simp at k46
                have k47 := rest_at hrs 47 (by kernel_rfl)
                simp at k47
                have k48 := rest_at hrs 48 (by kernel_rfl)
                simp at k48
                have k49 := rest_at hrs 49 (by kernel_rfl)
                simp at k49
                have k50 := rest_at hrs 50 (by kernel_rfl)
                simp at k50
                have k51 := rest_at hrs 51 (by kernel_rfl)
                simp at k51
                have k52 := rest_at hrs 52 (by kernel_rfl)
                simp at k52
                have k53 := rest_at hrs 53 (by kernel_rfl)
                simp at k53
                have k54 := rest_at hrs 54 (by kernel_rfl)
                simp at k54
                have k55 := rest_at hrs 55 (by kernel_rfl)
                simp at k55
                have k56 := rest_at hrs 56 (by kernel_rfl)
                simp at k56
                have k57 := rest_at hrs 57 (by kernel_rfl)
                simp at k57
                have k58 := rest_at hrs 58 (by kernel_rfl)
                simp at k58
                have k59 := rest_at hrs 59 (by kernel_rfl)
                simp at k59
                have k60 := rest_at hrs 60 (by kernel_rfl)
                simp at k60
                have k61 := rest_at hrs 61 (by kernel_rfl)
                simp at k61
                have k62 := rest_at hrs 62 (by kernel_rfl)
                simp at k62
                have k74 := rest_at hrs 74 (by kernel_rfl)
                simp at k74
                have k75 := rest_at hrs 75 (by kernel_rfl)
                simp at k75
                have k76 := rest_at hrs 76 (by kernel_rfl)
                simp at k76
                have k77 := rest_at hrs 77 (by kernel_rfl)
                simp at k77
                have k78 := rest_at hrs 78 (by kernel_rfl)
                simp at k78
                have k79 := rest_at hrs 79 (by kernel_rfl)
                simp at k79
                have k80 := rest_at hrs 80 (by kernel_rfl)
                simp at k80
                have k81 := rest_at hrs 81 (by kernel_rfl)
                simp at k81
                have k82 := rest_at hrs 82 (by kernel_rfl)
                simp at k82
                have k83 := rest_at hrs 83 (by kernel_rfl)
                simp at k83
                have k84 := rest_at hrs 84 (by kernel_rfl)
                simp at k84
                have k85 := rest_at hrs 85 (by kernel_rfl)
                simp at k85
                have k86 := rest_at hrs 86 (by kernel_rfl)
                simp at k86
                have k87 := rest_at hrs 87 (by kernel_rfl)
                simp at k87
                have k88 := rest_at hrs 88 (by kernel_rfl)
                simp at k88
                have k89 := rest_at hrs 89 (by kernel_rfl)
                simp at k89
                have k90 := rest_at hrs 90 (by kernel_rfl)
                simp at k90
                have k91 := rest_at hrs 91 (by kernel_rfl)
                simp at k91
                have k92 := rest_at hrs 92 (by kernel_rfl)
                simp at k92
                have k93 := rest_at hrs 93 (by kernel_rfl)
                simp at k93
                have k94 := rest_at hrs 94 (by kernel_rfl)
                simp at k94
                have k95 := rest_at hrs 95 (by kernel_rfl)
                simp at k95
                have k96 := rest_at hrs 96 (by kernel_rfl)
                simp at k96
                have k97 := rest_at hrs 97 (by kernel_rfl)
                simp at k97
                have k73 : A.tmps.getD 73 undef = .bool false := hdn 10 73 rfl rfl
                clear hdn hrs
                rw [act_lit hsz hdf]
                simp [List.range, List.range.loop] at k0 k1 k2 k3 k4 k5 k6 k7 k8 k9 k10 k11 k12 k13 k14 k15 k16 k17 k18 k19 k20 k21 k22 k23 k24 k25 k26 k27 k28 k29 k30 k31 k32 k33 k34 k35 k36 k37 k38 k39 k40 k41 k42 k43 k44 k45 k46 k47 k48 k49 k50 k51 k52 k53 k54 k55 k56 k57 k58 k59 k60 k61 k62 k74 k75 k76 k77 k78 k79 k80 k81 k82 k83 k84 k85 k86 k87 k88 k89 k90 k91 k92 k93 k94 k95 k96 k97 k73
                simp [List.range, List.range.loop, k0, k1, k2, k3, k4, k5, k6, k7, k8, k9, k10, k11, k12, k13, k14, k15, k16, k17, k18, k19, k20, k21, k22, k23, k24, k25, k26, k27, k28, k29, k30, k31, k32, k33, k34, k35, k36, k37, k38, k39, k40, k41, k42, k43, k44, k45, k46, k47, k48, k49, k50, k51, k52, k53, k54, k55, k56, k57, k58, k59, k60, k61, k62, k74, k75, k76, k77, k78, k79, k80, k81, k82, k83, k84, k85, k86, k87, k88, k89, k90, k91, k92, k93, k94, k95, k96, k97, k73]
                clear k0 k1 k2 k3 k4 k5 k6 k7 k8 k9 k10 k11 k12 k13 k14 k15 k16 k17 k18 k19 k20 k21 k22 k23 k24 k25 k26 k27 k28 k29 k30 k31 k32 k33 k34 k35 k36 k37 k38 k39 k40 k41 k42 k43 k44 k45 k46 k47 k48 k49 k50 k51 k52 k53 k54 k55 k56 k57 k58 k59 k60 k61 k62 k74 k75 k76 k77 k78 k79 k80 k81 k82 k83 k84 k85 k86 k87 k88 k89 k90 k91 k92 k93 k94 k95 k96 k97 k73 hsz hdf
                generalize A.tmps[63]?.getD undef = A63 at *
                generalize A.tmps[64]?.getD undef = A64 at *
                generalize A.tmps[65]?.getD undef = A65 at *
                generalize A.tmps[66]?.getD undef = A66 at *
                generalize A.tmps[67]?.getD undef = A67 at *
                generalize A.tmps[68]?.getD undef = A68 at *
                generalize A.tmps[69]?.getD undef = A69 at *
                generalize A.tmps[70]?.getD undef = A70 at *
                generalize A.tmps[71]?.getD undef = A71 at *
                generalize A.tmps[72]?.getD undef = A72 at *
                have hxz := HXR.out.trans ea.ext
                have HXZ := hide hxz
                go_wp2_with fail
                go_roundw
                case rel =>
                  refine ⟨i + 1, by omega, by go_num, HXZ.out, ?_⟩
                  rcases HKV.out with ⟨h1, h2⟩ | h
                  · refine .inl ⟨h1, fun j h hj => ?_⟩
                    by_cases hji : j = i
                    · subst hji; rw [HNI.out]; exact heq
                    · exact h2 j h (by omega)
                  · exact .inr h
                case measure => simp [intOf]; omega
          · have hil : i = f.length := by omega
            obtain ⟨k, hk, rfl, hkn⟩ : ∃ j, ∃ h : j < f.length, u12 = .int .i64 (j : Nat) ∧ f[j].name = s := by
              rcases HKV.out with ⟨-, h2⟩ | h
              · obtain ⟨m, hm, hmn⟩ := List.mem_map.1 HNA.out
                obtain ⟨j, hj, rfl⟩ := List.getElem_of_mem hm
                exact absurd hmn (h2 j hj (by omega))
              · exact h
            subst hil
            obtain ⟨b', o', v0, v1, v2, v3, hbe, hbB, hR, hC, o0, o1, o2, o3⟩ := HROW.out.open4 hk
            obtain ⟨rfl, rfl⟩ : b = b' ∧ o = o' := by simpa using hbe
            have HRM := hide hR
            obtain ⟨v1', v2', v3', hcs, -, -, -⟩ := hR
            simp only [List.cons.injEq, and_true] at hcs
            obtain ⟨rfl, rfl, rfl, rfl⟩ := hcs
            have X6 := hide (X5.out.trans hxr)
            obtain ⟨d0, d1, d2, d3⟩ := (hC.ext X6.out).get4
            have hsk := msize_mem sizeM f f[k] (List.getElem_mem hk)
            have GA := hide (rAll_any B f[k] wr [.string f[k].name, v1, v2, v3] (HRM.out.ext X6.out hB) (Nat.le_trans hB X6.out.size) (by omega))
            rw [hkn] at d0 GA
            have BX6 := hide (BX0.out.ext hxr)
            have HKN := hide hkn
            clear hbe hC hxr HKV hkn
            obtain ⟨wq, hwq⟩ : ∃ wq, wq = wr := ⟨_, rfl⟩
            subst hwq
            go_wp2_with fail
            go_at_call 27
            refine GA.out.mono ?_
            rintro _ w6 ⟨v6, rfl, hs6, hx6⟩
            have X7 := hide (X6.out.trans hx6)
            have BX7 := hide (BX6.out.ext hx6)
            have hal := allM_len (m := f[k])
            have GM := hide (refAmong_any (allM f[k]) nm w6 v6 hs6 (by omega))
            clear hs6 hx6 GA d0 d1 d2 d3 hfb
            go_wp2_with fail
            go_at_call 26
            refine GM.out.mono ?_
            rintro _ w7 ⟨rfl, h7⟩
            subst h7
            by_cases hin : nm ∈ allM f[k]
            · rw [yes_iff.2 hin]
              go_wp2_with fail
              go_ret
              exact ⟨rfl, X7.out⟩
            · rw [yes_no.2 hin]
              have hme : sizeM f[k] = 1 + msize sizeB f[k].params + msize sizeP f[k].ports + msize sizeI f[k].items := rfl
              have hil2 := length_le_msize sizeI f[k].items sizeI_pos
              have HP72 := hide (ring_law HCK.out hfew hk hnp HSOME.out (by rw [HKN.out]; exact HRE.out) hin)
              have e5 := BX7.out.later1
              have HSW := hide (fun (e : Later w7) => show Sl (RM e.w e.w.heap.size) e.w e.w.heap.size 4 f (.slice (some ⟨b, o, none⟩) f.length cap) from (HS.out.extRM (X7.out.trans e.ext) hB).moreRM (Nat.le_trans hB (X7.out.trans e.ext).size))
              have HTB := hide (fun (e : Later w7) => HT.out.ext (X7.out.trans e.ext))
              have HPS := hide (show msize sizeM (putM f k [iInst nm top]) ≤ 10000000 from by rw [putM_size hk]; show _ + 1 ≤ _; omega)
              have HPV := hide (putM_vm hk (it := iInst nm top) HVX.out (vi_iInst (by omega) (by omega)))
              go_wp2_with fail
              refine wp_region_facts_g (W := w7) (rgF f k (iInst nm top) (cInst nm top) [.bool true, .bool true, .agg #[.slice (some ⟨b, o, none⟩) f.length cap], .int .i64 k, .string nm, .string top, .agg (cInst nm top).toArray, undef, undef, .int .i64 72, .bool true, .bool true, .bool true] 7 8 0) (by kernel_rfl) (by kernel_rfl) ?_ (Ext.refl _) (fun i v w w' h hx => rgF_ext h hx) ?_ ?_
              · simp [GuardsMet, rgF]
              · refine ⟨?_, ?_, ?_, ?_, ?_, ?_, ?_, ?_, ?_, ?_, ?_, ?_, ?_, trivial⟩
                · intro A wa hxa hd h0
                  obtain ⟨ea, rfl⟩ := Later.mk_ex hxa
                  have r9 := rest_at h0 9 (by kernel_rfl)
                  simp at r9
                  clear hd h0
                  go_simp
                  first | exact ⟨_, rfl, Ext.refl _, rfl⟩ | exact ⟨Ext.refl _, rfl⟩ | exact rfl | exact ⟨_, rfl, rfl⟩
                · intro A wa hxa hd h0
                  obtain ⟨ea, rfl⟩ := Later.mk_ex hxa
                  have q0 := depOn hd 0 86 (by kernel_rfl) rfl
                  simp [rgF] at q0
                  clear hd h0
                  go_simp
                  first | exact ⟨_, rfl, Ext.refl _, rfl⟩ | exact ⟨Ext.refl _, rfl⟩ | exact rfl | exact ⟨_, rfl, rfl⟩
                · intro A wa hxa hd h0
                  obtain ⟨ea, rfl⟩ := Later.mk_ex hxa
                  have r4 := rest_at h0 4 (by kernel_rfl)
                  simp at r4
                  clear hd h0
                  go_simp
                  first | exact ⟨_, rfl, Ext.refl _, rfl⟩ | exact ⟨Ext.refl _, rfl⟩ | exact rfl | exact ⟨_, rfl, rfl⟩
                · intro A wa hxa hd h0
                  obtain ⟨ea, rfl⟩ := Later.mk_ex hxa
                  have r12 := rest_at h0 12 (by kernel_rfl)
                  simp at r12
                  clear hd h0
                  go_simp
                  first | exact ⟨_, rfl, Ext.refl _, rfl⟩ | exact ⟨Ext.refl _, rfl⟩ | exact rfl | exact ⟨_, rfl, rfl⟩
                · intro A wa hxa hd h0
                  obtain ⟨ea, rfl⟩ := Later.mk_ex hxa
                  have r3 := rest_at h0 3 (by kernel_rfl)
                  simp at r3
                  clear hd h0
                  go_simp
                  first | exact ⟨_, rfl, Ext.refl _, rfl⟩ | exact ⟨Ext.refl _, rfl⟩ | exact rfl | exact ⟨_, rfl, rfl⟩
                · intro A wa hxa hd h0
                  obtain ⟨ea, rfl⟩ := Later.mk_ex hxa
                  have r1 := rest_at h0 1 (by kernel_rfl)
                  simp at r1
                  clear hd h0
                  go_simp
                  first | exact ⟨_, rfl, Ext.refl _, rfl⟩ | exact ⟨Ext.refl _, rfl⟩ | exact rfl | exact ⟨_, rfl, rfl⟩
                · intro A wa hxa hd h0
                  obtain ⟨ea, rfl⟩ := Later.mk_ex hxa
                  have q4 := depOn hd 4 90 (by kernel_rfl) rfl
                  simp [rgF] at q4
                  have q5 := depOn hd 5 91 (by kernel_rfl) rfl
                  simp [rgF] at q5
                  clear hd h0
                  go_simp
                  refine (inst7_any nm top ea.w).mono ?_
                  rintro e w2 ⟨rfl, hx⟩
                  go_simp
                  first | exact ⟨_, rfl, hx, rfl⟩ | exact ⟨hx, rfl⟩ | exact rfl | exact ⟨_, rfl, rfl⟩
                · intro A wa hxa hd h0
                  obtain ⟨ea, rfl⟩ := Later.mk_ex hxa
                  have q6 := depOn hd 6 92 (by kernel_rfl) rfl
                  simp [rgF] at q6
                  clear hd h0
                  go_simp
                  first | exact ⟨_, rfl, Ext.new _ _, ea.w.heap.size, rfl, Blk.new _ _ (cInst nm top)⟩ | exact ⟨Ext.new _ _, ea.w.heap.size, rfl, Blk.new _ _ (cInst nm top)⟩ | (trace_state; fail)
                · intro A wa hxa hd h0
                  obtain ⟨ea, rfl⟩ := Later.mk_ex hxa
                  have q2 := depOn hd 2 88 (by kernel_rfl) rfl
                  simp [rgF] at q2
                  have q3 := depOn hd 3 89 (by kernel_rfl) rfl
                  simp [rgF] at q3
                  obtain ⟨g9, q7, hb9⟩ := depOn hd 7 93 (by kernel_rfl) rfl
                  simp at q7
                  clear hd h0
                  go_simp
                  refine (put7_any ea.w.heap.size f k hk [iInst nm top] ea.w _ _ (HSW.out ea) (Sl.one hb9.lt rfl hb9.cells (one_cInst nm top) (ri_iInst nm top)) (Nat.le_refl _) (by omega) (by simp) (by omega)).mono ?_
                  rintro e w2 ⟨v10, rfl, hx, hs10⟩
                  go_simp
                  first | exact ⟨_, rfl, hx, ⟨v10, rfl, hs10⟩⟩ | exact ⟨hx, ⟨v10, rfl, hs10⟩⟩ | exact ⟨v10, rfl, hs10⟩ | exact ⟨_, rfl, ⟨v10, rfl, hs10⟩⟩
                · intro A wa hxa hd h0
                  obtain ⟨ea, rfl⟩ := Later.mk_ex hxa
                  obtain ⟨v10, q8, hs10⟩ := depOn hd 8 94 (by kernel_rfl) rfl
                  simp at q8
                  clear hd h0
                  go_simp
                  refine (checkN_any ea.w.heap.size (putM f k [iInst nm top]) ea.w v10 (HTB.out ea) hs10 (Nat.le_refl _) HPS.out HPV.out).mono ?_
                  rintro e w2 ⟨rfl, hx⟩
                  rw [HP72.out]
                  go_simp
                  first | exact ⟨_, rfl, hx, rfl⟩ | exact ⟨hx, rfl⟩ | exact rfl | exact ⟨_, rfl, rfl⟩
                · intro A wa hxa hd h0
                  obtain ⟨ea, rfl⟩ := Later.mk_ex hxa
                  have q9 := depOn hd 9 95 (by kernel_rfl) rfl
                  simp [rgF] at q9
                  clear hd h0
                  go_simp
                  first | exact ⟨_, rfl, Ext.refl _, rfl⟩ | exact ⟨Ext.refl _, rfl⟩ | exact rfl | exact ⟨_, rfl, rfl⟩
                · intro A wa hxa hd h0
                  obtain ⟨ea, rfl⟩ := Later.mk_ex hxa
                  have q1 := depOn hd 1 87 (by kernel_rfl) rfl
                  simp [rgF] at q1
                  have q10 := depOn hd 10 96 (by kernel_rfl) rfl
                  simp [rgF] at q10
                  clear hd h0
                  go_simp
                  first | exact ⟨_, rfl, Ext.refl _, rfl⟩ | exact ⟨Ext.refl _, rfl⟩ | exact rfl | exact ⟨_, rfl, rfl⟩
                · intro A wa hxa hd h0
                  obtain ⟨ea, rfl⟩ := Later.mk_ex hxa
                  have q11 := depOn hd 11 97 (by kernel_rfl) rfl
                  simp [rgF] at q11
                  clear hd h0
                  go_simp
                  first | exact ⟨_, rfl, Ext.refl _, rfl⟩ | exact ⟨Ext.refl _, rfl⟩ | exact rfl | exact ⟨_, rfl, rfl⟩
              · intro A wa hk
                obtain ⟨hxa, hsz, hdf, hdn, hrs⟩ := hk
                obtain ⟨ea, rfl⟩ := Later.mk_ex hxa
                have k8 : A.tmps.getD 8 undef = .bool true := hdn 12 8 rfl rfl
                clear hdn hrs
                rw [act_lit hsz hdf]
                simp [List.range, List.range.loop] at k8
                simp [List.range, List.range.loop, k8]
                clear k8 hsz hdf
                generalize A.tmps[0]?.getD undef = A0 at *
                generalize A.tmps[1]?.getD undef = A1 at *
                generalize A.tmps[2]?.getD undef = A2 at *
                generalize A.tmps[3]?.getD undef = A3 at *
                generalize A.tmps[4]?.getD undef = A4 at *
                generalize A.tmps[5]?.getD undef = A5 at *
                generalize A.tmps[6]?.getD undef = A6 at *
                generalize A.tmps[7]?.getD undef = A7 at *
                generalize A.tmps[9]?.getD undef = A9 at *
                generalize A.tmps[10]?.getD undef = A10 at *
                generalize A.tmps[11]?.getD undef = A11 at *
                generalize A.tmps[12]?.getD undef = A12 at *
                generalize A.tmps[13]?.getD undef = A13 at *
                generalize A.tmps[14]?.getD undef = A14 at *
                generalize A.tmps[15]?.getD undef = A15 at *
                generalize A.tmps[16]?.getD undef = A16 at *
                generalize A.tmps[17]?.getD undef = A17 at *
                generalize A.tmps[18]?.getD undef = A18 at *
                generalize A.tmps[19]?.getD undef = A19 at *
                generalize A.tmps[20]?.getD undef = A20 at *
                generalize A.tmps[21]?.getD undef = A21 at *
                generalize A.tmps[22]?.getD undef = A22 at *
                generalize A.tmps[23]?.getD undef = A23 at *
                generalize A.tmps[24]?.getD undef = A24 at *
                generalize A.tmps[25]?.getD undef = A25 at *
                generalize A.tmps[26]?.getD undef = A26 at *
                generalize A.tmps[27]?.getD undef = A27 at *
                generalize A.tmps[28]?.getD undef = A28 at *
                generalize A.tmps[29]?.getD undef = A29 at *
                generalize A.tmps[30]?.getD undef = A30 at *
                generalize A.tmps[31]?.getD undef = A31 at *
                generalize A.tmps[32]?.getD undef = A32 at *
                generalize A.tmps[33]?.getD undef = A33 at *
                generalize A.tmps[34]?.getD undef = A34 at *
                generalize A.tmps[35]?.getD undef = A35 at *
                generalize A.tmps[36]?.getD undef = A36 at *
                generalize A.tmps[37]?.getD undef = A37 at *
                generalize A.tmps[38]?.getD undef = A38 at *
                generalize A.tmps[39]?.getD undef = A39 at *
                generalize A.tmps[40]?.getD undef = A40 at *
                generalize A.tmps[41]?.getD undef = A41 at *
                generalize A.tmps[42]?.getD undef = A42 at *
                generalize A.tmps[43]?.getD undef = A43 at *
                generalize A.tmps[44]?.getD undef = A44 at *
                generalize A.tmps[45]?.getD undef = A45 at *
                generalize A.tmps[46]?.getD undef = A46 at *
                generalize A.tmps[47]?.getD undef = A47 at *
                generalize A.tmps[48]?.getD undef = A48 at *
                generalize A.tmps[49]?.getD undef = A49 at *
                generalize A.tmps[50]?.getD undef = A50 at *
                generalize A.tmps[51]?.getD undef = A51 at *
                generalize A.tmps[52]?.getD undef = A52 at *
                generalize A.tmps[53]?.getD undef = A53 at *
                generalize A.tmps[54]?.getD undef = A54 at *
                generalize A.tmps[55]?.getD undef = A55 at *
                generalize A.tmps[56]?.getD undef = A56 at *
                generalize A.tmps[57]?.getD undef = A57 at *
                generalize A.tmps[58]?.getD undef = A58 at *
                generalize A.tmps[59]?.getD undef = A59 at *
                generalize A.tmps[60]?.getD undef = A60 at *
                generalize A.tmps[61]?.getD undef = A61 at *
                generalize A.tmps[62]?.getD undef = A62 at *
                generalize A.tmps[63]?.getD undef = A63 at *
                generalize A.tmps[64]?.getD undef = A64 at *
                generalize A.tmps[65]?.getD undef = A65 at *
                generalize A.tmps[66]?.getD undef = A66 at *
                generalize A.tmps[67]?.getD undef = A67 at *
                generalize A.tmps[68]?.getD undef = A68 at *
                generalize A.tmps[69]?.getD undef = A69 at *
                generalize A.tmps[70]?.getD undef = A70 at *
                generalize A.tmps[71]?.getD undef = A71 at *
                generalize A.tmps[72]?.getD undef = A72 at *
                generalize A.tmps[73]?.getD undef = A73 at *
                generalize A.tmps[74]?.getD undef = A74 at *
                generalize A.tmps[75]?.getD undef = A75 at *
                generalize A.tmps[76]?.getD undef = A76 at *
                generalize A.tmps[77]?.getD undef = A77 at *
                generalize A.tmps[78]?.getD undef = A78 at *
                generalize A.tmps[79]?.getD undef = A79 at *
                generalize A.tmps[80]?.getD undef = A80 at *
                generalize A.tmps[81]?.getD undef = A81 at *
                generalize A.tmps[82]?.getD undef = A82 at *
                generalize A.tmps[83]?.getD undef = A83 at *
                generalize A.tmps[84]?.getD undef = A84 at *
                generalize A.tmps[85]?.getD undef = A85 at *
                generalize A.tmps[86]?.getD undef = A86 at *
                generalize A.tmps[87]?.getD undef = A87 at *
                generalize A.tmps[88]?.getD undef = A88 at *
                generalize A.tmps[89]?.getD undef = A89 at *
                generalize A.tmps[90]?.getD undef = A90 at *
                generalize A.tmps[91]?.getD undef = A91 at *
                generalize A.tmps[92]?.getD undef = A92 at *
                generalize A.tmps[93]?.getD undef = A93 at *
                generalize A.tmps[94]?.getD undef = A94 at *
                generalize A.tmps[95]?.getD undef = A95 at *
                generalize A.tmps[96]?.getD undef = A96 at *
                generalize A.tmps[97]?.getD undef = A97 at *
                have X8 := hide (X7.out.trans ea.ext)
                go_wp2_with fail
                go_ret
                exact ⟨rfl, X8.out⟩
      · have hne : (c5 != 0) = true := by simpa using h5
        clear h5 hok5 hno5 hc5
        go_wp2_with fail
        go_ret
        exact ⟨rfl, X5.out⟩
    · have hne : (cx != 0) = true := by simpa using h0
      clear h0
      go_wp2_with fail
      go_ret
      exact ⟨rfl, X4.out⟩

end Go.Proofs.YtjoglnjpgkobeaaGreatDoor

/-
  THE ROW AND THE CARD OF THE LAW NamesRing: of every input of bulk at most 1048576 the law, run in the model from the tables that its row lists, returns true and leaves its arguments as they were. Conditions: those of the given statement, no others.
-/
namespace Go.Proofs.YtjoglnjpgkobeaaGreatDoor.namesRing
open Go Go.ChangeShapes Go.WideShapes Go.ChangeAt Go.RowKit
set_option linter.all false
set_option linter.unusedVariables false
set_option linter.unusedSimpArgs false
set_option linter.unusedVariables false
set_option linter.unusedSimpArgs false

set_option maxRecDepth 100000 in
/-- WHAT THE WALK GIVES, OF EVERY ARGUMENT AND EVERY WORLD THAT HOLDS THE TABLES. -/
theorem contract (H : Type) (enc : TypeId × Value → H) (W : World) (base : Nat) (args : Array Value) (ds gs : List (DataW H)) (before : List MemPlace)
    (hval : ∀ (j : Nat) t v, Tryz.f7.params[j]? = some t → args[j]? = some v → Value.okWide Tryz.prog W .any base t v)
    (hW : DataW.Whole enc Tryz.prog Tryz.f7.params.toList Rows.namesRingSpec.vars false W args.toList ds gs before) (hb : Rows.uptoSmall H (ds ++ gs) = true) (hL : laidMetH Tryz.prog Rows.namesRingUptoRow.laid W) (hsh : W.ShapedOpen Tryz.prog) :
    Calls Tryz.prog 7 args W fun e W' => ∃ v, e = .returned v ∧ Rows.namesRingSpec.post enc Tryz.prog Tryz.f7 false true false false W args v W' := by
  have hT : Tabs W := tabs_of hL hsh
  have hW' := hW
  obtain ⟨p, q, hA0, hV, rfl, -, -⟩ := hW
  have hA : DataW.TrodAll enc Tryz.prog W 0 (fun _ => true) true Tryz.f7.params.toList args.toList ds p := hA0
  rw [Tryz.params7] at hA
  have hval' := hval
  rw [Tryz.params7] at hval'
  obtain ⟨a0, vs0, d0, ds0, p0, q0, hargs, rfl, rfl, h0, r0⟩ := trodAll_cons hA
  obtain ⟨a1, vs1, d1, ds1, p1, q1, rfl, rfl, rfl, h1, r1⟩ := trodAll_cons r0
  obtain ⟨a2, vs2, d2, ds2, p2, q2, rfl, rfl, rfl, h2, r2⟩ := trodAll_cons r1
  obtain ⟨a3, vs3, d3, ds3, p3, q3, rfl, rfl, rfl, h3, r3⟩ := trodAll_cons r2
  obtain ⟨rfl, rfl, rfl⟩ := trodAll_nil r3
  obtain rfl : args = #[a0, a1, a2, a3] := by cases args; simp_all
  obtain ⟨rfl, rfl⟩ := trodVars_none hV
  have hb' := small_all hb
  simp only [List.append_nil, Rows.uptoBulkAll] at hb'
  obtain ⟨f0, v0, rfl, s0, w0, z0⟩ := open_file hval' 0 rfl rfl h0 (by omega)
  obtain ⟨x1, rfl, z1⟩ := open_str hval' 1 rfl rfl h1 (by omega)
  obtain ⟨x2, rfl, -⟩ := open_int hval' 2 rfl rfl h2
  obtain ⟨x3, rfl, z3⟩ := open_str hval' 3 rfl rfl h3 (by omega)
  refine (lawNRing_any W.heap.size f0 x1 x2 x3 W v0 hT (Nat.le_refl _) s0 (by omega) w0 (by omega) (by omega)).mono fun e W' he => ?_
  obtain ⟨rfl, hx⟩ := he
  exact ⟨_, rfl, post_true Tryz.underlying4 laidOut mapsIn full (s := Rows.namesRingSpec) (ds := [d0, d1, d2, d3]) (gs := []) rfl rfl (by rw [Tryz.params7]; decide) hW' rfl hx⟩

theorem reads (os : Os) {H : Type} (enc : TypeId × Value → H) : ∃ places, DataW.whole enc Tryz.prog ((laidWorld os).forCall (fun _ _ => 0) ⟨#[], #[zFile, (.string ⟨#[]⟩), .int .i64 0, (.string ⟨#[]⟩)], []⟩).memory Tryz.f7.params.toList Rows.namesRingSpec.vars false (#[zFile, (.string ⟨#[]⟩), .int .i64 0, (.string ⟨#[]⟩)] : Array Value).toList 8 = some ([zFileD, (.lit (.string [])), .lit (.int .i64 0), (.lit (.string []))], [], places) :=
  ⟨[], by kernel_rfl⟩

set_option maxRecDepth 100000 in
theorem lifted (os : Os) (started : os.Started) (H : Type) (enc : TypeId × Value → H) (F : Stop.Interp) :
    ReturnsInHanded {} Tryz.checked os 7 .any ((Rows.OpenSpec.upto Rows.namesRingSpec).preRow enc Tryz.prog Tryz.f7 Rows.namesRingUptoRow.domain false Rows.namesRingUptoRow.laid) (((Rows.OpenSpec.upto Rows.namesRingSpec).at F).post enc Tryz.prog Tryz.f7 false true false false) := by
  obtain ⟨places, hx⟩ := reads os enc
  refine returnsInHanded_of_row (C := Tryz.checked) (s := Rows.OpenSpec.upto Rows.namesRingSpec) ownNone started (by kernel_rfl) Tryz.func7
    (witness_row_at (enc := enc) (C := Tryz.checked) false (laidWorld os) #[zFile, (.string ⟨#[]⟩), .int .i64 0, (.string ⟨#[]⟩)] rfl (by kernel_rfl) (by kernel_rfl) (by kernel_rfl)
      (OpenSpec.preRow_of_cond 8 hx (by kernel_rfl) (fun k hk => by cases hk; kernel_rfl) (by kernel_rfl) (laid_met os _))) ?_
  intro W base args ds gs before hval hW _ hcond _ hL hsh _
  exact contract H enc W base args ds gs before hval hW (hcond _ rfl) hL hsh

theorem saidUpto : Rows.NamesRingUptoSaid :=
  OpenClaim.holds_of_cond 7 Tryz.f7 rfl rfl rfl rfl rfl rfl rfl ⟨rfl, rfl, rfl, rfl, rfl⟩ rfl rfl rfl rfl rfl (by kernel_rfl) Tryz.func7 (by kernel_rfl)
    (of_decide_eq_true (by kernel_rfl)) (by unfold Func.isWrapper; first | (rw [if_pos (by decide +kernel)]; kernel_rfl) | (rw [if_neg (by decide +kernel)]; exact ⟨rfl, rfl⟩))
    (fun os started H enc _ F => by rw [OpenClaim.pre_eq_preRow]; exact lifted os started H enc F)

/-- No parameter wants a stand-in; the program's own looks are off. -/
theorem plain (f : FuncId) (fn : Func) (hf : Tryz.pinned.checked.prog.funcNamed "filigree/filigreelaw07.NamesRing" = some f) (hfn : Tryz.pinned.checked.prog.funcs[f]? = some fn) :
    true = Tryz.pinned.checked.prog.looks [] ∧ ∀ (j : Nat) t, fn.params[j]? = some t → Tryz.pinned.checked.prog.wantsStandIn t = false := by
  obtain rfl : f = 7 := Option.some.inj ((show Tryz.prog.funcNamed "filigree/filigreelaw07.NamesRing" = some 7 by kernel_rfl).symm.trans hf) |>.symm
  obtain rfl : fn = Tryz.f7 := (Option.some.inj (Tryz.func7.symm.trans hfn)).symm
  refine ⟨by kernel_rfl, fun j t ht => ?_⟩
  rw [Tryz.params7] at ht
  have hm := Array.mem_of_getElem? ht
  simp only [List.mem_toArray, List.mem_cons, List.not_mem_nil, or_false] at hm
  rcases hm with rfl | rfl | rfl | rfl
  · exact (show Tryz.prog.wantsStandIn 24 = false by kernel_rfl)
  · exact (show Tryz.prog.wantsStandIn 9 = false by kernel_rfl)
  · exact (show Tryz.prog.wantsStandIn 3 = false by kernel_rfl)
  · exact (show Tryz.prog.wantsStandIn 9 = false by kernel_rfl)

/-- THE CARD -/
theorem cardUpto : Rows.NamesRingUptoCardSaid :=
  Claim7.holds_tied_plain_at .later [] _ _ _ _ saidUpto (fun _ h => by cases h) (by kernel_rfl) (fun _ h => by cases h) namesRingUpto_row_tie rfl ⟨rfl, rfl⟩ (by kernel_rfl) rfl plain (by kernel_rfl)
end Go.Proofs.YtjoglnjpgkobeaaGreatDoor.namesRing
