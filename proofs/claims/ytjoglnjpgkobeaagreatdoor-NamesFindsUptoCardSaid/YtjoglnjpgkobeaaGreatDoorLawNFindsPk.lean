/-
  THE LAW NamesFinds: WHAT IT COMPUTES.
-/
import Derived.Test.YtjoglnjpgkobeaaGreatDoorCards
import Derived.Test.YtjoglnjpgkobeaaGreatDoorTie
import Derived.Test.YtjoglnjpgkobeaaGreatDoorRUsePk
import Derived.Test.YtjoglnjpgkobeaaGreatDoorSameFPk
import Derived.Test.YtjoglnjpgkobeaaGreatDoorNUsesPk
import Derived.Test.YtjoglnjpgkobeaaGreatDoorFewPk
import Derived.Test.YtjoglnjpgkobeaaGreatDoorTabPk
import Derived.Test.YtjoglnjpgkobeaaGreatDoorShutMPk
namespace Go.Proofs.YtjoglnjpgkobeaaGreatDoor
open Go Go.RowKit
set_option linter.all false
set_option linter.unusedVariables false
set_option linter.unusedSimpArgs false
set_option linter.unusedVariables false
set_option linter.unusedSimpArgs false
attribute [local go_sem] run_store_one

def fnF (m : Mdl) (cs : List Value) (i : Nat) (v : Value) (w : World) : Prop := match i with
  | 0 => v = .agg cs.toArray
  | 1 => SStr w (usesM m) v
  | 2 => v = .agg cs.toArray
  | 3 => SStr w (usesM m) v
  | 4 => v = .bool true
  | 5 => v = .bool true
  | _ => True
theorem fnF_ext {m : Mdl} {cs : List Value} {i : Nat} {v : Value} {w w' : World} (h : fnF m cs i v w) (hx : Ext w w') : fnF m cs i v w' := by
  unfold fnF at *
  split at h <;> first | exact h | exact h.ext hx
theorem RM.one4 {w : World} {B : Nat} {x : Mdl} {c0 c1 c2 c3 : Value} (h : RM w B x [c0, c1, c2, c3]) : c0.oneCell' = true ∧ c1.oneCell' = true ∧ c2.oneCell' = true ∧ c3.oneCell' = true := by
  obtain ⟨v1, v2, v3, hcs, hp, hq, hi⟩ := h
  simp only [List.cons.injEq, and_true] at hcs
  obtain ⟨rfl, rfl, rfl, rfl⟩ := hcs
  exact ⟨rfl, hp.oneCell, hq.oneCell, hi.oneCell⟩
theorem all4 {c0 c1 c2 c3 : Value} (h : c0.oneCell' = true ∧ c1.oneCell' = true ∧ c2.oneCell' = true ∧ c3.oneCell' = true) : ∀ u ∈ [c0, c1, c2, c3], u.oneCell' = true := by
  intro u hu
  simp only [List.mem_cons, List.not_mem_nil, or_false] at hu
  rcases hu with rfl | rfl | rfl | rfl
  · exact h.1
  · exact h.2.1
  · exact h.2.2.1
  · exact h.2.2.2
theorem usesM_len (m : Mdl) : (usesM m).length ≤ sizeM m := by
  have h1 := addAll_le (ofIs m.items) []
  have h2 := ofIs_len m.items
  have hme : sizeM m = 1 + msize sizeB m.params + msize sizeP m.ports + msize sizeI m.items := rfl
  unfold usesM
  simp at h1
  omega

theorem msize_one7 (m : Mdl) : msize sizeM [m] = sizeM m := by simp [msize]
set_option maxRecDepth 20000 in
set_option maxHeartbeats 8000000 in
theorem lawNFinds_any (B : Nat) (f : List Mdl) (nm : ByteArray) (m : Mdl) (w : World) (vf : Value) (cs : List Value) (hT : Tabs w) (hB : B ≤ w.heap.size) (hS : Sl (RM w B) w B 4 f vf) (hM : RM w B m cs) (hsz : msize sizeM f ≤ 2000000) (hsz2 : sizeM m ≤ 2000000) (hz2 : nm.size ≤ 2000000) :
    Calls Tryz.prog 4 #[.agg #[vf], .string nm, .agg cs.toArray] w fun e w' => e = .returned (.bool true) ∧ Ext w w' := by
  have HS := hide hS
  have HT := hide hT
  have HM := hide hM
  have hln := length_le_msize sizeM f sizeM_pos
  have hul := usesM_len m
  have hme : sizeM m = 1 + msize sizeB m.params + msize sizeP m.ports + msize sizeI m.items := rfl
  obtain ⟨v1, v2, v3, rfl, hp, hq, hi⟩ := hM
  have ho1 := hp.oneCell
  have ho2 := hq.oneCell
  have ho3 := hi.oneCell
  obtain ⟨a, cap, rfl, -, -⟩ := hS
  obtain ⟨W1, hW1, hx1, hb1⟩ := box1 w (.slice a f.length cap) 24
  obtain ⟨W2, hW2, hx2, hb2⟩ := box4 W1 (.string m.name) v1 v2 v3 33
  have hV1 := hW1.symm
  have hV2 := hW2.symm
  have BX := hide (hb1.ext hx2)
  have BM := hide hb2
  have X2 := hide (hx1.trans hx2)
  clear hT hW1 hx1 hb1 hW2 hx2 hb2 hp hq hi
  go_enter Tryz.func4, Tryz.ntmps4
  go_wp2_with fail
  go_at_call 8
  refine (live7_any W2 (HT.out.ext X2.out)).mono ?_
  rintro _ w3 ⟨rfl, hx3⟩
  have X3 := hide (X2.out.trans hx3)
  have c3 := (BX.out.ext hx3).get1
  have BX := hide (BX.out.ext hx3)
  have BM := hide (BM.out.ext hx3)
  clear hx3 hV1 hV2
  go_wp2_with fail
  go_at_call 9
  refine (few7_any B f w3 _ (HS.out.extRM X3.out hB) (Nat.le_trans hB X3.out.size) (by omega)).mono ?_
  rintro _ w4 ⟨rfl, hx4⟩
  have X4 := hide (X3.out.trans hx4)
  have BX := hide (BX.out.ext hx4)
  have BM := hide (BM.out.ext hx4)
  clear hx4 c3
  cases hb1 : yes (fewP (msize sizeM f) (mdeep deepM f)) with
  | false =>
    go_wp2_with fail
    go_ret
    exact ⟨rfl, X4.out⟩
  | true =>
    clear hb1
    obtain ⟨d0, d1, d2, d3⟩ := BM.out.get4
    obtain ⟨W5, hW5, hx5, hb5⟩ := box4 w4 (.string m.name) v1 v2 v3 33
    have hV5 := hW5.symm
    have X5 := hide (X4.out.trans hx5)
    have BX := hide (BX.out.ext hx5)
    have BM := hide (BM.out.ext hx5)
    have HS5 := hide (show Sl (RM W5 W5.heap.size) W5 W5.heap.size 4 [m] (.slice (some ⟨w4.heap.size, 0, none⟩) 1 1) from
      Sl.one hb5.lt rfl hb5.cells (all4 ⟨rfl, ho1, ho2, ho3⟩) ((HM.out.ext X5.out hB).more (Nat.le_trans hB X5.out.size)))
    have GF := hide (few7_any W5.heap.size [m] W5 _ HS5.out (Nat.le_refl _) (by rw [msize_one7]; omega))
    generalize yes (fewP (msize sizeM [m]) (mdeep deepM [m])) = b2 at *
    clear hW5 hx5 hb5
    go_wp2_with fail
    go_at_call 9
    refine GF.out.mono ?_
    rintro _ w6 ⟨rfl, hx6⟩
    have X6 := hide (X5.out.trans hx6)
    have c6 := (BX.out.ext hx6).get1
    have BX := hide (BX.out.ext hx6)
    have BM := hide (BM.out.ext hx6)
    clear hx6 GF hV5 d0 d1 d2 d3
    cases b2 with
    | false =>
      go_wp2_with fail
      go_ret
      exact ⟨rfl, X6.out⟩
    | true =>
      by_cases ht2 : (100 : Int) < (nm.size : Int)
      · go_wp2_with fail
        go_ret
        exact ⟨rfl, X6.out⟩
      go_wp2_with fail
      go_at_call 12
      refine (find_any B f nm w6 _ (HS.out.extRM X6.out hB) (Nat.le_trans hB X6.out.size) (by omega)).mono ?_
      rintro _ w7 ⟨a0, a1, a2, a3, rfl, hra, hx7⟩
      obtain ⟨oa0, oa1, oa2, oa3⟩ := hra.one4
      have X7 := hide (X6.out.trans hx7)
      obtain ⟨Wb, Wc, hVb, ⟨p0, p1, p2, p3⟩, ⟨q0, q1, q2, q3⟩, hVc, hbc, hxc, -⟩ := varM w7 a0 a1 a2 a3
      have XC := hide (X7.out.trans hxc)
      have c7 := (BX.out.ext (hx7.trans hxc)).get1
      have BX := hide (BX.out.ext (hx7.trans hxc))
      have BM := hide (BM.out.ext (hx7.trans hxc))
      have BA := hide hbc
      have HRA := hide (hra.ext hxc (Nat.le_trans hB X7.out.size))
      clear hx7 hra hbc hxc c6
      go_wp2_with fail
      go_at_call 13
      refine (rFind_any B f nm Wc _ (HS.out.extRM XC.out hB) (Nat.le_trans hB XC.out.size) (by omega)).mono ?_
      rintro _ w8 ⟨b0, b1, b2, b3, rfl, hrb, hx8⟩
      obtain ⟨ob0, ob1, ob2, ob3⟩ := hrb.one4
      have X8 := hide (XC.out.trans hx8)
      clear hVb hVc p0 p1 p2 p3 q0 q1 q2 q3 c7
      obtain ⟨Wd, We, hVd, ⟨p0, p1, p2, p3⟩, ⟨q0, q1, q2, q3⟩, hVe, hbe, hxe, -⟩ := varM w8 b0 b1 b2 b3
      have XE := hide (X8.out.trans hxe)
      have BM := hide (BM.out.ext (hx8.trans hxe))
      have HBE := Nat.le_trans hB XE.out.size
      have hba := BA.out.ext (hx8.trans hxe)
      obtain ⟨s0, s1, s2, s3⟩ := hba.get4
      obtain ⟨W9, hW9, hx9, hb9⟩ := box4 We a0 a1 a2 a3 33
      have hV9 := hW9.symm
      obtain ⟨t0, t1, t2, t3⟩ := (hbe.ext hx9).get4
      obtain ⟨WA, hWA, hxA, hbA⟩ := box4 W9 b0 b1 b2 b3 33
      have hVA := hWA.symm
      have hxEA := hx9.trans hxA
      have XA := hide (XE.out.trans hxEA)
      have HBA := hide (Nat.le_trans hB XA.out.size)
      have SA := hide (show Sl (RM WA WA.heap.size) WA WA.heap.size 4 [(findM f nm).getD zeroM] (.slice (some ⟨We.heap.size, 0, none⟩) 1 1) from
        Sl.one (hb9.ext hxA).lt rfl (hb9.ext hxA).cells (all4 ⟨oa0, oa1, oa2, oa3⟩) ((HRA.out.ext ((hx8.trans hxe).trans hxEA) (Nat.le_trans hB XC.out.size)).more HBA.out))
      have SB := hide (show Sl (RM WA WA.heap.size) WA WA.heap.size 4 [(findM f nm).getD zeroM] (.slice (some ⟨W9.heap.size, 0, none⟩) 1 1) from
        Sl.one hbA.lt rfl hbA.cells (all4 ⟨ob0, ob1, ob2, ob3⟩) ((hrb.ext (hxe.trans hxEA) (Nat.le_trans hB X8.out.size)).more HBA.out))
      have BM := hide (BM.out.ext hxEA)
      have hszf : msize sizeM [(findM f nm).getD zeroM] ≤ 1000000000 := by
        rw [msize_one7]
        cases hf : findM f nm with
        | none => show (1 : Nat) ≤ _; omega
        | some x =>
          have := msize_mem sizeM f x (find_spec2 hf).1
          show sizeM x ≤ _
          omega
      have GS := hide (refSame_any WA.heap.size [(findM f nm).getD zeroM] [(findM f nm).getD zeroM] WA _ _ SA.out SB.out (Nat.le_refl _) hszf)
      rw [same_self] at GS
      generalize (findM f nm).isSome = fo at *
      generalize (findM f nm).getD zeroM = xo at *
      clear hW9 hx9 hb9 hWA hxA hbA hxEA hba hbe hxe hx8 hrb
      go_wp2_with fail
      go_at_call 14
      refine GS.out.mono ?_
      rintro _ w9 ⟨rfl, hx9⟩
      have X9 := hide (XA.out.trans hx9)
      obtain ⟨e0, e1, e2, e3⟩ := (BM.out.ext hx9).later4
      have HRW := hide (fun (e : Later w9) => HM.out.ext (X9.out.trans e.ext) hB)
      have HGW := hide (fun (e : Later w9) => Nat.le_trans hB (X9.out.trans e.ext).size)
      clear hVd hVe p0 p1 p2 p3 q0 q1 q2 q3 s0 s1 s2 s3 t0 t1 t2 t3 hV9 hVA hx9 GS
      go_wp2_with fail
      refine wp_region_facts_g (W := w9) (fnF m [.string m.name, v1, v2, v3]) (by kernel_rfl) (by kernel_rfl) ?_ (Ext.refl _) (fun i v w w' h hx => fnF_ext h hx) ?_ ?_
      · simp [GuardsMet, fnF]
      · refine ⟨?_, ?_, ?_, ?_, ?_, ?_, trivial⟩
        · intro A wa hxa hd h0
          obtain ⟨ea, rfl⟩ := Later.mk_ex hxa
          have r5 := rest_at h0 5 (by kernel_rfl)
          simp at r5
          clear hd h0
          go_simp
          first | exact ⟨_, rfl, Ext.refl _, rfl⟩ | exact ⟨Ext.refl _, rfl⟩ | exact rfl | exact ⟨_, rfl, rfl⟩
        · intro A wa hxa hd h0
          obtain ⟨ea, rfl⟩ := Later.mk_ex hxa
          have q0 := depOn hd 0 52 (by kernel_rfl) rfl
          simp [fnF] at q0
          clear hd h0
          go_simp
          refine (uses_any B m ea.w [.string m.name, v1, v2, v3] (HRW.out ea) (HGW.out ea) (by omega)).mono ?_
          rintro e w2 ⟨v, rfl, ho, hx⟩
          have hsu := SStr.of_row ho
          go_simp
          first | exact ⟨_, rfl, hx, hsu⟩ | exact ⟨hx, hsu⟩ | exact hsu | exact ⟨_, rfl, hsu⟩
        · intro A wa hxa hd h0
          obtain ⟨ea, rfl⟩ := Later.mk_ex hxa
          have r5 := rest_at h0 5 (by kernel_rfl)
          simp at r5
          clear hd h0
          go_simp
          first | exact ⟨_, rfl, Ext.refl _, rfl⟩ | exact ⟨Ext.refl _, rfl⟩ | exact rfl | exact ⟨_, rfl, rfl⟩
        · intro A wa hxa hd h0
          obtain ⟨ea, rfl⟩ := Later.mk_ex hxa
          have q2 := depOn hd 2 54 (by kernel_rfl) rfl
          simp [fnF] at q2
          clear hd h0
          go_simp
          refine (rUses_any B m ea.w [.string m.name, v1, v2, v3] (HRW.out ea) (HGW.out ea) (by omega)).mono ?_
          rintro e w2 ⟨v, rfl, hsu, hx⟩
          go_simp
          first | exact ⟨_, rfl, hx, hsu⟩ | exact ⟨hx, hsu⟩ | exact hsu | exact ⟨_, rfl, hsu⟩
        · intro A wa hxa hd h0
          obtain ⟨ea, rfl⟩ := Later.mk_ex hxa
          obtain ⟨x1, q1, hs1⟩ : ∃ x, A.tmps.getD 53 undef = x ∧ SStr ea.w (usesM m) x := ⟨_, rfl, depOn hd 1 53 (by kernel_rfl) rfl⟩
          simp at q1
          obtain ⟨x3, q3, hs3⟩ : ∃ x, A.tmps.getD 55 undef = x ∧ SStr ea.w (usesM m) x := ⟨_, rfl, depOn hd 3 55 (by kernel_rfl) rfl⟩
          simp at q3
          clear hd h0
          go_simp
          refine (refTexts_any (usesM m) (usesM m) ea.w _ _ hs1 hs3 (by omega) (by omega)).mono ?_
          rintro e w2 ⟨rfl, hx⟩
          rw [yes_iff.2 rfl]
          go_simp
          first | exact ⟨_, rfl, hx, rfl⟩ | exact ⟨hx, rfl⟩ | exact rfl | exact ⟨_, rfl, rfl⟩
        · intro A wa hxa hd h0
          obtain ⟨ea, rfl⟩ := Later.mk_ex hxa
          have q4 := depOn hd 4 56 (by kernel_rfl) rfl
          simp [fnF] at q4
          clear hd h0
          go_simp
          first | exact ⟨_, rfl, Ext.refl _, rfl⟩ | exact ⟨Ext.refl _, rfl⟩ | exact rfl | exact ⟨_, rfl, rfl⟩
      · intro A wa hk
        obtain ⟨hxa, hsz, hdf, hdn, hrs⟩ := hk
        obtain ⟨ea, rfl⟩ := Later.mk_ex hxa
        have k7 := rest_at hrs 7 (by kernel_rfl)
        simp at k7
        have k9 := rest_at hrs 9 (by kernel_rfl)
        simp at k9
        have k11 := rest_at hrs 11 (by kernel_rfl)
        simp at k11
        have k12 := rest_at hrs 12 (by kernel_rfl)
        simp at k12
        have k13 : A.tmps.getD 13 undef = .bool true := hdn 5 13 rfl rfl
        clear hdn hrs
        rw [act_lit hsz hdf]
        simp [List.range, List.range.loop] at k7 k9 k11 k12 k13
        simp [List.range, List.range.loop, k7, k9, k11, k12, k13]
        clear k7 k9 k11 k12 k13 hsz hdf
        generalize A.tmps[0]?.getD undef = A0 at *
        generalize A.tmps[1]?.getD undef = A1 at *
        generalize A.tmps[2]?.getD undef = A2 at *
        generalize A.tmps[3]?.getD undef = A3 at *
        generalize A.tmps[4]?.getD undef = A4 at *
        generalize A.tmps[5]?.getD undef = A5 at *
        generalize A.tmps[6]?.getD undef = A6 at *
        generalize A.tmps[8]?.getD undef = A8 at *
        generalize A.tmps[10]?.getD undef = A10 at *
        generalize A.tmps[14]?.getD undef = A14 at *
        generalize A.tmps[15]?.getD undef = A15 at *
        generalize A.tmps[16]?.getD undef = A16 at *
        generalize A.tmps[17]?.getD undef = A17 at *
        generalize A.tmps[18]?.getD undef = A18 at *
        generalize A.tmps[19]?.getD undef = A19 at *
        generalize A.tmps[20]?.getD undef = A20 at *
        generalize A.tmps[21]?.getD undef = A21 at *
        generalize A.tmps[22]?.getD undef = A22 at *
        generalize A.tmps[23]?.getD undef = A23 at *
        generalize A.tmps[24]?.getD undef = A24 at *
        generalize A.tmps[25]?.getD undef = A25 at *
        generalize A.tmps[26]?.getD undef = A26 at *
        generalize A.tmps[27]?.getD undef = A27 at *
        generalize A.tmps[28]?.getD undef = A28 at *
        generalize A.tmps[29]?.getD undef = A29 at *
        generalize A.tmps[30]?.getD undef = A30 at *
        generalize A.tmps[31]?.getD undef = A31 at *
        generalize A.tmps[32]?.getD undef = A32 at *
        generalize A.tmps[33]?.getD undef = A33 at *
        generalize A.tmps[34]?.getD undef = A34 at *
        generalize A.tmps[35]?.getD undef = A35 at *
        generalize A.tmps[36]?.getD undef = A36 at *
        generalize A.tmps[37]?.getD undef = A37 at *
        generalize A.tmps[38]?.getD undef = A38 at *
        generalize A.tmps[39]?.getD undef = A39 at *
        generalize A.tmps[40]?.getD undef = A40 at *
        generalize A.tmps[41]?.getD undef = A41 at *
        generalize A.tmps[42]?.getD undef = A42 at *
        generalize A.tmps[43]?.getD undef = A43 at *
        generalize A.tmps[44]?.getD undef = A44 at *
        generalize A.tmps[45]?.getD undef = A45 at *
        generalize A.tmps[46]?.getD undef = A46 at *
        generalize A.tmps[47]?.getD undef = A47 at *
        generalize A.tmps[48]?.getD undef = A48 at *
        generalize A.tmps[49]?.getD undef = A49 at *
        generalize A.tmps[50]?.getD undef = A50 at *
        generalize A.tmps[51]?.getD undef = A51 at *
        generalize A.tmps[52]?.getD undef = A52 at *
        generalize A.tmps[53]?.getD undef = A53 at *
        generalize A.tmps[54]?.getD undef = A54 at *
        generalize A.tmps[55]?.getD undef = A55 at *
        generalize A.tmps[56]?.getD undef = A56 at *
        generalize A.tmps[57]?.getD undef = A57 at *
        generalize A.tmps[58]?.getD undef = A58 at *
        generalize A.tmps[59]?.getD undef = A59 at *
        generalize A.tmps[60]?.getD undef = A60 at *
        generalize A.tmps[61]?.getD undef = A61 at *
        generalize A.tmps[62]?.getD undef = A62 at *
        generalize A.tmps[63]?.getD undef = A63 at *
        generalize A.tmps[64]?.getD undef = A64 at *
        generalize A.tmps[65]?.getD undef = A65 at *
        generalize A.tmps[66]?.getD undef = A66 at *
        generalize A.tmps[67]?.getD undef = A67 at *
        generalize A.tmps[68]?.getD undef = A68 at *
        have X10 := hide (X9.out.trans ea.ext)
        cases fo
        all_goals
          go_wp2_with fail
          go_ret
          exact ⟨rfl, X10.out⟩

end Go.Proofs.YtjoglnjpgkobeaaGreatDoor

/-
  THE ROW AND THE CARD OF THE LAW NamesFinds: of every input of bulk at most 1048576 the law, run in the model from the tables that its row lists, returns true and leaves its arguments as they were. Conditions: those of the given statement, no others.
-/
namespace Go.Proofs.YtjoglnjpgkobeaaGreatDoor.namesFinds
open Go Go.ChangeShapes Go.WideShapes Go.ChangeAt Go.RowKit
set_option linter.all false
set_option linter.unusedVariables false
set_option linter.unusedSimpArgs false
set_option linter.unusedVariables false
set_option linter.unusedSimpArgs false

set_option maxRecDepth 100000 in
/-- WHAT THE WALK GIVES, OF EVERY ARGUMENT AND EVERY WORLD THAT HOLDS THE TABLES. -/
theorem contract (H : Type) (enc : TypeId × Value → H) (W : World) (base : Nat) (args : Array Value) (ds gs : List (DataW H)) (before : List MemPlace)
    (hval : ∀ (j : Nat) t v, Tryz.f4.params[j]? = some t → args[j]? = some v → Value.okWide Tryz.prog W .any base t v)
    (hW : DataW.Whole enc Tryz.prog Tryz.f4.params.toList Rows.namesFindsSpec.vars false W args.toList ds gs before) (hb : Rows.uptoSmall H (ds ++ gs) = true) (hL : laidMetH Tryz.prog Rows.namesFindsUptoRow.laid W) (hsh : W.ShapedOpen Tryz.prog) :
    Calls Tryz.prog 4 args W fun e W' => ∃ v, e = .returned v ∧ Rows.namesFindsSpec.post enc Tryz.prog Tryz.f4 false true false false W args v W' := by
  have hT : Tabs W := tabs_of hL hsh
  have hW' := hW
  obtain ⟨p, q, hA0, hV, rfl, -, -⟩ := hW
  have hA : DataW.TrodAll enc Tryz.prog W 0 (fun _ => true) true Tryz.f4.params.toList args.toList ds p := hA0
  rw [Tryz.params4] at hA
  have hval' := hval
  rw [Tryz.params4] at hval'
  obtain ⟨a0, vs0, d0, ds0, p0, q0, hargs, rfl, rfl, h0, r0⟩ := trodAll_cons hA
  obtain ⟨a1, vs1, d1, ds1, p1, q1, rfl, rfl, rfl, h1, r1⟩ := trodAll_cons r0
  obtain ⟨a2, vs2, d2, ds2, p2, q2, rfl, rfl, rfl, h2, r2⟩ := trodAll_cons r1
  obtain ⟨rfl, rfl, rfl⟩ := trodAll_nil r2
  obtain rfl : args = #[a0, a1, a2] := by cases args; simp_all
  obtain ⟨rfl, rfl⟩ := trodVars_none hV
  have hb' := small_all hb
  simp only [List.append_nil, Rows.uptoBulkAll] at hb'
  obtain ⟨f0, v0, rfl, s0, w0, z0⟩ := open_file hval' 0 rfl rfl h0 (by omega)
  obtain ⟨x1, rfl, z1⟩ := open_str hval' 1 rfl rfl h1 (by omega)
  obtain ⟨x2, c2, rfl, s2, w2, z2⟩ := open_M hval' 2 rfl rfl h2 (by omega)
  refine (lawNFinds_any W.heap.size f0 x1 x2 W v0 c2 hT (Nat.le_refl _) s0 s2 (by omega) (by omega) (by omega)).mono fun e W' he => ?_
  obtain ⟨rfl, hx⟩ := he
  exact ⟨_, rfl, post_true Tryz.underlying4 laidOut mapsIn full (s := Rows.namesFindsSpec) (ds := [d0, d1, d2]) (gs := []) rfl rfl (by rw [Tryz.params4]; decide) hW' rfl hx⟩

theorem reads (os : Os) {H : Type} (enc : TypeId × Value → H) : ∃ places, DataW.whole enc Tryz.prog ((laidWorld os).forCall (fun _ _ => 0) ⟨#[], #[zFile, (.string ⟨#[]⟩), zM], []⟩).memory Tryz.f4.params.toList Rows.namesFindsSpec.vars false (#[zFile, (.string ⟨#[]⟩), zM] : Array Value).toList 8 = some ([zFileD, (.lit (.string [])), zMD], [], places) :=
  ⟨[], by kernel_rfl⟩

set_option maxRecDepth 100000 in
theorem lifted (os : Os) (started : os.Started) (H : Type) (enc : TypeId × Value → H) (F : Stop.Interp) :
    ReturnsInHanded {} Tryz.checked os 4 .any ((Rows.OpenSpec.upto Rows.namesFindsSpec).preRow enc Tryz.prog Tryz.f4 Rows.namesFindsUptoRow.domain false Rows.namesFindsUptoRow.laid) (((Rows.OpenSpec.upto Rows.namesFindsSpec).at F).post enc Tryz.prog Tryz.f4 false true false false) := by
  obtain ⟨places, hx⟩ := reads os enc
  refine returnsInHanded_of_row (C := Tryz.checked) (s := Rows.OpenSpec.upto Rows.namesFindsSpec) ownNone started (by kernel_rfl) Tryz.func4
    (witness_row_at (enc := enc) (C := Tryz.checked) false (laidWorld os) #[zFile, (.string ⟨#[]⟩), zM] rfl (by kernel_rfl) (by kernel_rfl) (by kernel_rfl)
      (OpenSpec.preRow_of_cond 8 hx (by kernel_rfl) (fun k hk => by cases hk; kernel_rfl) (by kernel_rfl) (laid_met os _))) ?_
  intro W base args ds gs before hval hW _ hcond _ hL hsh _
  exact contract H enc W base args ds gs before hval hW (hcond _ rfl) hL hsh

theorem saidUpto : Rows.NamesFindsUptoSaid :=
  OpenClaim.holds_of_cond 4 Tryz.f4 rfl rfl rfl rfl rfl rfl rfl ⟨rfl, rfl, rfl, rfl, rfl⟩ rfl rfl rfl rfl rfl (by kernel_rfl) Tryz.func4 (by kernel_rfl)
    (of_decide_eq_true (by kernel_rfl)) (by unfold Func.isWrapper; first | (rw [if_pos (by decide +kernel)]; kernel_rfl) | (rw [if_neg (by decide +kernel)]; exact ⟨rfl, rfl⟩))
    (fun os started H enc _ F => by rw [OpenClaim.pre_eq_preRow]; exact lifted os started H enc F)

/-- No parameter wants a stand-in; the program's own looks are off. -/
theorem plain (f : FuncId) (fn : Func) (hf : Tryz.pinned.checked.prog.funcNamed "filigree/filigreelaw07.NamesFinds" = some f) (hfn : Tryz.pinned.checked.prog.funcs[f]? = some fn) :
    true = Tryz.pinned.checked.prog.looks [] ∧ ∀ (j : Nat) t, fn.params[j]? = some t → Tryz.pinned.checked.prog.wantsStandIn t = false := by
  obtain rfl : f = 4 := Option.some.inj ((show Tryz.prog.funcNamed "filigree/filigreelaw07.NamesFinds" = some 4 by kernel_rfl).symm.trans hf) |>.symm
  obtain rfl : fn = Tryz.f4 := (Option.some.inj (Tryz.func4.symm.trans hfn)).symm
  refine ⟨by kernel_rfl, fun j t ht => ?_⟩
  rw [Tryz.params4] at ht
  have hm := Array.mem_of_getElem? ht
  simp only [List.mem_toArray, List.mem_cons, List.not_mem_nil, or_false] at hm
  rcases hm with rfl | rfl | rfl
  · exact (show Tryz.prog.wantsStandIn 24 = false by kernel_rfl)
  · exact (show Tryz.prog.wantsStandIn 9 = false by kernel_rfl)
  · exact (show Tryz.prog.wantsStandIn 33 = false by kernel_rfl)

/-- THE CARD -/
theorem cardUpto : Rows.NamesFindsUptoCardSaid :=
  Claim7.holds_tied_plain_at .later [] _ _ _ _ saidUpto (fun _ h => by cases h) (by kernel_rfl) (fun _ h => by cases h) namesFindsUpto_row_tie rfl ⟨rfl, rfl⟩ (by kernel_rfl) rfl plain (by kernel_rfl)
end Go.Proofs.YtjoglnjpgkobeaaGreatDoor.namesFinds
