/-
  THE LAW NamesLoops: WHAT IT COMPUTES.
-/
import Derived.Test.YtjoglnjpgkobeaaDoorNLawXPk
import Derived.Test.YtjoglnjpgkobeaaDoorRAllPk
namespace Go.Proofs.YtjoglnjpgkobeaaDoor
open Go Go.RowKit
set_option linter.all false
set_option linter.unusedVariables false
set_option linter.unusedSimpArgs false
set_option linter.unusedVariables false
set_option linter.unusedSimpArgs false
attribute [local go_sem] run_store_one

theorem tA_eq : tA = ⟨#[97]⟩ := rfl
theorem size_under (s : ByteArray) (h : s.size ≤ 2000000) : (under s).size < 4294967281 := by rw [under_size]; omega

set_option maxRecDepth 200000 in
set_option maxHeartbeats 16000000 in
theorem lawNLoops_any (B : Nat) (l : List Itm) (a : ByteArray) (v : ByteArray) (w : World) (vl : Value) (hT : Tabs w) (hB : B ≤ w.heap.size) (hS : Sl (RI w B) w B 9 l vl) (hsz : msize sizeI l ≤ 2000000) (hvx : ∀ y, y ∈ l → VI y) (hza : a.size ≤ 2000000) (hzv : v.size ≤ 2000000) :
    Calls Tryd.prog 7 #[vl, .string a, .string v] w fun e w' => e = .returned (.bool true) ∧ Ext w w' := by
  have HS := hide hS
  have HT := hide hT
  have HVX := hide hvx
  obtain ⟨la, lc, rfl, -, -⟩ := hS
  clear hT hvx
  have GL := hide (live7_any w HT.out)
  have GF := hide (fun (w' : World) (hx : Ext w w') => fewL7_any B l w' _ (HS.out.extRI hx hB) (Nat.le_trans hB hx.size) (by omega))
  go_enter Tryd.func7, Tryd.ntmps7
  go_wp2_with fail
  go_at_call 9
  refine GL.out.mono ?_
  rintro _ w1 ⟨rfl, hx1⟩
  have GF := hide (GF.out w1 hx1)
  have X1 := hide hx1
  clear hx1 GL
  go_wp2_with fail
  go_at_call 21
  refine GF.out.mono ?_
  rintro _ w2 ⟨b, rfl, hx2, hb⟩
  have X2 := hide (X1.out.trans hx2)
  clear hx2 GF
  cases b with
  | false =>
    clear hb
    go_wp2_with fail
    go_ret
    exact ⟨rfl, X2.out⟩
  | true =>
    have HFEW := hide (hb rfl)
    clear hb
    by_cases hal : (40 : Int) < (a.size : Int)
    · go_wp2_with fail
      go_ret
      exact ⟨rfl, X2.out⟩
    by_cases hvl : (40 : Int) < (v.size : Int)
    · go_wp2_with fail
      go_ret
      exact ⟨rfl, X2.out⟩
    have HAL := hide (show a.size ≤ 40 by omega)
    have HVL := hide (show v.size ≤ 40 by omega)
    go_wp2_with fail
    go_at_call 22
    refine (one7_any w2).mono ?_
    rintro _ w3 ⟨rfl, hx3⟩
    go_wp2_with fail
    go_at_call 22
    refine (one7_any w3).mono ?_
    rintro _ w4 ⟨rfl, hx4⟩
    obtain ⟨W5, hW5⟩ : ∃ W5, W5 = w4.alloc (.cells #[.int .i64 1, .string ⟨#[]⟩, .int .i64 0, .int .i64 0, .int .u64 1, .slice none 0 0, .int .i64 1, .string ⟨#[]⟩, .int .i64 0, .int .i64 0, .int .u64 1, .slice none 0 0] 57) := ⟨_, rfl⟩
    have hV5 := hW5.symm
    have hb5 : Blk W5 w4.heap.size 57 (cX ++ cX) := by rw [hW5]; exact Blk.new w4 _ (cX ++ cX)
    have hx5 : Ext w4 W5 := by rw [hW5]; exact Ext.new _ _
    obtain ⟨Wb6, W6, hVb6, ⟨p60, p61, p62, p63, p64, p65, p66, p67, p68⟩, ⟨q60, q61, q62, q63, q64, q65, q66, q67, q68⟩, hVc6, hb6, hx6, -⟩ := varI W5 (.int .i64 9) (.string a) (.string v) (.slice (some ⟨w4.heap.size, 0, none⟩) 2 2) (.slice none 0 0) (.slice la l.length lc) (.slice none 0 0) (.slice none 0 0) (.slice none 0 0)
    obtain ⟨Wb7, W7, hVb7, ⟨p70, p71, p72, p73, p74, p75, p76, p77, p78⟩, ⟨q70, q71, q72, q73, q74, q75, q76, q77, q78⟩, hVc7, hb7, hx7, -⟩ := varI W6 (.int .i64 9) (.string (a ++ ⟨#[95]⟩)) (.string v) (.slice (some ⟨w4.heap.size, 0, none⟩) 2 2) (.slice none 0 0) (.slice la l.length lc) (.slice none 0 0) (.slice none 0 0) (.slice none 0 0)
    obtain ⟨c0, c1, c2, c3, c4, c5, c6, c7, c8⟩ := (hb6.ext hx7).get9
    obtain ⟨W8, hW8, hx8, hb8⟩ := box9 W7 (.int .i64 9) (.string a) (.string v) (.slice (some ⟨w4.heap.size, 0, none⟩) 2 2) (.slice none 0 0) (.slice la l.length lc) (.slice none 0 0) (.slice none 0 0) (.slice none 0 0) 51
    have hV8 := hW8.symm
    obtain ⟨Wb9, W9, hVb9, ⟨p90, p91, p92, p93, p94, p95, p96, p97, p98⟩, ⟨q90, q91, q92, q93, q94, q95, q96, q97, q98⟩, hVc9, hb9, hx9, -⟩ := varI W8 (.int .i64 9) (.string (a ++ ⟨#[95]⟩)) (.string (v ++ ⟨#[95]⟩)) (.slice (some ⟨w4.heap.size, 0, none⟩) 2 2) (.slice none 0 0) (.slice (some ⟨W7.heap.size, 0, none⟩) 1 1) (.slice none 0 0) (.slice none 0 0) (.slice none 0 0)
    have hx59 : Ext W5 W9 := hx6.trans (hx7.trans (hx8.trans hx9))
    have X9 := hide ((X2.out.trans (hx3.trans hx4)).trans (hx5.trans hx59))
    have B6 := hide (hb6.ext (hx7.trans (hx8.trans hx9)))
    have B7 := hide (hb7.ext (hx8.trans hx9))
    have B8 := hide (hb8.ext hx9)
    have B9 := hide hb9
    have B5 := hide (hb5.ext hx59)
    clear hW5 hW8 hx3 hx4 hx5 hx6 hx7 hx8 hx9 hx59 hb5 hb6 hb7 hb8 hb9
    have HSL := hide (fun (w' : World) (hx : Ext W9 w') => show Sl (RI w' w'.heap.size) w' w'.heap.size 9 l (.slice la l.length lc) from (HS.out.extRI (X9.out.trans hx) hB).moreRI (Nat.le_trans hB (X9.out.trans hx).size))
    have RA := hide (fun (w' : World) (hx : Ext W9 w') => show RI w' w'.heap.size (iFor a v l) (cF a v w4.heap.size (.slice la l.length lc)) from ri_iFor (Nat.lt_of_lt_of_le B5.out.lt hx.size) (B5.out.ext hx).cells (HSL.out w' hx))
    have RB := hide (fun (w' : World) (hx : Ext W9 w') => show RI w' w'.heap.size (iFor (under a) v l) (cF (under a) v w4.heap.size (.slice la l.length lc)) from ri_iFor (Nat.lt_of_lt_of_le B5.out.lt hx.size) (B5.out.ext hx).cells (HSL.out w' hx))
    have RC := hide (fun (w' : World) (hx : Ext W9 w') => show RI w' w'.heap.size (iFor (under a) (under v) [iFor a v l]) (cF (under a) (under v) w4.heap.size (.slice (some ⟨W7.heap.size, 0, none⟩) 1 1)) from
      ri_iFor (Nat.lt_of_lt_of_le B5.out.lt hx.size) (B5.out.ext hx).cells (Sl.one (Nat.lt_of_lt_of_le B8.out.lt hx.size) rfl (B8.out.ext hx).cells (one_F rfl) (RA.out w' hx)))
    obtain ⟨A9, hA9, hxA, hbA⟩ := box9 W9 (.int .i64 9) (.string a) (.string v) (.slice (some ⟨w4.heap.size, 0, none⟩) 2 2) (.slice none 0 0) (.slice la l.length lc) (.slice none 0 0) (.slice none 0 0) (.slice none 0 0) 51
    have hVA := hA9.symm
    obtain ⟨f0, f1, f2, f3, f4, f5, f6, f7, f8⟩ := B6.out.get9
    go_wp2_with fail
    clear hVb6 hVc6 hVb7 hVc7 hVb9 hVc9 hV5 hV8 p60 p61 p62 p63 p64 p65 p66 p67 p68 q60 q61 q62 q63 q64 q65 q66 q67 q68 p70 p71 p72 p73 p74 p75 p76 p77 p78 q70 q71 q72 q73 q74 q75 q76 q77 q78 p90 p91 p92 p93 p94 p95 p96 p97 p98 q90 q91 q92 q93 q94 q95 q96 q97 q98 c0 c1 c2 c3 c4 c5 c6 c7 c8
    have BA := hide hbA
    have XA := hide hxA
    clear hA9 hxA hbA
    go_wp2_with fail
    go_at_call 17
    refine (module7_any tA (some ⟨W9.heap.size, 0, none⟩) 1 1 A9).mono ?_
    rintro _ w11 ⟨rfl, hx11⟩
    clear f0 f1 f2 f3 f4 f5 f6 f7 f8 hVA
    obtain ⟨W12, hW12, hx12, hb12⟩ := box4 w11 (.string tA) (.slice none 0 0) (.slice none 0 0) (.slice (some ⟨W9.heap.size, 0, none⟩) 1 1) 36
    have hV12 := hW12.symm
    have X12 := hide (XA.out.trans (hx11.trans hx12))
    have hxa2 := hx11.trans hx12
    have SO := hide (sl_solo hb12.lt hb12 (Sl.one (Nat.lt_of_lt_of_le BA.out.lt hxa2.size) rfl (BA.out.ext hxa2).cells (one_F rfl) (RA.out W12 X12.out)))
    have VIA := hide (show VI (iFor a v l) from vi_iFor (by omega) (by omega) HVX.out)
    have VIB := hide (show VI (iFor (under a) v l) from vi_iFor (size_under a hza) (by omega) HVX.out)
    have VIC := hide (show VI (iFor (under a) (under v) [iFor a v l]) from vi_iFor (size_under a hza) (size_under v hzv) (all_one VIA.out))
    have CO := hide (checkN_any W12.heap.size [mSolo tA [iFor a v l]] W12 _ (HT.out.ext (X9.out.trans X12.out)) SO.out (Nat.le_refl _) (by rw [size_solo, msize_one, size_iFor]; omega) (vm_solo (by decide) (all_one VIA.out)))
    obtain ⟨co, hco⟩ : ∃ co, checkN [mSolo tA [iFor a v l]] = co := ⟨_, rfl⟩
    rw [hco] at CO
    have HCO := hide hco
    clear hW12 hx11 hx12 hb12 hxa2 hco SO BA
    go_wp2_with fail
    go_at_call 12
    refine CO.out.mono ?_
    rintro _ w13 ⟨rfl, hx13⟩
    have X13 := hide (X12.out.trans hx13)
    clear hx13 CO hV12
    obtain ⟨f0, f1, f2, f3, f4, f5, f6, f7, f8⟩ := (B6.out.ext X13.out).get9
    obtain ⟨g0, g1, g2, g3, g4, g5, g6, g7, g8⟩ := (B7.out.ext X13.out).get9
    obtain ⟨W14, hW14⟩ : ∃ W14, W14 = w13.alloc (.cells #[.int .i64 9, .string a, .string v, .slice (some ⟨w4.heap.size, 0, none⟩) 2 2, .slice none 0 0, .slice la l.length lc, .slice none 0 0, .slice none 0 0, .slice none 0 0, .int .i64 9, .string (a ++ ⟨#[95]⟩), .string v, .slice (some ⟨w4.heap.size, 0, none⟩) 2 2, .slice none 0 0, .slice la l.length lc, .slice none 0 0, .slice none 0 0, .slice none 0 0] 51) := ⟨_, rfl⟩
    have hV14 := hW14.symm
    have B14 := hide (show Blk W14 w13.heap.size 51 (cF a v w4.heap.size (.slice la l.length lc) ++ cF (under a) v w4.heap.size (.slice la l.length lc)) from by rw [hW14]; exact Blk.new w13 _ (cF a v w4.heap.size (.slice la l.length lc) ++ cF (under a) v w4.heap.size (.slice la l.length lc)))
    have X14 := hide (X13.out.trans (show Ext w13 W14 from by rw [hW14]; exact Ext.new _ _))
    clear hW14
    go_wp2_with fail
    go_at_call 17
    refine (module7_any tA (some ⟨w13.heap.size, 0, none⟩) 2 2 W14).mono ?_
    rintro _ w15 ⟨rfl, hx15⟩
    clear f0 f1 f2 f3 f4 f5 f6 f7 f8 g0 g1 g2 g3 g4 g5 g6 g7 g8 hV14
    obtain ⟨W16, hW16, hx16, hb16⟩ := box4 w15 (.string tA) (.slice none 0 0) (.slice none 0 0) (.slice (some ⟨w13.heap.size, 0, none⟩) 2 2) 36
    have hV16 := hW16.symm
    have hxa2 := hx15.trans hx16
    have X16 := hide (X14.out.trans hxa2)
    have SO := hide (sl_solo hb16.lt hb16 (Sl.pair (Nat.lt_of_lt_of_le B14.out.lt hxa2.size) rfl rfl (B14.out.ext hxa2).cells (fun u hu => (List.mem_append.1 hu).elim (one_F rfl u) (one_F rfl u)) (RA.out W16 X16.out) (RB.out W16 X16.out)))
    have CO := hide (checkN_any W16.heap.size [mSolo tA [iFor a v l, iFor (under a) v l]] W16 _ (HT.out.ext (X9.out.trans X16.out)) SO.out (Nat.le_refl _) (by rw [size_solo, msize, msize_one, size_iFor, size_iFor]; omega) (vm_solo (by decide) (all_two VIA.out VIB.out)))
    obtain ⟨ct, hct⟩ : ∃ ct, checkN [mSolo tA [iFor a v l, iFor (under a) v l]] = ct := ⟨_, rfl⟩
    rw [hct] at CO
    have HCT := hide hct
    clear hW16 hx15 hx16 hb16 hxa2 hct SO B14
    go_wp2_with fail
    go_at_call 12
    refine CO.out.mono ?_
    rintro _ w17 ⟨rfl, hx17⟩
    have X17 := hide (X16.out.trans hx17)
    clear hx17 CO hV16
    obtain ⟨f0, f1, f2, f3, f4, f5, f6, f7, f8⟩ := (B6.out.ext X17.out).get9
    obtain ⟨g0, g1, g2, g3, g4, g5, g6, g7, g8⟩ := (B9.out.ext X17.out).get9
    obtain ⟨W18, hW18⟩ : ∃ W18, W18 = w17.alloc (.cells #[.int .i64 9, .string a, .string v, .slice (some ⟨w4.heap.size, 0, none⟩) 2 2, .slice none 0 0, .slice la l.length lc, .slice none 0 0, .slice none 0 0, .slice none 0 0, .int .i64 9, .string (a ++ ⟨#[95]⟩), .string (v ++ ⟨#[95]⟩), .slice (some ⟨w4.heap.size, 0, none⟩) 2 2, .slice none 0 0, .slice (some ⟨W7.heap.size, 0, none⟩) 1 1, .slice none 0 0, .slice none 0 0, .slice none 0 0] 51) := ⟨_, rfl⟩
    have hV18 := hW18.symm
    have B18 := hide (show Blk W18 w17.heap.size 51 (cF a v w4.heap.size (.slice la l.length lc) ++ cF (under a) (under v) w4.heap.size (.slice (some ⟨W7.heap.size, 0, none⟩) 1 1)) from by rw [hW18]; exact Blk.new w17 _ (cF a v w4.heap.size (.slice la l.length lc) ++ cF (under a) (under v) w4.heap.size (.slice (some ⟨W7.heap.size, 0, none⟩) 1 1)))
    have X18 := hide (X17.out.trans (show Ext w17 W18 from by rw [hW18]; exact Ext.new _ _))
    clear hW18
    go_wp2_with fail
    go_at_call 17
    refine (module7_any tA (some ⟨w17.heap.size, 0, none⟩) 2 2 W18).mono ?_
    rintro _ w19 ⟨rfl, hx19⟩
    clear f0 f1 f2 f3 f4 f5 f6 f7 f8 g0 g1 g2 g3 g4 g5 g6 g7 g8 hV18
    obtain ⟨W20, hW20, hx20, hb20⟩ := box4 w19 (.string tA) (.slice none 0 0) (.slice none 0 0) (.slice (some ⟨w17.heap.size, 0, none⟩) 2 2) 36
    have hV20 := hW20.symm
    have hxa2 := hx19.trans hx20
    have X20 := hide (X18.out.trans hxa2)
    have SO := hide (sl_solo hb20.lt hb20 (Sl.pair (Nat.lt_of_lt_of_le B18.out.lt hxa2.size) rfl rfl (B18.out.ext hxa2).cells (fun u hu => (List.mem_append.1 hu).elim (one_F rfl u) (one_F rfl u)) (RA.out W20 X20.out) (RC.out W20 X20.out)))
    have CO := hide (checkN_any W20.heap.size [mSolo tA [iFor a v l, iFor (under a) (under v) [iFor a v l]]] W20 _ (HT.out.ext (X9.out.trans X20.out)) SO.out (Nat.le_refl _) (by rw [size_solo, msize, msize_one, size_iFor, size_iFor, msize_one, size_iFor]; omega) (vm_solo (by decide) (all_two VIA.out VIC.out)))
    obtain ⟨cd, hcd⟩ : ∃ cd, checkN [mSolo tA [iFor a v l, iFor (under a) (under v) [iFor a v l]]] = cd := ⟨_, rfl⟩
    rw [hcd] at CO
    have HCD := hide hcd
    clear hW20 hx19 hx20 hb20 hxa2 hcd SO B18
    go_wp2_with fail
    go_at_call 12
    refine CO.out.mono ?_
    rintro _ w21 ⟨rfl, hx21⟩
    have X21 := hide (X20.out.trans hx21)
    clear hx21 CO hV20 B5 B6 B7 B8 B9 RA RB RC
    by_cases h0 : co = 0
    · subst h0
      have hdeep : cd = 70 ∨ cd = 2 := by
        obtain ⟨⟨-, -, -, ga, gv, -⟩, -⟩ := loops_once HCO.out
        have := loops_deep HCO.out (under_name ga HAL.out) (under_name gv HVL.out)
        rwa [HCD.out] at this
      have HM := hide (module7_any tA la l.length lc w21)
      go_wp2_with fail
      go_at_call 17
      refine HM.out.mono ?_
      rintro _ w22 ⟨rfl, hx22⟩
      have X22 := hide (X21.out.trans hx22)
      have hrm : RM w22 w22.heap.size (mSolo tA l) [.string tA, .slice none 0 0, .slice none 0 0, .slice la l.length lc] := ⟨_, _, _, rfl, Sl.nil, Sl.nil, HSL.out w22 X22.out⟩
      have GA := hide (rAll_any w22.heap.size (mSolo tA l) w22 _ hrm (Nat.le_refl _) (by show 1 + 0 + 0 + msize sizeI l ≤ _; omega))
      clear hx22 hrm HM
      go_wp2_with fail
      go_at_call 23
      refine GA.out.mono ?_
      rintro _ w23 ⟨v23, rfl, hs23, hx23⟩
      have X23 := hide (X22.out.trans hx23)
      have hlen : (allM (mSolo tA l)).length ≤ 1000000000 := by
        have h1 := allIs_len l
        have h2 := addAll_le (allIs l) []
        show (addAll (addAll (addAll [] (allIs l)) []) []).length ≤ _
        rw [addAll_nil, addAll_nil]
        simp at h2
        omega
      have GM := hide (refAmong_any (allM (mSolo tA l)) (a ++ ⟨#[95]⟩) w23 v23 hs23 hlen)
      have hmem : (a ++ ⟨#[95]⟩) ∈ allM (mSolo tA l) ↔ (a ++ ⟨#[95]⟩) ∈ allIs l := by
        show (a ++ ⟨#[95]⟩) ∈ addAll (addAll (addAll [] (allIs l)) []) [] ↔ _
        rw [addAll_nil, addAll_nil, memA_all]
        simp
      have HMEM := hide hmem
      clear hs23 hx23 GA hlen hmem
      go_wp2_with fail
      go_at_call 14
      refine GM.out.mono ?_
      rintro _ w24 ⟨rfl, h24⟩
      subst h24
      by_cases hin : (a ++ ⟨#[95]⟩) ∈ allM (mSolo tA l)
      · rw [yes_iff.2 hin]
        rcases hdeep with rfl | rfl
        all_goals
          go_wp2_with fail
          go_ret
          exact ⟨rfl, X9.out.trans X23.out⟩
      · rw [yes_no.2 hin]
        by_cases hva : v = a ++ ⟨#[95]⟩
        · rcases hdeep with rfl | rfl
          all_goals
            rw [hva]
            go_wp2_with fail
            go_ret
            exact ⟨rfl, X9.out.trans X23.out⟩
        · obtain rfl : ct = 0 := by
            obtain ⟨⟨-, -, -, ga, gv, -⟩, -⟩ := loops_once HCO.out
            have := loops_two HCO.out (under_name ga HAL.out) (under_ne a) (by have := HFEW.out; omega) hva (fun h => hin (HMEM.out.2 h))
            rwa [HCT.out] at this
          have hvne := text_ne hva
          rcases hdeep with rfl | rfl
          all_goals
            go_wp2_with fail
            go_ret
            exact ⟨rfl, X9.out.trans X23.out⟩
    · have hne : (co != 0) = true := by simpa using h0
      have h1 : ct ≠ 0 := fun h => h0 (by rw [← HCO.out]; exact loops_first (HCT.out.trans h))
      have h2 : cd ≠ 0 := fun h => h0 (by rw [← HCO.out]; exact loops_first (HCD.out.trans h))
      have hn1 : (ct != 0) = true := by simpa using h1
      have hn2 : (cd != 0) = true := by simpa using h2
      clear h0 h1 h2
      go_wp2_with fail
      go_ret
      exact ⟨rfl, X9.out.trans X21.out⟩

end Go.Proofs.YtjoglnjpgkobeaaDoor
