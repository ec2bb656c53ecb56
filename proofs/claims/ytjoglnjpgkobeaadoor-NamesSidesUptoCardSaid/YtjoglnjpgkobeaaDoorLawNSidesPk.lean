/-
  THE LAW NamesSides: WHAT IT COMPUTES.
-/
import Derived.Test.YtjoglnjpgkobeaaDoorNLawXPk
import Derived.Test.YtjoglnjpgkobeaaDoorRToldPPk
import Derived.Test.YtjoglnjpgkobeaaDoorAppPk
namespace Go.Proofs.YtjoglnjpgkobeaaDoor
open Go Go.RowKit
set_option linter.all false
set_option linter.unusedVariables false
set_option linter.unusedSimpArgs false
set_option linter.unusedVariables false
set_option linter.unusedSimpArgs false
attribute [local go_sem] run_store_one

set_option maxRecDepth 200000 in
set_option maxHeartbeats 16000000 in
theorem lawNSides_any (B : Nat) (l m : List Itm) (w : World) (vl vm : Value) (hT : Tabs w) (hB : B ≤ w.heap.size) (hS : Sl (RI w B) w B 9 l vl) (hS2 : Sl (RI w B) w B 9 m vm) (hsz : msize sizeI l ≤ 2000000) (hsz2 : msize sizeI m ≤ 2000000) (hvx : ∀ y, y ∈ l → VI y) (hvx2 : ∀ y, y ∈ m → VI y) :
    Calls Tryd.prog 6 #[vl, vm] w fun e w' => e = .returned (.bool true) ∧ Ext w w' := by
  have HSL := hide (fun (w' : World) (hx : Ext w w') => show Sl (RI w' w'.heap.size) w' w'.heap.size 9 l vl from (hS.extRI hx hB).moreRI (Nat.le_trans hB hx.size))
  have HSM := hide (fun (w' : World) (hx : Ext w w') => show Sl (RI w' w'.heap.size) w' w'.heap.size 9 m vm from (hS2.extRI hx hB).moreRI (Nat.le_trans hB hx.size))
  have HT := hide hT
  have HVX := hide hvx
  have HVX2 := hide hvx2
  have HLL := hide (length_le_msize sizeI l sizeI_pos)
  obtain ⟨la, lc, xl, rfl, hfl, hfll⟩ := hS.fl
  obtain ⟨ma, mc, -, rfl, -, -⟩ := hS2.fl
  have HFL := hide hfl
  have HFLL := hide hfll
  clear hT hvx hvx2 hS hS2 hfl hfll
  have GL := hide (live7_any w HT.out)
  have GF := hide (fun (w' : World) (hx : Ext w w') => fewL7_any w'.heap.size l w' _ (HSL.out w' hx) (Nat.le_refl _) (by omega))
  have GF2 := hide (fun (w' : World) (hx : Ext w w') => fewL7_any w'.heap.size m w' _ (HSM.out w' hx) (Nat.le_refl _) (by omega))
  go_enter Tryd.func6, Tryd.ntmps6
  go_wp2_with fail
  go_at_call 9
  refine GL.out.mono ?_
  rintro _ w1 ⟨rfl, hx1⟩
  have GF := hide (GF.out w1 hx1)
  have X1 := hide hx1
  clear hx1 GL
  go_wp2_with fail
  go_at_call 21
  refine GF.out.mono ?_
  rintro _ w2 ⟨b, rfl, hx2, -⟩
  have X2 := hide (X1.out.trans hx2)
  clear hx2 GF
  cases b with
  | false =>
    go_wp2_with fail
    go_ret
    exact ⟨rfl, X2.out⟩
  | true =>
    go_wp2_with fail
    go_at_call 21
    refine (GF2.out w2 X2.out).mono ?_
    rintro _ w3 ⟨b2, rfl, hx3, -⟩
    have X3 := hide (X2.out.trans hx3)
    clear hx3 GF2
    cases b2 with
    | false =>
      go_wp2_with fail
      go_ret
      exact ⟨rfl, X3.out⟩
    | true =>
      go_wp2_with fail
      go_at_call 17
      refine (module7_any tA la l.length lc w3).mono ?_
      rintro _ v4 ⟨rfl, hxa⟩
      obtain ⟨W4, hW, hxb, hb⟩ := box4 v4 (.string tA) (.slice none 0 0) (.slice none 0 0) (.slice la l.length lc) 36
      have hV := hW.symm
      have hxc := hxa.trans hxb
      have X4 := hide (X3.out.trans hxc)
      have SO := hide (sl_solo hb.lt hb (HSL.out _ X4.out))
      have CO := hide (checkN_any W4.heap.size [mSolo tA l] W4 _ (HT.out.ext X4.out) SO.out (Nat.le_refl _) (by rw [size_solo]; omega) (vm_solo (by decide) (HVX.out)))
      obtain ⟨ca, hc⟩ : ∃ c, checkN [mSolo tA l] = c := ⟨_, rfl⟩
      rw [hc] at CO
      have HCa := hide hc
      clear hW hxa hxb hb hxc hc SO
      go_wp2_with fail
      go_at_call 12
      refine CO.out.mono ?_
      rintro _ w4 ⟨rfl, hx⟩
      have Y4 := hide (X4.out.trans hx)
      clear hx CO hV
      go_wp2_with fail
      go_at_call 17
      refine (module7_any tA ma m.length mc w4).mono ?_
      rintro _ v5 ⟨rfl, hxa⟩
      obtain ⟨W5, hW, hxb, hb⟩ := box4 v5 (.string tA) (.slice none 0 0) (.slice none 0 0) (.slice ma m.length mc) 36
      have hV := hW.symm
      have hxc := hxa.trans hxb
      have X5 := hide (Y4.out.trans hxc)
      have SO := hide (sl_solo hb.lt hb (HSM.out _ X5.out))
      have CO := hide (checkN_any W5.heap.size [mSolo tA m] W5 _ (HT.out.ext X5.out) SO.out (Nat.le_refl _) (by rw [size_solo]; omega) (vm_solo (by decide) (HVX2.out)))
      obtain ⟨cb, hc⟩ : ∃ c, checkN [mSolo tA m] = c := ⟨_, rfl⟩
      rw [hc] at CO
      have HCb := hide hc
      clear hW hxa hxb hb hxc hc SO
      go_wp2_with fail
      go_at_call 12
      refine CO.out.mono ?_
      rintro _ w5 ⟨rfl, hx⟩
      have Y5 := hide (X5.out.trans hx)
      clear hx CO hV
      go_wp2_with fail
      go_at_call 22
      refine (one7_any w5).mono ?_
      rintro _ o1 ⟨rfl, hxo⟩
      obtain ⟨P1, hWo, hxp, hbo⟩ := box6 o1 (.int .i64 1) (.string ⟨#[]⟩) (.int .i64 0) (.int .i64 0) (.int .u64 1) (.slice none 0 0) 57
      have hVo := hWo.symm
      have XO1 := hide (Y5.out.trans (hxo.trans hxp))
      have BO1 := hide hbo
      clear hWo hxo hxp hbo
      obtain ⟨Wb6, W6, hVb6, ⟨p60, p61, p62, p63, p64, p65, p66, p67, p68⟩, ⟨q60, q61, q62, q63, q64, q65, q66, q67, q68⟩, hVc6, hb6, hx6, -⟩ := varI P1 (.int .i64 8) (.string ⟨#[]⟩) (.string ⟨#[]⟩) (.slice (some ⟨o1.heap.size, 0, none⟩) 1 1) (.slice none 0 0) (.slice la l.length lc) (.slice ma m.length mc) (.slice none 0 0) (.slice none 0 0)
      obtain ⟨W7, hW7, hx7, hb7⟩ := box9 W6 (.int .i64 8) (.string ⟨#[]⟩) (.string ⟨#[]⟩) (.slice (some ⟨o1.heap.size, 0, none⟩) 1 1) (.slice none 0 0) (.slice la l.length lc) (.slice ma m.length mc) (.slice none 0 0) (.slice none 0 0) 51
      have hV7 := hW7.symm
      have X7 := hide (XO1.out.trans (hx6.trans hx7))
      have BO1' := hide (BO1.out.ext (hx6.trans hx7))
      have B7 := hide hb7
      obtain ⟨f0, f1, f2, f3, f4, f5, f6, f7, f8⟩ := hb6.get9
      clear hb6 hx6 hW7 hx7 hb7
      go_wp2_with fail
      go_at_call 17
      refine (module7_any tA (some ⟨W6.heap.size, 0, none⟩) 1 1 W7).mono ?_
      rintro _ v8 ⟨rfl, hxa⟩
      obtain ⟨W8, hW, hxb, hb⟩ := box4 v8 (.string tA) (.slice none 0 0) (.slice none 0 0) (.slice (some ⟨W6.heap.size, 0, none⟩) 1 1) 36
      have hV := hW.symm
      have hxc := hxa.trans hxb
      have X8 := hide (X7.out.trans hxc)
      have SO := hide (sl_solo hb.lt hb (Sl.one (Nat.lt_of_lt_of_le B7.out.lt hxc.size) rfl (B7.out.ext hxc).cells (one_I rfl rfl) (ri_iIf (Nat.lt_of_lt_of_le BO1'.out.lt hxc.size) (BO1'.out.ext hxc).cells (HSL.out _ X8.out) (HSM.out _ X8.out))))
      have CO := hide (checkN_any W8.heap.size [mSolo tA [iIf l m]] W8 _ (HT.out.ext X8.out) SO.out (Nat.le_refl _) (by rw [size_solo]; rw [msize_one, size_iIf]; omega) (vm_solo (by decide) (all_one (vi_iIf HVX.out HVX2.out))))
      obtain ⟨co, hc⟩ : ∃ c, checkN [mSolo tA [iIf l m]] = c := ⟨_, rfl⟩
      rw [hc] at CO
      have HCo := hide hc
      clear hV7 hVb6 hVc6 hVo p60 p61 p62 p63 p64 p65 p66 p67 p68 q60 q61 q62 q63 q64 q65 q66 q67 q68 f0 f1 f2 f3 f4 f5 f6 f7 f8 hW hxa hxb hb hxc hc SO
      go_wp2_with fail
      go_at_call 12
      refine CO.out.mono ?_
      rintro _ w8 ⟨rfl, hx⟩
      have Y8 := hide (X8.out.trans hx)
      clear hx CO hV
      go_wp2_with fail
      go_at_call 22
      refine (one7_any w8).mono ?_
      rintro _ o2 ⟨rfl, hxo⟩
      obtain ⟨P2, hWo, hxp, hbo⟩ := box6 o2 (.int .i64 1) (.string ⟨#[]⟩) (.int .i64 0) (.int .i64 0) (.int .u64 1) (.slice none 0 0) 57
      have hVo := hWo.symm
      have XO2 := hide (Y8.out.trans (hxo.trans hxp))
      have BO2 := hide hbo
      clear hWo hxo hxp hbo
      obtain ⟨W9, hW9, hx9, hb9⟩ := box9 P2 (.int .i64 8) (.string ⟨#[]⟩) (.string ⟨#[]⟩) (.slice (some ⟨o2.heap.size, 0, none⟩) 1 1) (.slice none 0 0) (.slice la l.length lc) (.slice la l.length lc) (.slice none 0 0) (.slice none 0 0) 51
      have hV9 := hW9.symm
      have X9 := hide (XO2.out.trans hx9)
      have BO2' := hide (BO2.out.ext hx9)
      have B9 := hide hb9
      clear hW9 hx9 hb9
      go_wp2_with fail
      go_at_call 17
      refine (module7_any tA (some ⟨P2.heap.size, 0, none⟩) 1 1 W9).mono ?_
      rintro _ v10 ⟨rfl, hxa⟩
      obtain ⟨W10, hW, hxb, hb⟩ := box4 v10 (.string tA) (.slice none 0 0) (.slice none 0 0) (.slice (some ⟨P2.heap.size, 0, none⟩) 1 1) 36
      have hV := hW.symm
      have hxc := hxa.trans hxb
      have X10 := hide (X9.out.trans hxc)
      have SO := hide (sl_solo hb.lt hb (Sl.one (Nat.lt_of_lt_of_le B9.out.lt hxc.size) rfl (B9.out.ext hxc).cells (one_I rfl rfl) (ri_iIf (Nat.lt_of_lt_of_le BO2'.out.lt hxc.size) (BO2'.out.ext hxc).cells (HSL.out _ X10.out) (HSL.out _ X10.out))))
      have CO := hide (checkN_any W10.heap.size [mSolo tA [iIf l l]] W10 _ (HT.out.ext X10.out) SO.out (Nat.le_refl _) (by rw [size_solo]; rw [msize_one, size_iIf]; omega) (vm_solo (by decide) (all_one (vi_iIf HVX.out HVX.out))))
      obtain ⟨cl, hc⟩ : ∃ c, checkN [mSolo tA [iIf l l]] = c := ⟨_, rfl⟩
      rw [hc] at CO
      have HCl := hide hc
      clear hV9 hVo hW hxa hxb hb hxc hc SO
      go_wp2_with fail
      go_at_call 12
      refine CO.out.mono ?_
      rintro _ w10 ⟨rfl, hx⟩
      have Y10 := hide (X10.out.trans hx)
      clear hx CO hV
      obtain ⟨W11, hW11⟩ : ∃ W11, W11 = w10.alloc (.cells #[] 51) := ⟨_, rfl⟩
      have hV11 := hW11.symm
      have hx11 : Ext w10 W11 := by rw [hW11]; exact Ext.new _ _
      have O11 := hide (show OwnL (RI w10 w10.heap.size) w10.heap.size 51 9 ([] : List Itm) (.slice (some ⟨w10.heap.size, 0, none⟩) 0 0) W11 from by rw [hW11]; exact OwnL.new w10 _)
      have X11 := hide hx11
      have hbs : w10.heap.size ≤ W11.heap.size := hx11.size
      obtain ⟨sa, sc, xs, hse, hsf, hsg⟩ := (HSL.out w10 Y10.out).fl
      obtain ⟨rfl, -, rfl⟩ := Value.slice.inj hse
      have HSF := hide (hsf.ext hx11)
      have HSG := hide hsg
      clear hW11 hx11 hse hsf hsg
      go_wp2_with (first
        | (at_builtin; refine wpList_append_own rfl _ _ 34 rfl w10.heap.size 51 _ 9 184 infoItm Tryd.underlying34 rfl (by decide) (by decide) [] l (.slice (some ⟨w10.heap.size, 0, none⟩) 0 0) rfl O11.out la lc xs rfl HSF.out HSG.out (by simp) (by have := HLL.out; omega) hbs ?_; intro v12 w12 hown12 hg12 hlt12
           have X12 := hide (X11.out.grown hg12 hlt12)
           obtain ⟨a12, c12, rfl⟩ := hown12.form
           rw [List.nil_append] at hown12
           have O12 := hide hown12
           have hbs := X12.out.size
           clear hown12 hg12 hlt12 hV11))
      go_at_call 22
      refine (one7_any w12).mono ?_
      rintro _ o3 ⟨rfl, hxo⟩
      obtain ⟨P3, hWo, hxp, hbo⟩ := box6 o3 (.int .i64 1) (.string ⟨#[]⟩) (.int .i64 0) (.int .i64 0) (.int .u64 1) (.slice none 0 0) 57
      have hVo := hWo.symm
      obtain ⟨W13, hW13, hx13, hb13⟩ := box9 P3 (.int .i64 8) (.string ⟨#[]⟩) (.string ⟨#[]⟩) (.slice (some ⟨o3.heap.size, 0, none⟩) 1 1) (.slice none 0 0) (.slice la l.length lc) (.slice none 0 0) (.slice none 0 0) (.slice none 0 0) 51
      have hV13 := hW13.symm
      have hx := hxo.trans (hxp.trans hx13)
      have X13 := hide (X12.out.trans hx)
      have O13 := hide (O12.out.later hx)
      have BO3 := hide (hbo.ext hx13)
      have HLT := hide (fun g hg => (O12.out.lt g hg).2)
      have HLE := hide (show w12.heap.size ≤ o3.heap.size from hxo.size)
      have HF13 := hide (show Flat W13 9 (some ⟨P3.heap.size, 0, none⟩) 1 (cI o3.heap.size (.slice la l.length lc) (.slice none 0 0)) from ⟨rfl, one_I rfl rfl, fun _ => ⟨_, _, rfl, hb13.cells⟩⟩)
      have hbs := X13.out.size
      clear hWo hxo hxp hbo hW13 hx13 hb13 hx
      go_wp2_with (first
        | (at_builtin; refine wpList_append_own (R := fun x cs => RI w10 w10.heap.size x cs ∨ x = iIf l [] ∧ cs = cI o3.heap.size (.slice la l.length lc) (.slice none 0 0)) rfl _ _ 34 rfl w10.heap.size 51 _ 9 184 infoItm Tryd.underlying34 rfl (by decide) (by decide) l [iIf l []] (.slice a12 l.length c12) rfl (O13.out.imp fun x cs hr => .inl hr) _ 1 _ rfl HF13.out (Fl.one_ rfl (one_I rfl rfl) (.inr ⟨rfl, rfl⟩)) (by have := HLL.out; omega) (by simp) hbs ?_; intro v14 w14 hown14 hg14 hlt14
           have X14 := hide (X13.out.grown hg14 hlt14)
           have HS14 := hide (show Sl (RI w14 w14.heap.size) w14 w14.heap.size 9 (l ++ [iIf l []]) v14 from by
             have hb14 := blk_beside BO3.out hg14 (fun b hb e => by have h1 := HLT.out b hb; have h2 := HLE.out; omega)
             refine (hown14.sl (by decide)).imp fun x cs hr => ?_
             rcases hr with hr | ⟨rfl, rfl⟩
             · exact (hr.ext X14.out (Nat.le_refl _)).more X14.out.size
             · exact ri_iIf hb14.lt hb14.cells (HSL.out _ (Y10.out.trans X14.out)) Sl.nil)
           obtain ⟨a14, c14, rfl⟩ := hown14.form
           have hl14 : (l ++ [iIf l []]).length = l.length + 1 := by simp
           rw [hl14] at HS14
           clear hown14 hg14 hlt14 hV13 hVo HF13 hl14))
      have Y14 := hide (Y10.out.trans X14.out)
      go_wp2_with fail
      go_at_call 17
      refine (module7_any tA a14 (l.length + 1) c14 w14).mono ?_
      rintro _ v15 ⟨rfl, hxa⟩
      obtain ⟨W15, hW, hxb, hb⟩ := box4 v15 (.string tA) (.slice none 0 0) (.slice none 0 0) (.slice a14 (l.length + 1) c14) 36
      have hV := hW.symm
      have hxc := hxa.trans hxb
      have X15 := hide (Y14.out.trans hxc)
      have SO := hide (sl_solo hb.lt hb ((HS14.out.extRI hxc (Nat.le_refl _)).moreRI hxc.size))
      have CO := hide (checkN_any W15.heap.size [mSolo tA (l ++ [iIf l []])] W15 _ (HT.out.ext X15.out) SO.out (Nat.le_refl _) (by rw [size_solo]; rw [msize_append, msize_one, size_iIf]; simp [msize]; omega) (vm_solo (by decide) ((fun y hy => (List.mem_append.1 hy).elim (HVX.out y) (all_one (vi_iIf (m := []) HVX.out (fun y hy => nomatch hy)) y)))))
      obtain ⟨ct, hc⟩ : ∃ c, checkN [mSolo tA (l ++ [iIf l []])] = c := ⟨_, rfl⟩
      rw [hc] at CO
      have HCt := hide hc
      clear hW hxa hxb hb hxc hc SO
      go_wp2_with fail
      go_at_call 12
      refine CO.out.mono ?_
      rintro _ w15 ⟨rfl, hx⟩
      have Y15 := hide (X15.out.trans hx)
      clear hx CO hV
      have NO1 := hide (fun h : ca = 0 => show cl = 0 ∨ cl = 2 from by have := sides_alike (HCa.out.trans h); rwa [HCl.out] at this)
      have NO2 := hide (fun (h : ca = 0) (hne : tnIs l ≠ []) => show ct = 70 ∨ ct = 2 from by have := sides_twice (HCa.out.trans h) hne; rwa [HCt.out] at this)
      have NO3 := hide (fun h : co = 0 => show ca = 0 ∧ cb = 0 from by have := sides_both (HCo.out.trans h); rwa [HCa.out, HCb.out] at this)
      have HMT := hide (fun (w' : World) (hx : Ext w w') => rTold_any w'.heap.size (mSolo tA l) w' [.string tA, .slice none 0 0, .slice none 0 0, .slice la l.length lc] ⟨_, _, _, rfl, Sl.nil, Sl.nil, HSL.out w' hx⟩ (Nat.le_refl _) (by show 1 + 0 + 0 + msize sizeI l ≤ _; omega))
      have HOWN := hide (show ownN (mSolo tA l) = tnIs l by show tnIs l ++ ([] ++ []) = tnIs l; simp)
      clear O11 O12 O13 HSF HSG HSM HFL HFLL HCa HCb HCl HCo HCt
      by_cases h0 : ca = 0
      · subst h0
        have ht : ∀ n : Nat, (tnIs l).length = n → n ≠ 0 → ct = 70 ∨ ct = 2 := fun n hn h0 => NO2.out rfl (fun e => h0 (by rw [← hn, e]; rfl))
        have HTN := hide ht
        clear ht
        rcases NO1.out rfl with rfl | rfl
        all_goals
          go_wp2_with fail
          go_at_call 17
          refine (module7_any tA la l.length lc w15).mono ?_
          rintro _ w16 ⟨rfl, hx16⟩
          have Y16 := hide (Y15.out.trans hx16)
          clear hx16
          go_wp2_with fail
          go_at_call 18
          refine (HMT.out w16 Y16.out).mono ?_
          rintro _ w17 ⟨v17, rfl, hs17, hx17⟩
          have Y17 := hide (Y16.out.trans hx17)
          rw [HOWN.out] at hs17
          obtain ⟨ta, tc, rfl, -, -⟩ := hs17
          generalize yes (okN (mSolo tA l) (ownN (mSolo tA l))) = okk at *
          obtain ⟨n, hn⟩ : ∃ n, (tnIs l).length = n := ⟨_, rfl⟩
          have HN := hide (HTN.out n hn)
          rw [hn]
          clear hx17 hn
          obtain ⟨Wb, Wc, hVb, ⟨p0, p1⟩, ⟨q0, q1⟩, hVc, hbc, hxc⟩ := varScp w17 (.slice ta n tc) (.bool okk)
          obtain ⟨s0, s1⟩ := hbc.get2
          have YF := hide (Y17.out.trans hxc)
          clear hbc hxc
          by_cases hn0 : n = 0
          · subst hn0
            by_cases hco : co = 0
            · obtain ⟨-, rfl⟩ := NO3.out hco
              subst hco
              go_wp2_with fail
              go_ret
              exact ⟨rfl, YF.out⟩
            · have hne : (co != 0) = true := by simpa using hco
              clear hco
              go_wp2_with fail
              go_ret
              exact ⟨rfl, YF.out⟩
          · rcases HN.out hn0 with rfl | rfl
            all_goals
              have hgt : (0 : Int) < (n : Int) := by omega
              by_cases hco : co = 0
              · obtain ⟨-, rfl⟩ := NO3.out hco
                subst hco
                go_wp2_with fail
                go_ret
                exact ⟨rfl, YF.out⟩
              · have hne : (co != 0) = true := by simpa using hco
                clear hco
                go_wp2_with fail
                go_ret
                exact ⟨rfl, YF.out⟩
      · have hf : (ca == 0) = false := by simpa using h0
        have hco : (co != 0) = true := by simpa using (fun e : co = 0 => h0 (NO3.out e).1)
        clear h0
        go_wp2_with fail
        go_at_call 17
        refine (module7_any tA la l.length lc w15).mono ?_
        rintro _ w16 ⟨rfl, hx16⟩
        have Y16 := hide (Y15.out.trans hx16)
        clear hx16
        go_wp2_with fail
        go_at_call 18
        refine (HMT.out w16 Y16.out).mono ?_
        rintro _ w17 ⟨v17, rfl, hs17, hx17⟩
        have Y17 := hide (Y16.out.trans hx17)
        obtain ⟨ta, tc, rfl, -, -⟩ := hs17
        generalize yes (okN (mSolo tA l) (ownN (mSolo tA l))) = okk at *
        generalize (ownN (mSolo tA l)).length = n at *
        clear hx17
        obtain ⟨Wb, Wc, hVb, ⟨p0, p1⟩, ⟨q0, q1⟩, hVc, hbc, hxc⟩ := varScp w17 (.slice ta n tc) (.bool okk)
        obtain ⟨s0, s1⟩ := hbc.get2
        have YF := hide (Y17.out.trans hxc)
        clear hbc hxc
        go_wp2_with fail
        go_ret
        exact ⟨rfl, YF.out⟩

end Go.Proofs.YtjoglnjpgkobeaaDoor
