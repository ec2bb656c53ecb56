/-
  NAMES: the laws' live: the examples, in memory.
-/
import Derived.Test.YtjoglnjpgkobeaaDoorNLawPk
import Derived.Test.YtjoglnjpgkobeaaDoorRefFPk
import Derived.Test.YtjoglnjpgkobeaaDoorNLawPPk
import Derived.Test.YtjoglnjpgkobeaaDoorFactsPk
import Derived.Test.YtjoglnjpgkobeaaDoorNStrPk
namespace Go.Proofs.YtjoglnjpgkobeaaDoor
open Go Go.RowKit
set_option linter.all false
set_option linter.unusedVariables false
set_option linter.unusedSimpArgs false
set_option linter.unusedVariables false
set_option linter.unusedSimpArgs false
attribute [local go_sem] run_store_one

theorem Sl.pair {α : Type} {R : α → List Value → Prop} {w : World} {B sz g : Nat} {x y : α} {cs ds : List Value} (hb : g < B) (hl : cs.length = sz) (hl2 : ds.length = sz) (hc : Cells w g 0 (cs ++ ds)) (ho : ∀ v, v ∈ cs ++ ds → v.oneCell' = true) (hr : R x cs) (hr2 : R y ds) :
    Sl R w B sz [x, y] (.slice (some ⟨g, 0, none⟩) 2 2) := by
  refine ⟨_, 2, rfl, Nat.le_refl _, fun k hk => ?_⟩
  match k, hk with
  | 0, _ => exact ⟨g, 0, cs, rfl, hb, hl, fun j v hj => by
      have := hc j v (by rw [List.getElem?_append_left (List.getElem?_eq_some_iff.1 hj).1]; exact hj)
      simpa using this, fun v hv => ho v (List.mem_append_left _ hv), hr⟩
  | 1, _ => exact ⟨g, 0, ds, rfl, hb, hl2, fun j v hj => by
      have := hc (cs.length + j) v (by rw [List.getElem?_append_right (by omega), Nat.add_sub_cancel_left]; exact hj)
      rw [hl] at this
      simpa using this, fun v hv => ho v (List.mem_append_right _ hv), hr2⟩

def cU (of : ByteArray) : List Value := [.int .i64 7, .string tU, .string of, .slice none 0 0, .slice none 0 0, .slice none 0 0, .slice none 0 0, .slice none 0 0, .slice none 0 0]
def cX : List Value := [.int .i64 1, .string tE, .int .i64 0, .int .i64 0, .int .u64 1, .slice none 0 0]
def cW (nm : ByteArray) (g : Nat) : List Value := [.int .i64 2, .string nm, .string tE, .slice (some ⟨g, 0, none⟩) 1 1, .slice none 0 0, .slice none 0 0, .slice none 0 0, .slice none 0 0, .slice none 0 0]
def cM (nm : ByteArray) (v : Value) : List Value := [.string nm, .slice none 0 0, .slice none 0 0, v]
section
variable {w : World} {B : Nat}
theorem ri_iU (of : ByteArray) : RI w B (iU of) (cU of) := RI_iff.2 ⟨_, _, _, _, _, _, rfl, Sl.nil, Sl.nil, Sl.nil, Sl.nil, Sl.nil, Sl.nil⟩
theorem rx_xOne : RX w B xOne cX := RX_iff.2 ⟨_, rfl, Sl.nil⟩
theorem ri_iW {g : Nat} (nm : ByteArray) (hb : g < B) (hc : Cells w g 0 cX) : RI w B (iW nm) (cW nm g) := RI_iff.2 ⟨_, _, _, _, _, _, rfl, Sl.one hb rfl hc (by simp [cX, Value.oneCell']) rx_xOne, Sl.nil, Sl.nil, Sl.nil, Sl.nil, Sl.nil⟩
theorem rm_mA {g : Nat} (of : ByteArray) (hb : g < B) (hc : Cells w g 0 (cU of)) : RM w B (mA of) (cM tA (.slice (some ⟨g, 0, none⟩) 1 1)) := ⟨_, _, _, rfl, Sl.nil, Sl.nil, Sl.one hb rfl hc (by simp [cU, Value.oneCell']) (ri_iU of)⟩
theorem rm_mB : RM w B mB (cM tB (.slice none 0 0)) := ⟨_, _, _, rfl, Sl.nil, Sl.nil, Sl.nil⟩
end

set_option maxRecDepth 20000 in
theorem wire7_any (nm : ByteArray) (w : World) :
    Calls Tryd.prog 20 #[.string nm] w fun e w' => ∃ g, e = .returned (.agg #[.int .i64 2, .string nm, .string ⟨#[]⟩, .slice (some ⟨g, 0, none⟩) 1 1, .slice none 0 0, .slice none 0 0, .slice none 0 0, .slice none 0 0, .slice none 0 0]) ∧ Blk w' g 57 cX ∧ w.heap.size ≤ g ∧ Ext w w' := by
  obtain ⟨W1, hW1, hx1, hb1⟩ := box9 w (.int .i64 0) (.string ⟨#[]⟩) (.string ⟨#[]⟩) (.slice none 0 0) (.slice none 0 0) (.slice none 0 0) (.slice none 0 0) (.slice none 0 0) (.slice none 0 0) 51
  have hV1 := hW1.symm
  have HB := hide hb1
  have HX := hide hx1
  have G1 := hide (one7_any W1)
  clear hW1 hb1 hx1
  go_enter Tryd.func20, Tryd.ntmps20
  go_wp2_with fail
  go_at_call 22
  refine G1.out.mono ?_
  rintro _ w2 ⟨rfl, hx2⟩
  obtain ⟨W3, hW3, hx3, hb3⟩ := box6 w2 (.int .i64 1) (.string ⟨#[]⟩) (.int .i64 0) (.int .i64 0) (.int .u64 1) (.slice none 0 0) 57
  have hV3 := hW3.symm
  have hb := HB.out.ext (hx2.trans hx3)
  obtain ⟨p0, p1, p2, p3, p4, p5, p6, p7, p8⟩ := hb.get9
  obtain ⟨q0, q1, q2, q3, q4, q5, q6, q7, q8⟩ := hb.free9
  have hbs := hb.store9 (.int .i64 2) (.string nm) (.string ⟨#[]⟩) (.slice (some ⟨w2.heap.size, 0, none⟩) 1 1) (.slice none 0 0) (.slice none 0 0) (.slice none 0 0) (.slice none 0 0) (.slice none 0 0)
  obtain ⟨Wc, hWc⟩ : ∃ Wc, Wc = (((((((((W3.setCell ⟨w.heap.size, 0, none⟩ (.int .i64 2)).setCell ⟨w.heap.size, 1, none⟩ (.string nm)).setCell ⟨w.heap.size, 2, none⟩ (.string ⟨#[]⟩)).setCell ⟨w.heap.size, 3, none⟩ (.slice (some ⟨w2.heap.size, 0, none⟩) 1 1)).setCell ⟨w.heap.size, 4, none⟩ (.slice none 0 0)).setCell ⟨w.heap.size, 5, none⟩ (.slice none 0 0)).setCell ⟨w.heap.size, 6, none⟩ (.slice none 0 0)).setCell ⟨w.heap.size, 7, none⟩ (.slice none 0 0)).setCell ⟨w.heap.size, 8, none⟩ (.slice none 0 0)) := ⟨_, rfl⟩
  rw [← hWc] at hbs
  have hxw := (HX.out.trans hx2).trans hx3
  have hxc : Ext w Wc := by
    rw [hWc]
    exact (((((((((hxw.setCell (Nat.le_refl _) _).setCell (Nat.le_refl _) _).setCell (Nat.le_refl _) _).setCell (Nat.le_refl _) _).setCell (Nat.le_refl _) _).setCell (Nat.le_refl _) _).setCell (Nat.le_refl _) _).setCell (Nat.le_refl _) _).setCell (Nat.le_refl _) _)
  have hlt : w.heap.size < w2.heap.size := Nat.lt_of_lt_of_le HB.out.lt hx2.size
  have hnn : w2.heap.size ≠ w.heap.size := by omega
  have hb3c : Blk Wc w2.heap.size 57 cX := by
    rw [hWc]
    exact ((((((((hb3.far hnn _).far hnn _).far hnn _).far hnn _).far hnn _).far hnn _).far hnn _).far hnn _).far hnn _
  obtain ⟨r0, r1, r2, r3, r4, r5, r6, r7, r8⟩ := hbs.get9
  have hVc := hWc.symm
  have FIN := hide (And.intro hb3c hxc)
  clear hb hbs hxw hxc hb3c hb3 hx3 hx2 hW3 hWc
  go_wp2_with fail
  refine bodyPost_ret (v := .agg #[.int .i64 2, .string nm, .string ⟨#[]⟩, .slice (some ⟨w2.heap.size, 0, none⟩) 1 1, .slice none 0 0, .slice none 0 0, .slice none 0 0, .slice none 0 0, .slice none 0 0]) ?_ rfl ⟨_, rfl, FIN.out.1, by omega, FIN.out.2⟩
  simp [results, Tryd.results20, go_sem, r0, r1, r2, r3, r4, r5, r6, r7, r8]

/-- A row of texts, laid. -/
theorem sstr_blk {w : World} {g : Nat} (l : List ByteArray) (hb : Blk w g 9 (l.map .string)) : SStr w l (.slice (some ⟨g, 0, none⟩) l.length l.length) :=
  ⟨_, _, rfl, Nat.le_refl _, fun k hk => ⟨g, 0, rfl, by rw [Nat.zero_add, hb.cell k, List.getElem?_map, List.getElem?_eq_getElem hk]; rfl⟩⟩

set_option maxRecDepth 200000 in
set_option maxHeartbeats 8000000 in
theorem live7_any (w : World) (hT : Tabs w) : Calls Tryd.prog 9 #[] w fun e w' => e = .returned (.bool true) ∧ Ext w w' := by
  have HT := hide hT
  clear hT
  go_enter Tryd.func9, Tryd.ntmps9
  go_wp2_with fail
  go_at_call 25
  refine (inst7_any tU tB w).mono ?_
  rintro _ w1 ⟨rfl, hx1⟩
  obtain ⟨W2, hW2, hx2, hb2⟩ := box9 w1 (.int .i64 7) (.string tU) (.string tB) (.slice none 0 0) (.slice none 0 0) (.slice none 0 0) (.slice none 0 0) (.slice none 0 0) (.slice none 0 0) 51
  have hV2 := hW2.symm
  have HB2 := hide hb2
  have X2 := hide (hx1.trans hx2)
  clear hW2 hb2 hx1 hx2
  go_wp2_with fail
  go_at_call 17
  refine (module7_any tA _ _ _ W2).mono ?_
  rintro _ w3 ⟨rfl, hx3⟩
  go_wp2_with fail
  go_at_call 17
  refine (module7_any tB _ _ _ w3).mono ?_
  rintro _ w4 ⟨rfl, hx4⟩
  obtain ⟨W5, hW5, hx5, hb5⟩ := box8 w4 (.string tA) (.slice none 0 0) (.slice none 0 0) (.slice (some ⟨w1.heap.size, 0, none⟩) 1 1) (.string tB) (.slice none 0 0) (.slice none 0 0) (.slice none 0 0) 36
  have hV5 := hW5.symm
  obtain ⟨W6, hW6, hx6, hb6⟩ := box1 W5 (.slice none 0 0) 24
  have hV6 := hW6.symm
  have m6 := hb6.get1
  have n6 := hb6.free1
  obtain ⟨W7, hW7⟩ : ∃ W7, W7 = W6.setCell ⟨W5.heap.size, 0, none⟩ (.slice (some ⟨w4.heap.size, 0, none⟩) 2 2) := ⟨_, rfl⟩
  have hV7 := hW7.symm
  have hb7 : Blk W7 W5.heap.size 24 [.slice (some ⟨w4.heap.size, 0, none⟩) 2 2] := by rw [hW7]; exact hb6.store1 _
  have hx57 : Ext W5 W7 := by rw [hW7]; exact hx6.setCell (Nat.le_refl _) _
  have hx27 : Ext W2 W7 := (hx3.trans hx4).trans (hx5.trans hx57)
  have SF := hide (show Sl (RM W7 W7.heap.size) W7 W7.heap.size 4 fF (.slice (some ⟨w4.heap.size, 0, none⟩) 2 2) from
    Sl.pair (Nat.lt_of_lt_of_le hb5.lt hx57.size) rfl rfl (hb5.ext hx57).cells (by simp [cM, Value.oneCell']) (rm_mA tB (Nat.lt_of_lt_of_le HB2.out.lt hx27.size) (HB2.out.ext hx27).cells) rm_mB)
  have BF := hide (And.intro hb7 (hb5.ext hx57))
  have RA := hide (show RM W7 W7.heap.size (mA tB) (cM tA (.slice (some ⟨w1.heap.size, 0, none⟩) 1 1)) from rm_mA tB (Nat.lt_of_lt_of_le HB2.out.lt hx27.size) (HB2.out.ext hx27).cells)
  have X7 := hide (X2.out.trans hx27)
  clear hW5 hx5 hb5 hW6 hx6 hb6 hW7 hb7 hx57 hx27 hx3 hx4 HB2 X2
  go_wp2_with fail
  go_at_call 20
  refine (wire7_any tW W7).mono ?_
  rintro _ w8 ⟨ga, rfl, hba, hga, hx8⟩
  clear hV2 hV5 hV6 hV7 m6 n6
  go_wp2_with fail
  go_at_call 20
  refine (wire7_any tW w8).mono ?_
  rintro _ w9 ⟨gb, rfl, hbb, hgb, hx9⟩
  obtain ⟨W10, hW10⟩ : ∃ W10, W10 = w9.alloc (.cells #[.int .i64 2, .string tW, .string ⟨#[]⟩, .slice (some ⟨ga, 0, none⟩) 1 1, .slice none 0 0, .slice none 0 0, .slice none 0 0, .slice none 0 0, .slice none 0 0, .int .i64 2, .string tW, .string ⟨#[]⟩, .slice (some ⟨gb, 0, none⟩) 1 1, .slice none 0 0, .slice none 0 0, .slice none 0 0, .slice none 0 0, .slice none 0 0] 51) := ⟨_, rfl⟩
  have hV10 := hW10.symm
  have hb10 : Blk W10 w9.heap.size 51 (cW tW ga ++ cW tW gb) := by rw [hW10]; exact Blk.new w9 _ (cW tW ga ++ cW tW gb)
  have hx10 : Ext w9 W10 := by rw [hW10]; exact Ext.new _ _
  have HA := hide (And.intro ((hba.ext hx9).ext hx10) (And.intro (hbb.ext hx10) hb10))
  have X10 := hide (((X7.out.trans hx8).trans hx9).trans hx10)
  have Y10 := hide ((hx8.trans hx9).trans hx10)
  clear hba hbb hga hgb hx8 hx9 hx10 hb10 hW10
  go_wp2_with fail
  go_at_call 17
  refine (module7_any tA _ _ _ W10).mono ?_
  rintro _ w11 ⟨rfl, hx11⟩
  obtain ⟨W12, hW12, hx12, hb12⟩ := box4 w11 (.string tA) (.slice none 0 0) (.slice none 0 0) (.slice (some ⟨w9.heap.size, 0, none⟩) 2 2) 36
  have hV12 := hW12.symm
  obtain ⟨W13, hW13, hx13, hb13⟩ := box1 W12 (.slice none 0 0) 24
  have hV13 := hW13.symm
  have m13 := hb13.get1
  have n13 := hb13.free1
  obtain ⟨W14, hW14⟩ : ∃ W14, W14 = W13.setCell ⟨W12.heap.size, 0, none⟩ (.slice (some ⟨w11.heap.size, 0, none⟩) 1 1) := ⟨_, rfl⟩
  have hV14 := hW14.symm
  have hb14 : Blk W14 W12.heap.size 24 [.slice (some ⟨w11.heap.size, 0, none⟩) 1 1] := by rw [hW14]; exact hb13.store1 _
  have hx134 : Ext W12 W14 := by rw [hW14]; exact hx13.setCell (Nat.le_refl _) _
  have hx104 : Ext W10 W14 := hx11.trans (hx12.trans hx134)
  have SG := hide (show Sl (RM W14 W14.heap.size) W14 W14.heap.size 4 fG (.slice (some ⟨w11.heap.size, 0, none⟩) 1 1) from
    Sl.one (Nat.lt_of_lt_of_le hb12.lt hx134.size) rfl (hb12.ext hx134).cells (by simp [Value.oneCell']) ⟨_, _, _, rfl, Sl.nil, Sl.nil,
      Sl.pair (Nat.lt_of_lt_of_le HA.out.2.2.lt hx104.size) rfl rfl (HA.out.2.2.ext hx104).cells (by simp [cW, Value.oneCell'])
        (ri_iW tW (Nat.lt_of_lt_of_le HA.out.1.lt hx104.size) (HA.out.1.ext hx104).cells) (ri_iW tW (Nat.lt_of_lt_of_le HA.out.2.1.lt hx104.size) (HA.out.2.1.ext hx104).cells)⟩)
  have BG := hide hb14
  have X14 := hide (X10.out.trans hx104)
  have Y14 := hide (Y10.out.trans hx104)
  clear hW12 hx12 hb12 hW13 hx13 hb13 hW14 hb14 hx134 hx104 hx11 HA X10 Y10 hV10
  go_wp2_with fail
  go_at_call 25
  refine (inst7_any tU tA W14).mono ?_
  rintro _ w15 ⟨rfl, hx15⟩
  obtain ⟨W16, hW16, hx16, hb16⟩ := box9 w15 (.int .i64 7) (.string tU) (.string tA) (.slice none 0 0) (.slice none 0 0) (.slice none 0 0) (.slice none 0 0) (.slice none 0 0) (.slice none 0 0) 51
  have hV16 := hW16.symm
  clear hV12 hV13 hV14 m13 n13 hW16
  go_wp2_with fail
  go_at_call 17
  refine (module7_any tA _ _ _ W16).mono ?_
  rintro _ w17 ⟨rfl, hx17⟩
  obtain ⟨W18, hW18, hx18, hb18⟩ := box4 w17 (.string tA) (.slice none 0 0) (.slice none 0 0) (.slice (some ⟨w15.heap.size, 0, none⟩) 1 1) 36
  have hV18 := hW18.symm
  obtain ⟨W19, hW19, hx19, hb19⟩ := box1 W18 (.slice none 0 0) 24
  have hV19 := hW19.symm
  have m19 := hb19.get1
  have n19 := hb19.free1
  obtain ⟨W20, hW20⟩ : ∃ W20, W20 = W19.setCell ⟨W18.heap.size, 0, none⟩ (.slice (some ⟨w17.heap.size, 0, none⟩) 1 1) := ⟨_, rfl⟩
  have hV20 := hW20.symm
  have hb20 : Blk W20 W18.heap.size 24 [.slice (some ⟨w17.heap.size, 0, none⟩) 1 1] := by rw [hW20]; exact hb19.store1 _
  have hx180 : Ext W18 W20 := by rw [hW20]; exact hx19.setCell (Nat.le_refl _) _
  have hx160 : Ext W16 W20 := hx17.trans (hx18.trans hx180)
  have hx140 : Ext W14 W20 := hx15.trans (hx16.trans hx160)
  have SH := hide (show Sl (RM W20 W20.heap.size) W20 W20.heap.size 4 fH (.slice (some ⟨w17.heap.size, 0, none⟩) 1 1) from
    Sl.one (Nat.lt_of_lt_of_le hb18.lt hx180.size) rfl (hb18.ext hx180).cells (by simp [Value.oneCell']) (rm_mA tA (Nat.lt_of_lt_of_le hb16.lt hx160.size) (hb16.ext hx160).cells))
  have BH := hide hb20
  have X20 := hide (X14.out.trans hx140)
  have SG2 := hide ((SG.out.extRM hx140 (Nat.le_refl _)).moreRM hx140.size)
  have SF2 := hide ((SF.out.extRM (Y14.out.trans hx140) (Nat.le_refl _)).moreRM (Y14.out.trans hx140).size)
  have BF2 := hide (And.intro (BF.out.1.ext (Y14.out.trans hx140)) (BF.out.2.ext (Y14.out.trans hx140)))
  have BG2 := hide (BG.out.ext hx140)
  have RA2 := hide ((RA.out.ext (Y14.out.trans hx140) (Nat.le_refl _)).more (Y14.out.trans hx140).size)
  clear hx16 hb16 hW18 hx18 hb18 hW19 hx19 hb19 hW20 hb20 hx180 hx160 hx140 hx15 hx17 SG SF BF BG RA X14 Y14 X7
  have GO := hide (orderN_any W20.heap.size fF W20 _ (HT.out.ext X20.out) SF2.out (Nat.le_refl _) (by decide) vm_F)
  have y0 := BF2.out.1.get1
  go_wp2_with fail
  go_at_call 11
  refine GO.out.mono ?_
  rintro _ w21 ⟨v, rfl, hx21, ho, -⟩
  rw [checkN_F]
  have HOW := hide (SStr.of_row (ho checkN_F))
  have Y21 := hide hx21
  have y1 := (BF2.out.1.ext hx21).get1
  clear hx21 ho GO y0 hV16 hV18 hV19 hV20 m19 n19
  have GB := hide (below_any W20.heap.size fF tB w21 _ (HT.out.ext (X20.out.trans Y21.out)) (SF2.out.extRM Y21.out (Nat.le_refl _)) Y21.out.size (by decide) vm_F)
  go_wp2_with fail
  go_at_call 16
  refine GB.out.mono ?_
  rintro _ w22 ⟨v2, c2, rfl, hx22, hc2, hb2, -⟩
  obtain rfl : c2 = 0 := by rw [hc2, if_pos checkN_F, find_FB]; rfl
  have HBW := hide (SStr.of_row (hb2 rfl))
  have Y22 := hide (Y21.out.trans hx22)
  have HOW2 := hide (HOW.out.ext hx22)
  have y2 := (BF2.out.1.ext Y22.out).get1
  clear hx22 hc2 hb2 GB y1 HOW
  have GF := hide (find_any W20.heap.size fF tB w22 _ (SF2.out.extRM Y22.out (Nat.le_refl _)) Y22.out.size (by decide))
  rw [find_FB] at GF
  go_wp2_with fail
  go_at_call 13
  refine GF.out.mono ?_
  rintro _ w23 ⟨c0, c1, c2, c3, rfl, hR, hx23⟩
  obtain ⟨u1, u2, u3, hcs, hp1, hq1, hi1⟩ := hR
  simp only [List.cons.injEq, and_true] at hcs
  obtain ⟨rfl, rfl, rfl, rfl⟩ := hcs
  have o1 := hp1.oneCell
  have o2 := hq1.oneCell
  have o3 := hi1.oneCell
  obtain ⟨Wb, W24, hVb, ⟨p0, p1, p2, p3⟩, ⟨q0, q1, q2, q3⟩, hVc, hb24, hx24, -⟩ := varM w23 (.string tB) c1 c2 c3
  have Y24 := hide ((Y22.out.trans hx23).trans hx24)
  have HOW3 := hide ((HOW2.out.ext hx23).ext hx24)
  have HBW3 := hide ((HBW.out.ext hx23).ext hx24)
  have B24 := hide hb24
  have y4 := (BF2.out.1.ext Y24.out).get1
  clear hp1 hq1 hi1 hb24 hx24 hx23 GF y2 HOW2 HBW
  rw [show ((some mB).getD zeroM).name = tB from rfl, show (some mB).isSome = true from rfl]
  have GF := hide (find_any W20.heap.size fF tC W24 _ (SF2.out.extRM Y24.out (Nat.le_refl _)) Y24.out.size (by decide))
  rw [find_FC] at GF
  go_wp2_with fail
  go_at_call 13
  refine GF.out.mono ?_
  rintro _ w25 ⟨d0, d1, d2, d3, rfl, hR, hx25⟩
  clear hVb hVc p0 p1 p2 p3 q0 q1 q2 q3 o1 o2 o3
  obtain ⟨u1, u2, u3, hcs, hp1, hq1, hi1⟩ := hR
  simp only [List.cons.injEq, and_true] at hcs
  obtain ⟨rfl, rfl, rfl, rfl⟩ := hcs
  have o1 := hp1.oneCell
  have o2 := hq1.oneCell
  have o3 := hi1.oneCell
  rw [show ((none : Option Mdl).getD zeroM).name = tE from rfl, show (none : Option Mdl).isSome = false from rfl]
  obtain ⟨Wb, W26, hVb, ⟨p0, p1, p2, p3⟩, ⟨q0, q1, q2, q3⟩, hVc, hb26, hx26, -⟩ := varM w25 (.string tE) d1 d2 d3
  obtain ⟨W27, hW27, hx27, hb27⟩ := box2 W26 (.string ⟨#[98]⟩) (.string ⟨#[97]⟩) 9
  have hV27 := hW27.symm
  have Y27 := hide (((Y24.out.trans hx25).trans hx26).trans hx27)
  have HBW4 := hide (((HBW3.out.ext hx25).ext hx26).ext hx27)
  have B27 := hide (((B24.out.ext hx25).ext hx26).ext hx27)
  have HOT := hide (show Calls Tryd.prog 24 #[v, .slice (some ⟨W26.heap.size, 0, none⟩) 2 2] W27 fun e w' => e = .returned (.bool true) ∧ Ext W27 w' from
    (refTexts_any (orderF fF) [tB, tA] W27 _ _ (((HOW3.out.ext hx25).ext hx26).ext hx27) (sstr_blk [tB, tA] hb27) (by rw [order_F]; decide) (by decide)).mono fun e w' h => ⟨by rw [h.1, yes_iff.2 order_F], h.2⟩)
  clear hp1 hq1 hi1 hb26 hx26 hx25 hx27 hb27 hW27 GF y4 HOW3 HBW3 B24
  go_wp2_with fail
  go_at_call 24
  refine HOT.out.mono ?_
  rintro _ w28 ⟨rfl, hx28⟩
  clear hVb hVc p0 p1 p2 p3 q0 q1 q2 q3 o1 o2 o3 hV27 HOT
  obtain ⟨W29, hW29, hx29, hb29⟩ := box1 w28 (.string ⟨#[98]⟩) 9
  have hV29 := hW29.symm
  have Y29 := hide ((Y27.out.trans hx28).trans hx29)
  have B29 := hide ((B27.out.ext hx28).ext hx29)
  have HOT := hide (show Calls Tryd.prog 24 #[v2, .slice (some ⟨w28.heap.size, 0, none⟩) 1 1] W29 fun e w' => e = .returned (.bool true) ∧ Ext W29 w' from
    (refTexts_any (belowN fF tB) [tB] W29 _ _ ((HBW4.out.ext hx28).ext hx29) (sstr_blk [tB] hb29) (by rw [below_F]; decide) (by decide)).mono fun e w' h => ⟨by rw [h.1, yes_iff.2 below_F], h.2⟩)
  clear hW29 hx29 hb29 hx28 HBW4 Y27 B27
  go_wp2_with fail
  go_at_call 24
  refine HOT.out.mono ?_
  rintro _ w30 ⟨rfl, hx30⟩
  have Y30 := hide (Y29.out.trans hx30)
  have B30 := hide (B29.out.ext hx30)
  have y30 := (BF2.out.1.ext Y30.out).get1
  obtain ⟨z0, z1, z2, z3, -, -, -, -⟩ := (BF2.out.2.ext Y30.out).get8
  have GU := hide (uses_any W20.heap.size (mA tB) w30 _ (RA2.out.ext Y30.out (Nat.le_refl _)) Y30.out.size (by decide))
  clear hx30 HOT hV29 Y29 B29
  go_wp2_with fail
  go_at_call 15
  refine GU.out.mono ?_
  rintro _ w31 ⟨v3, rfl, hown, hx31⟩
  obtain ⟨W32, hW32, hx32, hb32⟩ := box1 w31 (.string ⟨#[98]⟩) 9
  have hV32 := hW32.symm
  have Y32 := hide ((Y30.out.trans hx31).trans hx32)
  have B32 := hide ((B30.out.ext hx31).ext hx32)
  have HOT := hide (show Calls Tryd.prog 24 #[v3, .slice (some ⟨w31.heap.size, 0, none⟩) 1 1] W32 fun e w' => e = .returned (.bool true) ∧ Ext W32 w' from
    (refTexts_any (usesM (mA tB)) [tB] W32 _ _ ((SStr.of_row hown).ext hx32) (sstr_blk [tB] hb32) (by rw [uses_mA]; decide) (by decide)).mono fun e w' h => ⟨by rw [h.1, yes_iff.2 (uses_mA tB)], h.2⟩)
  clear hW32 hx32 hb32 hx31 hown GU y30 z0 z1 z2 z3 Y30 B30
  go_wp2_with fail
  go_at_call 24
  refine HOT.out.mono ?_
  rintro _ w33 ⟨rfl, hx33⟩
  have Y33 := hide (Y32.out.trans hx33)
  have b0 := (B32.out.ext hx33).get4.1
  have yg := (BG2.out.ext Y33.out).get1
  have CG := hide (checkN_any W20.heap.size fG w33 _ (HT.out.ext (X20.out.trans Y33.out)) (SG2.out.extRM Y33.out (Nat.le_refl _)) Y33.out.size (by decide) vm_G)
  rw [checkN_G] at CG
  clear hx33 HOT hV32 Y32 B32
  have hb8 : tB.toList = [98] := by rw [ByteArray.toList_eq]; rfl
  go_wp2_with fail
  go_at_call 12
  refine CG.out.mono ?_
  rintro _ w34 ⟨rfl, hx34⟩
  have Y34 := hide (Y33.out.trans hx34)
  have yh := (BH.out.ext Y34.out).get1
  have CH := hide (checkN_any W20.heap.size fH w34 _ (HT.out.ext (X20.out.trans Y34.out)) (SH.out.extRM Y34.out (Nat.le_refl _)) Y34.out.size (by decide) vm_H)
  rw [checkN_H] at CH
  clear hx34 CG yg b0
  go_wp2_with fail
  go_at_call 12
  refine CH.out.mono ?_
  rintro _ w35 ⟨rfl, hx35⟩
  have Y35 := hide (Y34.out.trans hx35)
  have yf := (BF2.out.1.ext Y35.out).get1
  have CF := hide (checkN_any W20.heap.size fF w35 _ (HT.out.ext (X20.out.trans Y35.out)) (SF2.out.extRM Y35.out (Nat.le_refl _)) Y35.out.size (by decide) vm_F)
  rw [checkN_F] at CF
  clear hx35 CH yh
  go_wp2_with fail
  go_at_call 12
  refine CF.out.mono ?_
  rintro _ w36 ⟨rfl, hx36⟩
  have Y36 := hide (X20.out.trans (Y35.out.trans hx36))
  clear hx36 CF yf
  go_wp2_with fail
  go_ret
  exact ⟨rfl, Y36.out⟩

end Go.Proofs.YtjoglnjpgkobeaaDoor

/-
  THE LAWS OF NAMES: what is known of the values where a module is looked for; rows of texts.
-/
namespace Go.Proofs.YtjoglnjpgkobeaaDoor
open Go Go.RowKit
set_option linter.all false
set_option linter.unusedVariables false
set_option linter.unusedSimpArgs false
set_option linter.unusedVariables false
set_option linter.unusedSimpArgs false
attribute [local go_sem] run_store_one

/-- What is known of the values of the region in which a module is looked for. -/
def finF (w0 : World) (B : Nat) (W : World) (vf vl : Value) (k : Nat) (p : Addr) (s : ByteArray) (x : Mdl) (fo : Bool) (i : Nat) (v : Value) (w : World) : Prop := match i with
  | 0 => v = .agg #[vf]
  | 1 => v = vl
  | 2 => v = .int .i64 k
  | 3 => v = .pointer (some p)
  | 4 => v = .string s
  | 5 => ∃ c0 c1 c2 c3, v = .tuple #[.agg #[c0, c1, c2, c3], .bool fo] ∧ RM w0 B x [c0, c1, c2, c3]
  | 6 => ∃ c0 c1 c2 c3, v = .tuple #[.agg #[c0, c1, c2, c3], .bool fo] ∧ RM w0 B x [c0, c1, c2, c3]
  | 7 => ∃ c0 c1 c2 c3, v = .agg #[c0, c1, c2, c3] ∧ RM w0 B x [c0, c1, c2, c3]
  | 8 => v = .bool fo
  | 9 => ∃ g d0 d1 d2 d3, v = .pointer (some ⟨g, 0, none⟩) ∧ W.heap.size ≤ g ∧ Blk w g 36 [d0, d1, d2, d3]
  | 11 => v = .bool fo
  | _ => True
def finG (w0 : World) (B : Nat) (W : World) (x : Mdl) (v : Value) (w : World) : Prop := ∃ g c0 c1 c2 c3, v = .pointer (some ⟨g, 0, none⟩) ∧ W.heap.size ≤ g ∧ Blk w g 36 [c0, c1, c2, c3] ∧ RM w0 B x [c0, c1, c2, c3]
theorem finF_other {w0 : World} {B : Nat} {W : World} {vf vl : Value} {k : Nat} {p : Addr} {s : ByteArray} {x : Mdl} {fo : Bool} {i : Nat} {v : Value} (w w' : World) (hi : i ≠ 9) (h : finF w0 B W vf vl k p s x fo i v w) : finF w0 B W vf vl k p s x fo i v w' := by
  unfold finF at h ⊢
  split at h <;> first | exact h | exact absurd rfl hi
theorem finF_ext {w0 : World} {B : Nat} {W : World} {vf vl : Value} {k : Nat} {p : Addr} {s : ByteArray} {x : Mdl} {fo : Bool} {i : Nat} {v : Value} {w w' : World} (h : finF w0 B W vf vl k p s x fo i v w) (hx : Ext w w') : finF w0 B W vf vl k p s x fo i v w' := by
  by_cases hi : i = 9
  · subst hi
    obtain ⟨g, d0, d1, d2, d3, h1, h2, h3⟩ := h
    exact ⟨g, d0, d1, d2, d3, h1, h2, h3.ext hx⟩
  · exact finF_other _ _ hi h
theorem finG_ext {w0 : World} {B : Nat} {W : World} {x : Mdl} {v : Value} {w w' : World} (h : finG w0 B W x v w) (hx : Ext w w') : finG w0 B W x v w' := by
  obtain ⟨g, c0, c1, c2, c3, h1, h2, h3, h4⟩ := h
  exact ⟨g, c0, c1, c2, c3, h1, h2, h3.ext hx, h4⟩
theorem finF_store {w0 : World} {B : Nat} {W : World} {vf vl : Value} {k : Nat} {p : Addr} {s : ByteArray} {x : Mdl} {fo : Bool} {w : World} {g0 : Nat} (u0 u1 u2 u3 : Value) {j : Nat} {v : Value} (h : finF w0 B W vf vl k p s x fo j v w) : finF w0 B W vf vl k p s x fo j v ((((w.setCell ⟨g0, 0, none⟩ u0).setCell ⟨g0, 1, none⟩ u1).setCell ⟨g0, 2, none⟩ u2).setCell ⟨g0, 3, none⟩ u3) := by
  by_cases hi : j = 9
  · subst hi
    obtain ⟨g, d0, d1, d2, d3, h1, h2, h3⟩ := h
    by_cases hg : g = g0
    · subst hg
      exact ⟨g, u0, u1, u2, u3, h1, h2, h3.store4 u0 u1 u2 u3⟩
    · exact ⟨g, d0, d1, d2, d3, h1, h2, (((h3.far hg _).far hg _).far hg _).far hg _⟩
  · exact finF_other _ _ hi h
theorem ext_store4 {W w : World} (hx : Ext W w) {g : Nat} (hg : W.heap.size ≤ g) (u0 u1 u2 u3 : Value) : Ext W ((((w.setCell ⟨g, 0, none⟩ u0).setCell ⟨g, 1, none⟩ u1).setCell ⟨g, 2, none⟩ u2).setCell ⟨g, 3, none⟩ u3) :=
  (((hx.setCell hg _).setCell hg _).setCell hg _).setCell hg _
theorem rm_back {w0 w1 : World} {B : Nat} {x : Mdl} {cs : List Value} (h : RM w1 B x cs) (hx : Ext w0 w1) (hB : B ≤ w0.heap.size) : RM w0 B x cs := RM.keep (w' := w0) (fun p hp => (hx.cell (by omega)).symm) (Nat.le_refl _) _ _ h

end Go.Proofs.YtjoglnjpgkobeaaDoor
