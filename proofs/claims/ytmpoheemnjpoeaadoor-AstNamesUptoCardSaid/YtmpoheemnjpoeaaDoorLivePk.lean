/-
  THE LAWS' live: the chapter's example, in memory.
-/
import Derived.Test.YtmpoheemnjpoeaaDoorFewPk
import Derived.Test.YtmpoheemnjpoeaaDoorFreeRPk
import Derived.Test.YtmpoheemnjpoeaaDoorLivePPk
import Derived.Test.YtmpoheemnjpoeaaDoorSameFPk
import Derived.Test.YtmpoheemnjpoeaaDoorSameTPk
import Derived.Test.YtmpoheemnjpoeaaDoorFactsPk
namespace Go.Proofs.YtmpoheemnjpoeaaDoor
open Go Go.RowKit
set_option linter.all false
set_option linter.unusedVariables false
set_option linter.unusedSimpArgs false
set_option linter.unusedVariables false
set_option linter.unusedSimpArgs false
attribute [local go_sem] run_store_one

theorem Sl.two {α : Type} {R : α → List Value → Prop} {w : World} {B sz g : Nat} {x y : α} {cs ds : List Value} (hb : g < B) (hl : cs.length = sz) (hl2 : ds.length = sz) (hc : Cells w g 0 (cs ++ ds)) (ho : ∀ v, v ∈ cs ++ ds → v.oneCell' = true) (hr : R x cs) (hr2 : R y ds) :
    Sl R w B sz [x, y] (.slice (some ⟨g, 0, none⟩) 2 2) := by
  refine ⟨_, 2, rfl, Nat.le_refl _, fun k hk => ?_⟩
  match k, hk with
  | 0, _ => exact ⟨g, 0, cs, rfl, hb, hl, fun j v hj => by
      have := hc j v (by rw [List.getElem?_append_left (List.getElem?_eq_some_iff.1 hj).1]; exact hj)
      simpa using this, fun v hv => ho v (List.mem_append_left _ hv), hr⟩
  | 1, _ => exact ⟨g, 0, ds, rfl, hb, hl2, fun j v hj => by
      have := hc (cs.length + j) v (by rw [List.getElem?_append_right (by omega), Nat.add_sub_cancel_left]; exact hj)
      rw [hl] at this
      simpa using this, fun v hv => ho v (List.mem_append_right _ hv), hr2⟩

def cNm (s : ByteArray) : List Value := [.int .i64 2, .string s, .int .i64 0, .int .i64 0, .int .u64 0, .slice none 0 0]
def cNum : List Value := [.int .i64 1, .string tE, .int .i64 0, .int .i64 8, .int .u64 3, .slice none 0 0]
def cMul (g : Nat) : List Value := [.int .i64 6, .string tE, .int .i64 16, .int .i64 0, .int .u64 0, .slice (some ⟨g, 0, none⟩) 2 2]
def cAdd (g : Nat) : List Value := [.int .i64 6, .string tE, .int .i64 14, .int .i64 0, .int .u64 0, .slice (some ⟨g, 0, none⟩) 2 2]
def cAss (g : Nat) : List Value := [.int .i64 1, .string tE, .slice (some ⟨g, 0, none⟩) 2 2, .slice none 0 0]
def cArm : List Value := [.int .i64 4, .string tE, .slice none 0 0, .slice none 0 0]
def cComb (g : Nat) : List Value := [.int .i64 5, .string tE, .string tE, .slice none 0 0, .slice (some ⟨g, 0, none⟩) 1 1, .slice none 0 0, .slice none 0 0, .slice none 0 0, .slice none 0 0]
def cOne (g : Nat) : List Value := [.string tM, .slice none 0 0, .slice none 0 0, .slice (some ⟨g, 0, none⟩) 1 1]
section
variable {w : World} {B : Nat}
/-- What is known of the third region's values. -/
def liveF (N g : Nat) (i : Nat) (v : Value) (w : World) : Prop := match i with
  | 0 => v = .agg (cNm tY).toArray
  | 1 => v = .agg (cAdd g).toArray
  | 2 => ∃ q, v = .slice (some ⟨q, 0, none⟩) 2 2 ∧ N ≤ q ∧ Blk w q 25 (cNm tY ++ cAdd g)
  | 3 => ∃ q, v = .agg (cAss q).toArray ∧ N ≤ q ∧ Blk w q 25 (cNm tY ++ cAdd g)
  | 4 => ∃ p, v = .pointer (some ⟨p, 0, none⟩) ∧ N ≤ p ∧ Blk w p 28 [.int .i64 0, .string tE, .slice none 0 0, .slice none 0 0]
  | _ => True
theorem liveF_ext {N g i : Nat} {v : Value} {w w' : World} (h : liveF N g i v w) (hx : Ext w w') : liveF N g i v w' := by
  unfold liveF at *
  split at h
  · exact h
  · exact h
  · obtain ⟨q, h1, h2, h3⟩ := h; exact ⟨q, h1, h2, h3.ext hx⟩
  · obtain ⟨q, h1, h2, h3⟩ := h; exact ⟨q, h1, h2, h3.ext hx⟩
  · obtain ⟨q, h1, h2, h3⟩ := h; exact ⟨q, h1, h2, h3.ext hx⟩
  · trivial
theorem rx_nm (s : ByteArray) : RX w B (xNm s) (cNm s) := RX_iff.2 ⟨_, rfl, Sl.nil⟩
theorem rx_num : RX w B xNum cNum := RX_iff.2 ⟨_, rfl, Sl.nil⟩
theorem rx_mul {g : Nat} (hb : g < B) (hc : Cells w g 0 (cNum ++ cNm tB)) : RX w B xMul (cMul g) := RX_iff.2 ⟨_, rfl, Sl.two hb rfl rfl hc (by simp [cNum, cNm, Value.oneCell']) rx_num (rx_nm tB)⟩
theorem rx_add {g g' : Nat} (hb : g < B) (hb' : g' < B) (hc : Cells w g 0 (cNum ++ cNm tB)) (hc' : Cells w g' 0 (cNm tA ++ cMul g)) : RX w B xAdd (cAdd g') :=
  RX_iff.2 ⟨_, rfl, Sl.two hb' rfl rfl hc' (by simp [cMul, cNm, Value.oneCell']) (rx_nm tA) (rx_mul hb hc)⟩
theorem rs_ass {g g' : Nat} (hx : RX w B xAdd (cAdd g)) (hb' : g' < B) (hc' : Cells w g' 0 (cNm tY ++ cAdd g)) : RS w B sAss (cAss g') :=
  RS_iff.2 ⟨_, _, rfl, Sl.two hb' rfl rfl hc' (by simp [cAdd, cNm, Value.oneCell']) (rx_nm tY) hx, Sl.nil⟩
theorem rs_arm : RS w B sArm cArm := RS_iff.2 ⟨_, _, rfl, Sl.nil, Sl.nil⟩
theorem ri_comb {g g' : Nat} (hs : RS w B sAss (cAss g)) (hb' : g' < B) (hc' : Cells w g' 0 (cAss g)) : RI w B iComb (cComb g') :=
  RI_iff.2 ⟨_, _, _, _, _, _, rfl, Sl.nil, Sl.one hb' rfl hc' (by simp [cAss, Value.oneCell']) hs, Sl.nil, Sl.nil, Sl.nil, Sl.nil⟩
theorem rm_one {g g' : Nat} (hs : RI w B iComb (cComb g)) (hb' : g' < B) (hc' : Cells w g' 0 (cComb g)) : RM w B mOne (cOne g') :=
  ⟨_, _, _, rfl, Sl.nil, Sl.nil, Sl.one hb' rfl hc' (by simp [cComb, Value.oneCell']) hs⟩
end

set_option maxRecDepth 20000 in
set_option maxHeartbeats 1000000 in
theorem live_any (w : World) (hT : Tabs w) : Calls Tryd.prog 11 #[] w fun e w' => e = .returned (.bool true) ∧ Ext w w' := by
  have HT := hide hT
  clear hT
  go_enter Tryd.func11, Tryd.ntmps11
  go_wp2_with fail
  refine (lawname_any _ _).mono ?_
  rintro e w1 ⟨rfl, hx1⟩
  go_wp2_with fail
  refine (lawname_any _ _).mono ?_
  rintro e w2 ⟨rfl, hx2⟩
  go_wp2_with fail
  obtain ⟨Wa, hWa⟩ : ∃ Wa, Wa = w2.alloc (.cells (cNum ++ cNm tB).toArray 25) := ⟨_, rfl⟩
  obtain ⟨Wb, hWb⟩ : ∃ Wb, Wb = Wa.alloc (.cells (cNm tA ++ cMul w2.heap.size).toArray 25) := ⟨_, rfl⟩
  obtain ⟨Wc, hWc⟩ : ∃ Wc, Wc = Wb.alloc (.cells (cAdd (w2.heap.size + 1)).toArray 25) := ⟨_, rfl⟩
  have hsa : Wa.heap.size = w2.heap.size + 1 := by rw [hWa]; simp
  have hsb : Wb.heap.size = w2.heap.size + 1 + 1 := by rw [hWb]; simp [hsa]
  have hsc : Wc.heap.size = w2.heap.size + 1 + 1 + 1 := by rw [hWc]; simp [hsb]
  have ka : Blk Wa w2.heap.size 25 (cNum ++ cNm tB) := by rw [hWa]; exact Blk.new _ _ _
  have kb : Blk Wb (w2.heap.size + 1) 25 (cNm tA ++ cMul w2.heap.size) := by rw [hWb, ← hsa]; exact Blk.new _ _ _
  have kc : Blk Wc (w2.heap.size + 1 + 1) 25 (cAdd (w2.heap.size + 1)) := by rw [hWc, ← hsb]; exact Blk.new _ _ _
  have xab : Ext Wa Wb := by rw [hWb]; exact Ext.new _ _
  have xbc : Ext Wb Wc := by rw [hWc]; exact Ext.new _ _
  have x0c : Ext w Wc := (hx1.trans hx2).trans ((by rw [hWa]; exact Ext.new _ _ : Ext w2 Wa).trans (xab.trans xbc))
  have hrx : RX Wc Wc.heap.size xAdd (cAdd (w2.heap.size + 1)) := rx_add (by omega) (by omega) ((ka.ext (xab.trans xbc)).cells) ((kb.ext xbc).cells)
  have FR := hide (Free_any Wc.heap.size xAdd Wc _ hrx (Nat.le_refl _) (by decide))
  have KC := hide kc
  have HRX := hide hrx
  have HSC := hide hsc
  have X0 := hide x0c
  show Calls _ _ _ (((w2.alloc (.cells (cNum ++ cNm tB).toArray 25)).alloc (.cells (cNm tA ++ cMul w2.heap.size).toArray 25)).alloc (.cells (cAdd (w2.heap.size + 1)).toArray 25)) _
  rw [← hWa, ← hWb, ← hWc]
  clear hWa hWb hWc hsa hsb hsc ka kb kc xab xbc x0c hrx hx1 hx2
  refine FR.out.mono ?_
  rintro e w3 ⟨v, rfl, hown, hx3⟩
  rw [free_add] at hown
  obtain ⟨gl, capl, rfl⟩ := ownsRow_succ hown
  have l0 : w3.cell? ⟨gl, 0, none⟩ = some (.string tA) := hown.cellAt 0 (by decide)
  have l1 : w3.cell? ⟨gl, 1, none⟩ = some (.string tB) := hown.cellAt 1 (by decide)
  have hkc3 := KC.out.ext hx3
  have LL := hide (And.intro l0 l1)
  have HX3 := hide hx3
  clear hown l0 l1 FR hx3
  generalize w2.heap.size = g1 at *
  go_wp2_with fail
  refine wp_region_facts_last (W := w3) (liveF w3.heap.size (g1 + 1)) (by kernel_rfl) rfl (by kernel_rfl) (by kernel_rfl) (Ext.refl _) (fun i v w w' h hx => liveF_ext h hx) ?_ ?_
  · refine ⟨?_, ?_, ?_, ?_, ?_, trivial⟩
    · intro A wa hxa hd h0
      clear hd h0
      go_simp
      refine (lawname_any _ _).mono ?_
      rintro e w2 ⟨rfl, hx⟩
      go_simp
      exact ⟨_, rfl, rfl⟩
    · intro A wa hxa hd h0
      have e1 := rest_at h0 1 (by kernel_rfl)
      simp at e1
      obtain ⟨d0, d1, d2, d3, d4, d5⟩ := (hkc3.ext hxa).get6
      clear hd h0
      go_simp
      first | exact ⟨_, rfl, Ext.refl _, rfl⟩ | exact ⟨Ext.refl _, rfl⟩ | exact Ext.refl _ | rfl
    · intro A wa hxa hd h0
      have q0 := dep1 (d := 14) hd rfl rfl
      have q1 := dep1 (d := 15) hd.2 rfl rfl
      simp [liveF] at q0 q1
      clear hd h0
      go_simp
      first | exact ⟨_, rfl, Ext.new _ _, wa.heap.size, rfl, hxa.size, Blk.new _ _ (cNm tY ++ cAdd (g1 + 1))⟩ | exact ⟨Ext.new _ _, wa.heap.size, rfl, hxa.size, Blk.new _ _ (cNm tY ++ cAdd (g1 + 1))⟩
    · intro A wa hxa hd h0
      have q0 := dep1 (d := 16) hd rfl rfl
      obtain ⟨q, e1, e2, e3⟩ := q0
      simp at e1
      clear hd h0
      go_simp
      first | exact ⟨_, rfl, Ext.refl _, q, rfl, e2, e3⟩ | exact ⟨Ext.refl _, q, rfl, e2, e3⟩
    · intro A wa hxa hd h0
      clear hd h0
      go_simp
      first | exact ⟨_, rfl, Ext.new _ _, wa.heap.size, rfl, hxa.size, Blk.new _ _ [_, _, _, _]⟩ | exact ⟨Ext.new _ _, wa.heap.size, rfl, hxa.size, Blk.new _ _ [_, _, _, _]⟩
  · intro A wa hk
    obtain ⟨hxa, hsz, hdf, hdn, hrs⟩ := hk
    obtain ⟨q, t17, hq, hbq⟩ := hdn 3 17 rfl rfl
    obtain ⟨p, t3, hp, hbp⟩ := hdn 4 3 rfl rfl
    have t17 : A.tmps.getD 17 undef = .agg #[.int .i64 1, .string tE, .slice (some ⟨q, 0, none⟩) 2 2, .slice none 0 0] := t17
    have e1 := rest_at hrs 1 (by kernel_rfl)
    have e2 := rest_at hrs 2 (by kernel_rfl)
    clear hdn hrs
    rw [act_lit hsz hdf]
    simp [List.range, List.range.loop] at t3 t17 e1 e2
    simp [List.range, List.range.loop, t3, t17, e1, e2]
    clear t3 t17 e1 e2 hsz hdf
    generalize A.tmps[0]?.getD undef = A0 at *
    generalize A.tmps[4]?.getD undef = A4 at *
    generalize A.tmps[5]?.getD undef = A5 at *
    generalize A.tmps[6]?.getD undef = A6 at *
    generalize A.tmps[7]?.getD undef = A7 at *
    generalize A.tmps[8]?.getD undef = A8 at *
    generalize A.tmps[9]?.getD undef = A9 at *
    generalize A.tmps[10]?.getD undef = A10 at *
    generalize A.tmps[11]?.getD undef = A11 at *
    generalize A.tmps[12]?.getD undef = A12 at *
    generalize A.tmps[13]?.getD undef = A13 at *
    generalize A.tmps[14]?.getD undef = A14 at *
    generalize A.tmps[15]?.getD undef = A15 at *
    generalize A.tmps[16]?.getD undef = A16 at *
    generalize A.tmps[18]?.getD undef = A18 at *
    generalize A.tmps[19]?.getD undef = A19 at *
    generalize A.tmps[20]?.getD undef = A20 at *
    generalize A.tmps[21]?.getD undef = A21 at *
    generalize A.tmps[22]?.getD undef = A22 at *
    generalize A.tmps[23]?.getD undef = A23 at *
    generalize A.tmps[24]?.getD undef = A24 at *
    generalize A.tmps[25]?.getD undef = A25 at *
    generalize A.tmps[26]?.getD undef = A26 at *
    generalize A.tmps[27]?.getD undef = A27 at *
    generalize A.tmps[28]?.getD undef = A28 at *
    generalize A.tmps[29]?.getD undef = A29 at *
    generalize A.tmps[30]?.getD undef = A30 at *
    generalize A.tmps[31]?.getD undef = A31 at *
    generalize A.tmps[32]?.getD undef = A32 at *
    generalize A.tmps[33]?.getD undef = A33 at *
    generalize A.tmps[34]?.getD undef = A34 at *
    generalize A.tmps[35]?.getD undef = A35 at *
    generalize A.tmps[36]?.getD undef = A36 at *
    generalize A.tmps[37]?.getD undef = A37 at *
    generalize A.tmps[38]?.getD undef = A38 at *
    generalize A.tmps[39]?.getD undef = A39 at *
    generalize A.tmps[40]?.getD undef = A40 at *
    generalize A.tmps[41]?.getD undef = A41 at *
    generalize A.tmps[42]?.getD undef = A42 at *
    generalize A.tmps[43]?.getD undef = A43 at *
    generalize A.tmps[44]?.getD undef = A44 at *
    generalize A.tmps[45]?.getD undef = A45 at *
    generalize A.tmps[46]?.getD undef = A46 at *
    generalize A.tmps[47]?.getD undef = A47 at *
    generalize A.tmps[48]?.getD undef = A48 at *
    generalize A.tmps[49]?.getD undef = A49 at *
    generalize A.tmps[50]?.getD undef = A50 at *
    generalize A.tmps[51]?.getD undef = A51 at *
    generalize A.tmps[52]?.getD undef = A52 at *
    generalize A.tmps[53]?.getD undef = A53 at *
    generalize A.tmps[54]?.getD undef = A54 at *
    generalize A.tmps[55]?.getD undef = A55 at *
    generalize A.tmps[56]?.getD undef = A56 at *
    generalize A.tmps[57]?.getD undef = A57 at *
    generalize A.tmps[58]?.getD undef = A58 at *
    generalize A.tmps[59]?.getD undef = A59 at *
    generalize A.tmps[60]?.getD undef = A60 at *
    generalize A.tmps[61]?.getD undef = A61 at *
    generalize A.tmps[62]?.getD undef = A62 at *
    generalize A.tmps[63]?.getD undef = A63 at *
    generalize A.tmps[64]?.getD undef = A64 at *
    generalize A.tmps[65]?.getD undef = A65 at *
    generalize A.tmps[66]?.getD undef = A66 at *
    generalize A.tmps[67]?.getD undef = A67 at *
    generalize A.tmps[68]?.getD undef = A68 at *
    generalize A.tmps[69]?.getD undef = A69 at *
    generalize A.tmps[70]?.getD undef = A70 at *
    generalize A.tmps[71]?.getD undef = A71 at *
    generalize A.tmps[72]?.getD undef = A72 at *
    generalize A.tmps[73]?.getD undef = A73 at *
    generalize A.tmps[74]?.getD undef = A74 at *
    generalize A.tmps[75]?.getD undef = A75 at *
    generalize A.tmps[76]?.getD undef = A76 at *
    generalize A.tmps[77]?.getD undef = A77 at *
    generalize A.tmps[78]?.getD undef = A78 at *
    generalize A.tmps[79]?.getD undef = A79 at *
    generalize A.tmps[80]?.getD undef = A80 at *
    generalize A.tmps[81]?.getD undef = A81 at *
    generalize A.tmps[82]?.getD undef = A82 at *
    generalize A.tmps[83]?.getD undef = A83 at *
    generalize A.tmps[84]?.getD undef = A84 at *
    generalize A.tmps[85]?.getD undef = A85 at *
    generalize A.tmps[86]?.getD undef = A86 at *
    generalize A.tmps[87]?.getD undef = A87 at *
    generalize A.tmps[88]?.getD undef = A88 at *
    generalize A.tmps[89]?.getD undef = A89 at *
    have hqp : q ≠ p := fun e => by
      subst e
      have := (show _ = _ from hbq).symm.trans (show _ = _ from hbp)
      simp at this
    obtain ⟨d0, d1, d2, d3⟩ := hbp.get4
    obtain ⟨f0, f1, f2, f3⟩ := hbp.free4
    obtain ⟨W4, hW4⟩ : ∃ W4, W4 = (((wa.setCell ⟨p, 0, none⟩ (.int .i64 1)).setCell ⟨p, 1, none⟩ (.string tE)).setCell ⟨p, 2, none⟩ (.slice (some ⟨q, 0, none⟩) 2 2)).setCell ⟨p, 3, none⟩ (.slice none 0 0) := ⟨_, rfl⟩
    have hV4 := hW4.symm
    have kp : Blk W4 p 28 (cAss q) := by rw [hW4]; exact hbp.store4 _ _ _ _
    have hpn : w3.heap.size ≤ p := hp
    have x34 : Ext w3 W4 := by rw [hW4]; exact (((hxa.setCell hpn _).setCell hpn _).setCell hpn _).setCell hpn _
    have kq : Blk W4 q 25 (cNm tY ++ cAdd (g1 + 1)) := by
      rw [hW4]
      exact (((hbq.far (p := ⟨p, 0, none⟩) hqp _).far (p := ⟨p, 1, none⟩) hqp _).far (p := ⟨p, 2, none⟩) hqp _).far (p := ⟨p, 3, none⟩) hqp _
    clear hW4
    obtain ⟨s0, s1, s2, s3⟩ := kp.get4
    obtain ⟨W5, hW5⟩ : ∃ W5, W5 = W4.alloc (.cells #[.int .i64 1, .string tE, .slice (some ⟨q, 0, none⟩) 2 2, .slice none 0 0] 28) := ⟨_, rfl⟩
    have hV5 := hW5.symm
    have z5 := size_box hW5
    obtain ⟨W6, hW6⟩ : ∃ W6, W6 = W5.alloc (.cells #[.int .i64 5, .string ⟨#[]⟩, .string ⟨#[]⟩, .slice none 0 0, .slice (some ⟨W4.heap.size, 0, none⟩) 1 1, .slice none 0 0, .slice none 0 0, .slice none 0 0, .slice none 0 0] 58) := ⟨_, rfl⟩
    have hV6 := hW6.symm
    have z6 := size_box hW6
    obtain ⟨W7, hW7⟩ : ∃ W7, W7 = W6.alloc (.cells #[.string ⟨#[109]⟩, .slice none 0 0, .slice none 0 0, .slice (some ⟨W4.heap.size + 1, 0, none⟩) 1 1] 61) := ⟨_, rfl⟩
    have hV7 := hW7.symm
    have z7 := size_box hW7
    obtain ⟨W8, hW8⟩ : ∃ W8, W8 = W7.alloc (.cells #[.slice (some ⟨W4.heap.size + 1 + 1, 0, none⟩) 1 1] 41) := ⟨_, rfl⟩
    have hV8 := hW8.symm
    have z8 := size_box hW8
    have x45 : Ext W4 W5 := by rw [hW5]; exact Ext.new _ _
    have x56 : Ext W5 W6 := by rw [hW6]; exact Ext.new _ _
    have x67 : Ext W6 W7 := by rw [hW7]; exact Ext.new _ _
    have x78 : Ext W7 W8 := by rw [hW8]; exact Ext.new _ _
    have x68 := x67.trans x78
    have x58 := x56.trans x68
    have x48 := x45.trans x58
    have x38 := x34.trans x48
    have xc8 := HX3.out.trans x38
    have k5 : Blk W5 W4.heap.size 28 (cAss q) := by rw [hW5]; exact Blk.new _ _ (cAss q)
    have k6 : Blk W6 (W4.heap.size + 1) 58 (cComb W4.heap.size) := by rw [hW6, ← z5]; exact Blk.new _ _ (cComb W4.heap.size)
    have y6 : W6.heap.size = W4.heap.size + 1 + 1 := by omega
    have y7 : W7.heap.size = W4.heap.size + 1 + 1 + 1 := by omega
    have k7 : Blk W7 (W4.heap.size + 1 + 1) 61 (cOne (W4.heap.size + 1)) := by rw [hW7, ← y6]; exact Blk.new _ _ (cOne (W4.heap.size + 1))
    have k8 : Blk W8 (W4.heap.size + 1 + 1 + 1) 41 [.slice (some ⟨W4.heap.size + 1 + 1, 0, none⟩) 1 1] := by rw [hW8, ← y7]; exact Blk.new _ _ [_]
    have RXX : RX W8 W8.heap.size xAdd (cAdd (g1 + 1)) := (HRX.out.ext xc8 (Nat.le_refl _)).more xc8.size
    have RSS : RS W8 W8.heap.size sAss (cAss q) := rs_ass RXX (Nat.lt_of_lt_of_le (kq.lt) x48.size) ((kq.ext x48).cells)
    have RII := ri_comb RSS (show W4.heap.size < W8.heap.size by omega) ((k5.ext x58).cells)
    have RMM := rm_one RII (show W4.heap.size + 1 < W8.heap.size by omega) ((k6.ext x68).cells)
    have SLF : Sl (RM W8 W8.heap.size) W8 W8.heap.size 4 [mOne] (.slice (some ⟨W4.heap.size + 1 + 1, 0, none⟩) 1 1) := Sl.one (by omega) rfl ((k7.ext x78).cells) (by simp [cOne, Value.oneCell']) RMM
    have T8 := HT.out.ext (X0.out.trans xc8)
    have XB := hkc3.ext x38
    have SB := kp.ext x48
    obtain ⟨m0, m1, m2, m3, m4, m5⟩ := XB.later6
    obtain ⟨n0, n1, n2, n3⟩ := SB.later4
    have f8 := k8.later1
    have L0 : ∀ e : Later W8, e.w.cell? ⟨gl, 0, none⟩ = some (.string ⟨#[97]⟩) := cellAt (x38.at_ LL.out.1)
    have L1 : ∀ e : Later W8, e.w.cell? ⟨gl, 1, none⟩ = some (.string ⟨#[98]⟩) := cellAt (x38.at_ LL.out.2)
    have HFIN := hide (X0.out.trans xc8)
    have C1 := hide (fun e : Later W8 => told_add ▸ CheckX_any W8.heap.size xAdd e.w _ (T8.ext e.ext) (RXX.ext e.ext (Nat.le_refl _)) e.ext.size (by decide) vx_add)
    have C2 := hide (fun e : Later W8 => told_if ▸ CheckX_any W8.heap.size (xNm tIf) e.w _ (T8.ext e.ext) (rx_nm tIf) e.ext.size (by decide) (vx_nm (by decide)))
    have N1 := hide (fun (s : ByteArray) (e : Later W8) => lawname_any s e.w)
    have C3 := hide (fun e : Later W8 => told_ass ▸ CheckS_any W8.heap.size sAss e.w _ (T8.ext e.ext) (RSS.ext e.ext (Nat.le_refl _)) e.ext.size (by decide) vs_ass)
    have C4 := hide (fun e : Later W8 => told_arm ▸ CheckS_any W8.heap.size sArm e.w _ (T8.ext e.ext) rs_arm e.ext.size (by decide) vs_arm)
    have C5 := hide (fun e : Later W8 => check_one ▸ Check_any W8.heap.size [mOne] e.w _ (T8.ext e.ext) (SLF.extRM e.ext (Nat.le_refl _)) e.ext.size (by decide) (all_one vm_one))
    have C6 := hide (fun e : Later W8 => size_one ▸ astSize_any W8.heap.size [mOne] e.w _ (SLF.extRM e.ext (Nat.le_refl _)) e.ext.size (by decide))
    have C7 := hide (fun e : Later W8 => deep_one ▸ astDeep_any W8.heap.size [mOne] e.w _ (SLF.extRM e.ext (Nat.le_refl _)) e.ext.size (by decide))
    have C8 := hide (fun e : Later W8 => (show same xAdd xAdd = true from same_iff.2 rfl) ▸ astSameX_any W8.heap.size xAdd xAdd e.w _ _ (RXX.ext e.ext (Nat.le_refl _)) (RXX.ext e.ext (Nat.le_refl _)) e.ext.size (by decide))
    have C9 := hide (fun e : Later W8 => (show same xAdd (xNm tA) = false from same_false.2 (fun h => absurd (congrArg X.op h) (by decide))) ▸ astSameX_any W8.heap.size xAdd (xNm tA) e.w _ _ (RXX.ext e.ext (Nat.le_refl _)) (rx_nm tA) e.ext.size (by decide))
    have C10 := hide (fun e : Later W8 => (show same sAss sAss = true from same_iff.2 rfl) ▸ astSameS_any W8.heap.size sAss sAss e.w _ _ (RSS.ext e.ext (Nat.le_refl _)) (RSS.ext e.ext (Nat.le_refl _)) e.ext.size (by decide))
    have C11 := hide (fun e : Later W8 => (show same [mOne] [mOne] = true from same_iff.2 rfl) ▸ astSame_any W8.heap.size [mOne] [mOne] e.w _ _ (SLF.extRM e.ext (Nat.le_refl _)) (SLF.extRM e.ext (Nat.le_refl _)) e.ext.size (by decide))
    unfold cAdd at C1 C8 C9
    unfold cNm at C2 C9
    unfold cAss at C3 C10
    unfold cArm at C4
    clear hW5 hW6 hW7 hW8 x45 x56 x67 x78 x68 x58 x48 x38 xc8 k5 k6 k7 k8 RXX RSS RII RMM SLF T8 XB SB kp kq x34 hkc3 KC HRX HX3 X0 LL HT hbq hbp hxa
    go_wp2_with fail
    simp only [List.append_eq, List.cons_append, List.nil_append]
    refine wp_region_later (W := W8) (by kernel_rfl) (by kernel_rfl) (Ext.refl _) ?_
    repeat (go_big_quiet_step (first
      | (go_at_call 14; with_reducible exact Later.calls (C1.out _)) | (go_at_call 14; exact Later.calls (C2.out _))
      | (go_at_call 28; exact Later.calls (N1.out _ _))
      | (go_at_call 16; with_reducible exact Later.calls (C3.out _)) | (go_at_call 16; exact Later.calls (C4.out _))
      | (go_at_call 31; exact Later.calls (C5.out _)) | (go_at_call 29; exact Later.calls (C6.out _)) | (go_at_call 30; exact Later.calls (C7.out _))
      | (go_at_call 24; with_reducible exact Later.calls (C8.out _)) | (go_at_call 24; exact Later.calls (C9.out _))
      | (go_at_call 26; exact Later.calls (C10.out _)) | (go_at_call 22; exact Later.calls (C11.out _))))
    refine wpQuiet_nil ?_
    rintro _ ⟨e, rfl⟩
    go_wp2_with fail
    go_ret
    exact ⟨rfl, HFIN.out.trans e.ext⟩

end Go.Proofs.YtmpoheemnjpoeaaDoor
