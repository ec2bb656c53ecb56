/-
  AN EXPRESSION AS THE WIDTH OF A WIRE: the law's functions wire, deep, size.
-/
import Derived.Test.YtmpoheemnjpoeaaDoorLivePPk
import Derived.Test.YtmpoheemnjpoeaaDoorMayS5Pk
import Derived.Test.YtmpoheemnjpoeaaDoorMeasIPk
namespace Go.Proofs.YtmpoheemnjpoeaaDoor
open Go Go.RowKit
set_option linter.all false
set_option linter.unusedVariables false
set_option linter.unusedSimpArgs false
set_option linter.unusedVariables false
set_option linter.unusedSimpArgs false
attribute [local go_sem] run_store_one

def tW : ByteArray := ⟨#[119]⟩
def iWire (x : X) : Itm := .mk 2 tW tE [x] [] [] [] [] []
def mWire (x : X) : Mdl := ⟨tM, [], [], [iWire x]⟩
theorem size_wire (x : X) : msize sizeM [mWire x] = 2 + sizeX x := by
  simp [msize, sizeM, mWire, sizeI_eq, iWire, Itm.x, Itm.s, Itm.l, Itm.els, Itm.params, Itm.binds]
  omega
theorem deep_wire (x : X) : mdeep deepM [mWire x] = 2 + deepX x := by
  simp [mdeep, deepM, mWire, deepI_eq, iWire, Itm.x, Itm.s, Itm.l, Itm.els, Itm.params, Itm.binds]
  omega

def cWire (g : Nat) : List Value := [.int .i64 2, .string tW, .string tE, .slice (some ⟨g, 0, none⟩) 1 1, .slice none 0 0, .slice none 0 0, .slice none 0 0, .slice none 0 0, .slice none 0 0]
def cMod (g : Nat) : List Value := [.string tM, .slice none 0 0, .slice none 0 0, .slice (some ⟨g, 0, none⟩) 1 1]

set_option maxRecDepth 20000 in
set_option maxHeartbeats 1000000 in
theorem wire_any (B : Nat) (x : X) (w : World) (cs : List Value) (hR : RX w B x cs) (hB : B ≤ w.heap.size) :
    Calls Tryd.prog 69 #[.agg cs.toArray] w fun e w' => ∃ v, e = .returned (.agg #[v]) ∧ v.oneCell' = true ∧ Sl (RM w' w'.heap.size) w' w'.heap.size 4 [mWire x] v ∧ Ext w w' := by
  have HR := hide hR
  obtain ⟨a5, rfl, hS⟩ := RX_iff.1 hR
  have o5 := hS.oneCell
  obtain ⟨W1, hW1, hx1, hb1⟩ := box6 w (.int .i64 x.op) (.string x.name) (.int .i64 x.n) (.int .i64 x.w) (.int .u64 x.v) a5 25
  obtain ⟨W2, hW2, hx2, hb2⟩ := box1 W1 (.slice none 0 0) 41
  obtain ⟨W3, hW3, hx3, hb3⟩ := box6 W2 (.int .i64 x.op) (.string x.name) (.int .i64 x.n) (.int .i64 x.w) (.int .u64 x.v) a5 25
  obtain ⟨W4, hW4, hx4, hb4⟩ := box9 W3 (.int .i64 2) (.string tW) (.string tE) (.slice (some ⟨W2.heap.size, 0, none⟩) 1 1) (.slice none 0 0) (.slice none 0 0) (.slice none 0 0) (.slice none 0 0) (.slice none 0 0) 58
  obtain ⟨W5, hW5, hx5, hb5⟩ := box4 W4 (.string tM) (.slice none 0 0) (.slice none 0 0) (.slice (some ⟨W3.heap.size, 0, none⟩) 1 1) 61
  have z1 := size_box hW1
  have z2 := size_box hW2
  have z3 := size_box hW3
  have z4 := size_box hW4
  have z5 := size_box hW5
  obtain ⟨W6, hW6⟩ : ∃ W6, W6 = W5.setCell ⟨W1.heap.size, 0, none⟩ (.slice (some ⟨W4.heap.size, 0, none⟩) 1 1) := ⟨_, rfl⟩
  have hb2' := (((hb2.ext hx3).ext hx4).ext hx5)
  have b6 : Blk W6 W1.heap.size 41 [.slice (some ⟨W4.heap.size, 0, none⟩) 1 1] := by rw [hW6]; exact hb2'.store1 _
  have b3 := ((hb3.ext hx4).ext hx5).far (p := ⟨W1.heap.size, 0, none⟩) (by simp; omega) (.slice (some ⟨W4.heap.size, 0, none⟩) 1 1)
  have b4 := (hb4.ext hx5).far (p := ⟨W1.heap.size, 0, none⟩) (by simp; omega) (.slice (some ⟨W4.heap.size, 0, none⟩) 1 1)
  have b5 := hb5.far (p := ⟨W1.heap.size, 0, none⟩) (by simp; omega) (.slice (some ⟨W4.heap.size, 0, none⟩) 1 1)
  rw [← hW6] at b3 b4 b5
  have x06 : Ext w W6 := by rw [hW6]; exact ((((hx1.trans hx2).trans hx3).trans hx4).trans hx5).setCell (by show w.heap.size ≤ W1.heap.size; omega) _
  have s6 : W6.heap.size = W5.heap.size := by rw [hW6]; simp [World.setCell]
  have hRX : RX W6 W6.heap.size x _ := (HR.out.ext x06 hB).more (Nat.le_trans hB x06.size)
  have hRI : RI W6 W6.heap.size (iWire x) (cWire W2.heap.size) := RI_iff.2 ⟨_, _, _, _, _, _, rfl, Sl.one (by omega) rfl b3.cells (fun v hv => by simp only [List.mem_cons, List.not_mem_nil, or_false] at hv; rcases hv with rfl | rfl | rfl | rfl | rfl | rfl <;> first | exact o5 | rfl) hRX, Sl.nil, Sl.nil, Sl.nil, Sl.nil, Sl.nil⟩
  have hRM : RM W6 W6.heap.size (mWire x) (cMod W3.heap.size) := ⟨_, _, _, rfl, Sl.nil, Sl.nil, Sl.one (by omega) rfl b4.cells (by simp [Value.oneCell']) hRI⟩
  have hSl : Sl (RM W6 W6.heap.size) W6 W6.heap.size 4 [mWire x] (.slice (some ⟨W4.heap.size, 0, none⟩) 1 1) := Sl.one (by omega) rfl b5.cells (by simp [Value.oneCell']) hRM
  have FIN := hide (And.intro hSl x06)
  obtain ⟨c0, c1, c2, c3, c4, c5⟩ := (hb1.ext hx2).get6
  have d0 := hb2'.free1
  have d1 := hb2'.get1
  have f0 := b6.get1
  have hV1 := hW1.symm
  have hV2 := hW2.symm
  have hV3 := hW3.symm
  have hV4 := hW4.symm
  have hV5 := hW5.symm
  have hV6 := hW6.symm
  clear HR hR hS hx1 hb1 hx2 hb2 hx3 hb3 hx4 hb4 hx5 hb5 hW1 hW2 hW3 hW4 hW5 hW6 hb2' b6 b3 b4 b5 x06 s6 hRX hRI hRM hSl z1 z2 z3 z4 z5
  simp only [tW, tE, tM] at hV4 hV5
  go_enter Tryd.func69, Tryd.ntmps69
  go_wp2
  refine bodyPost_ret (v := .agg #[.slice (some ⟨W4.heap.size, 0, none⟩) 1 1]) ?_ rfl ⟨_, rfl, rfl, FIN.out.1, FIN.out.2⟩
  simp [results, Tryd.results69, go_sem, f0]

set_option maxRecDepth 20000 in
set_option maxHeartbeats 1000000 in
theorem lawdeep_any (B : Nat) (x : X) (w : World) (cs : List Value) (hR : RX w B x cs) (hB : B ≤ w.heap.size) (hsz : sizeX x ≤ 100000000) :
    Calls Tryd.prog 33 #[.agg cs.toArray] w fun e w' => e = .returned (.int .i64 (deepX x : Nat)) ∧ Ext w w' := by
  have HR := hide hR
  obtain ⟨a5, rfl, hS⟩ := RX_iff.1 hR
  have o5 := hS.oneCell
  have hdl := deepX_le x
  have hszw := size_wire x
  have hdw := deep_wire x
  obtain ⟨W1, e1, hV1, hx1, hs1, c0, c1, c2, c3, c4, c5⟩ := boxL6 w (.int .i64 x.op) (.string x.name) (.int .i64 x.n) (.int .i64 x.w) (.int .u64 x.v) a5 25
  have hB1 : B ≤ W1.heap.size := Nat.le_trans hB hx1.size
  have G1 := hide (fun e : Later W1 => wire_any B x e.w _ (HR.out.ext (hx1.trans e.ext) hB) (Nat.le_trans hB1 e.ext.size))
  have G2 := hide (fun (w' : World) (v : Value) (h : Sl (RM w' w'.heap.size) w' w'.heap.size 4 [mWire x] v) => show Calls Tryd.prog 30 #[.agg #[v]] w' (fun e w'' => e = .returned (.int .i64 (((2 + deepX x : Nat)) : Int)) ∧ Ext w' w'') from
    hdw ▸ astDeep_any _ [mWire x] w' v h (Nat.le_refl _) (by omega))
  have HX1 := hide hx1
  clear hR hS hszw hdw HR hx1
  generalize deepX x = s1 at *
  go_enter Tryd.func33, Tryd.ntmps33
  go_wp2_with fail
  refine (G1.out _).mono ?_
  rintro e w2 ⟨v, rfl, ov, hSl, hx2⟩
  have HX2 := hide hx2
  have HSL := hide hSl
  clear hx2 hSl
  go_wp2_with fail
  refine (G2.out _ _ HSL.out).mono ?_
  rintro e w3 ⟨rfl, hx3⟩
  have HX3 := hide hx3
  clear hx3
  go_wp2_with fail
  go_ret
  exact ⟨congrArg (fun z => Ending.returned (Value.int .i64 z)) (by push_cast; omega), (HX1.out.trans (Later.ext _)).trans (HX2.out.trans HX3.out)⟩

set_option maxRecDepth 20000 in
set_option maxHeartbeats 1000000 in
theorem lawsize_any (B : Nat) (x : X) (w : World) (cs : List Value) (hR : RX w B x cs) (hB : B ≤ w.heap.size) (hsz : sizeX x ≤ 100000000) :
    Calls Tryd.prog 34 #[.agg cs.toArray] w fun e w' => e = .returned (.int .i64 (sizeX x : Nat)) ∧ Ext w w' := by
  have HR := hide hR
  obtain ⟨a5, rfl, hS⟩ := RX_iff.1 hR
  have o5 := hS.oneCell
  have hszw := size_wire x
  obtain ⟨W1, e1, hV1, hx1, hs1, c0, c1, c2, c3, c4, c5⟩ := boxL6 w (.int .i64 x.op) (.string x.name) (.int .i64 x.n) (.int .i64 x.w) (.int .u64 x.v) a5 25
  have hB1 : B ≤ W1.heap.size := Nat.le_trans hB hx1.size
  have G1 := hide (fun e : Later W1 => wire_any B x e.w _ (HR.out.ext (hx1.trans e.ext) hB) (Nat.le_trans hB1 e.ext.size))
  have G2 := hide (fun (w' : World) (v : Value) (h : Sl (RM w' w'.heap.size) w' w'.heap.size 4 [mWire x] v) => show Calls Tryd.prog 29 #[.agg #[v]] w' (fun e w'' => e = .returned (.int .i64 (((2 + sizeX x : Nat)) : Int)) ∧ Ext w' w'') from
    hszw ▸ astSize_any _ [mWire x] w' v h (Nat.le_refl _) (by omega))
  have HX1 := hide hx1
  clear hR hS hszw HR hx1
  generalize sizeX x = s1 at *
  go_enter Tryd.func34, Tryd.ntmps34
  go_wp2_with fail
  refine (G1.out _).mono ?_
  rintro e w2 ⟨v, rfl, ov, hSl, hx2⟩
  have HX2 := hide hx2
  have HSL := hide hSl
  clear hx2 hSl
  go_wp2_with fail
  refine (G2.out _ _ HSL.out).mono ?_
  rintro e w3 ⟨rfl, hx3⟩
  have HX3 := hide hx3
  clear hx3
  go_wp2_with fail
  go_ret
  exact ⟨congrArg (fun z => Ending.returned (Value.int .i64 z)) (by push_cast; omega), (HX1.out.trans (Later.ext _)).trans (HX2.out.trans HX3.out)⟩

end Go.Proofs.YtmpoheemnjpoeaaDoor
