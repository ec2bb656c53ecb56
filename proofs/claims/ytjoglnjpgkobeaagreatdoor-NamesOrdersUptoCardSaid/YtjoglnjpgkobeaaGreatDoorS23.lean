/-
  THE CONTRACT OF PACKAGE ast's goodI, of kind 4.
-/
import Derived.Test.YtjoglnjpgkobeaaGreatDoorProg
import Derived.Test.YtjoglnjpgkobeaaGreatDoorS22
namespace Go.Proofs.YtjoglnjpgkobeaaGreatDoor
open Go Go.RowKit
set_option linter.all false
set_option linter.unusedVariables false
set_option linter.unusedSimpArgs false
set_option linter.unusedVariables false
set_option linter.unusedSimpArgs false
attribute [local go_sem] run_store_one
set_option maxRecDepth 20000 in
set_option maxHeartbeats 4000000 in
theorem goodI_walk4 (r : SRow) (hr0 : shapeRows[4]? = some r) (nm of : ByteArray) (s3 s4 s5 s6 s7 s8 : Option Addr) (c3' c4' c5' c6' c7' c8' : Nat) (xl sl ll el pl bl : Nat) (hpb : pl + bl ≤ 1000000000)
    (b1 b2 bt ba bs bL be bp bb : Bool) (W : World) (hT : Tabs W) (hbx : ((xl : Int) == r.x) = true) (hlt : (0 : Int) < xl) (b o : Nat) (hs3 : s3 = some ⟨b, o, none⟩) (y0 y1 y2 y3 y4 y5 : Value) (p0 : y0.oneCell' = true) (p1 : y1.oneCell' = true) (p2 : y2.oneCell' = true) (p3 : y3.oneCell' = true) (p4 : y4.oneCell' = true) (p5 : y5.oneCell' = true)
    (D : ∀ e : Later W, Cells e.w b o [y0, y1, y2, y3, y4, y5]) (GT : ECalls Tryz.prog 126 #[.agg #[y0, y1, y2, y3, y4, y5]] W (.bool bt))
    (G1 : ECalls Tryz.prog 125 #[.string nm, .bool r.name] W (.bool b1)) (G2 : ECalls Tryz.prog 125 #[.string of, .bool r.of] W (.bool b2))
    (GX : ECalls Tryz.prog 91 #[.slice s3 xl c3', .func (.func 57) #[] #[]] W (.bool ba))
    (GS : ECalls Tryz.prog 127 #[.slice s4 sl c4', .func (.func 128) #[] #[]] W (.bool bs))
    (GL : ECalls Tryz.prog 109 #[.slice s5 ll c5', .func (.func 110) #[] #[]] W (.bool bL))
    (GE : ECalls Tryz.prog 109 #[.slice s6 el c6', .func (.func 110) #[] #[]] W (.bool be))
    (GP : ECalls Tryz.prog 106 #[.slice s7 pl c7', .func (.func 107) #[] #[]] W (.bool bp))
    (GB : ECalls Tryz.prog 106 #[.slice s8 bl c8', .func (.func 107) #[] #[]] W (.bool bb)) :
    Calls Tryz.prog 110 #[.agg #[.int .i64 4, .string nm, .string of, .slice s3 xl c3', .slice s4 sl c4', .slice s5 ll c5', .slice s6 el c6', .slice s7 pl c7', .slice s8 bl c8']] W
      fun e w' => e = .returned (.bool (itemB b1 b2 xl r (decide (0 < sl)) (decide (0 < ll)) (decide (0 < el)) (decide ((0 : Int) < (pl : Int) + bl)) (bt && ba) bs bL be bp bb)) ∧ Ext W w' := by
  obtain ⟨rn, ro, rx, rs, rl, re, rb⟩ := r
  subst hs3
  obtain ⟨cS, hcS⟩ : ∃ c, decide (0 < sl) = c := ⟨_, rfl⟩
  obtain ⟨cL, hcL⟩ : ∃ c, decide (0 < ll) = c := ⟨_, rfl⟩
  obtain ⟨cE, hcE⟩ : ∃ c, decide (0 < el) = c := ⟨_, rfl⟩
  obtain ⟨cB, hcB⟩ : ∃ c, decide ((0 : Int) < (pl : Int) + bl) = c := ⟨_, rfl⟩
  have hcS' : decide ((0 : Int) < (sl : Int)) = cS := by rw [← hcS]; simp
  have hcL' : decide ((0 : Int) < (ll : Int)) = cL := by rw [← hcL]; simp
  have hcE' : decide ((0 : Int) < (el : Int)) = cE := by rw [← hcE]; simp
  obtain ⟨res, hres⟩ : ∃ res, res = itemB b1 b2 xl ⟨rn, ro, rx, rs, rl, re, rb⟩ cS cL cE cB (bt && ba) bs bL be bp bb := ⟨_, rfl⟩
  rw [hcS, hcL, hcE, hcB, ← hres]
  have R := hide hres
  clear hres
  obtain ⟨t0, t1, t2, t3, t4, t5, t6⟩ := Cells.later7 (hT.shapes 4 _ hr0)
  have hk := hide hr0
  clear hr0 hT
  obtain ⟨W1, e1, hV1, hx1, hs1, c0, c1, c2, c3, c4, c5, c6, c7, c8⟩ := boxL9 W (.int .i64 4) (.string nm) (.string of) (.slice (some ⟨b, o, none⟩) xl c3') (.slice s4 sl c4') (.slice s5 ll c5') (.slice s6 el c6') (.slice s7 pl c7') (.slice s8 bl c8') 53
  have t0 : ∀ e : Later W1, e.w.cell? ⟨1, 28, none⟩ = some (.bool rn) := cellL t0 hx1
  have t1 : ∀ e : Later W1, e.w.cell? ⟨1, 29, none⟩ = some (.bool ro) := cellL t1 hx1
  have t2 : ∀ e : Later W1, e.w.cell? ⟨1, 30, none⟩ = some (.int .i64 rx) := cellL t2 hx1
  have t3 : ∀ e : Later W1, e.w.cell? ⟨1, 31, none⟩ = some (.bool rs) := cellL t3 hx1
  have t4 : ∀ e : Later W1, e.w.cell? ⟨1, 32, none⟩ = some (.bool rl) := cellL t4 hx1
  have t5 : ∀ e : Later W1, e.w.cell? ⟨1, 33, none⟩ = some (.bool re) := cellL t5 hx1
  have t6 : ∀ e : Later W1, e.w.cell? ⟨1, 34, none⟩ = some (.bool rb) := cellL t6 hx1
  obtain ⟨W2, e2, hV2, hx2, hs2, d0, d1, d2, d3, d4, d5, d6⟩ := boxL7 e1.w (.bool rn) (.bool ro) (.int .i64 rx) (.bool rs) (.bool rl) (.bool re) (.bool rb) 150
  have hx12 := e1.ext.trans hx2
  have c0' := cellL c0 hx12
  have c1' := cellL c1 hx12
  have c2' := cellL c2 hx12
  have i3 := cellL c3 hx12
  have i4 := cellL c4 hx12
  have i5 := cellL c5 hx12
  have i6 := cellL c6 hx12
  have i7 := cellL c7 hx12
  have i8 := cellL c8 hx12
  have hx02 := hx1.trans hx12
  have G1 := hide (G1.later hx02)
  have G2 := hide (G2.later hx02)
  have GX := hide (GX.later hx02)
  have GS := hide (GS.later hx02)
  have GL := hide (GL.later hx02)
  have GE := hide (GE.later hx02)
  have GP := hide (GP.later hx02)
  have GB := hide (GB.later hx02)
  have GT' := hide (GT.later hx02)
  have q0 : ∀ e : Later W2, e.w.cell? ⟨b, o, none⟩ = some y0 := fun e => (D (e.under hx02)).get6.1
  have q1 : ∀ e : Later W2, e.w.cell? ⟨b, o + 1, none⟩ = some y1 := fun e => (D (e.under hx02)).get6.2.1
  have q2 : ∀ e : Later W2, e.w.cell? ⟨b, o + 2, none⟩ = some y2 := fun e => (D (e.under hx02)).get6.2.2.1
  have q3 : ∀ e : Later W2, e.w.cell? ⟨b, o + 3, none⟩ = some y3 := fun e => (D (e.under hx02)).get6.2.2.2.1
  have q4 : ∀ e : Later W2, e.w.cell? ⟨b, o + 4, none⟩ = some y4 := fun e => (D (e.under hx02)).get6.2.2.2.2.1
  have q5 : ∀ e : Later W2, e.w.cell? ⟨b, o + 5, none⟩ = some y5 := fun e => (D (e.under hx02)).get6.2.2.2.2.2
  clear GT D
  rename_i g1 g2 gX gS gL gE gP gB
  clear g1 g2 gX gS gL gE gP gB hx1 hx2 hx12 hs1 hs2 c1 c2 c3 c4 c5 c6 c7 c8
  go_enter Tryz.func110, Tryz.ntmps110
  go_wp2_with (first
    | (go_at_call 125; with_reducible refine (G1.out.at_ _).mono ?_; rintro _ _ ⟨rfl, e, rfl⟩)
    | (go_at_call 125; with_reducible refine (G2.out.at_ _).mono ?_; rintro _ _ ⟨rfl, e, rfl⟩)
    | (go_at_call 126; with_reducible refine (GT'.out.at_ _).mono ?_; rintro _ _ ⟨rfl, e, rfl⟩)
    | (go_at_call 91; with_reducible refine (GX.out.at_ _).mono ?_; rintro _ _ ⟨rfl, e, rfl⟩)
    | (go_at_call 127; with_reducible refine (GS.out.at_ _).mono ?_; rintro _ _ ⟨rfl, e, rfl⟩)
    | (go_at_call 109; with_reducible refine (GL.out.at_ _).mono ?_; rintro _ _ ⟨rfl, e, rfl⟩)
    | (go_at_call 109; with_reducible refine (GE.out.at_ _).mono ?_; rintro _ _ ⟨rfl, e, rfl⟩)
    | (go_at_call 106; with_reducible refine (GP.out.at_ _).mono ?_; rintro _ _ ⟨rfl, e, rfl⟩)
    | (go_at_call 106; with_reducible refine (GB.out.at_ _).mono ?_; rintro _ _ ⟨rfl, e, rfl⟩))
  all_goals
    go_ret
    refine ⟨?_, hx02.trans (Later.ext _)⟩
    rw [R.out]
    refine congrArg (fun b => Ending.returned (Value.bool b)) ?_
    clear hcS hcL hcE hcB hcS' hcL' hcE'
    clear q0 q1 q2 q3 q4 q5 GT' p0 p1 p2 p3 p4 p5
    clear R G1 G2 GX GS GL GE GP GB c0 c0' c1' c2' d0 d1 d2 d3 d4 d5 d6 i3 i4 i5 i6 i7 i8 hV1 hV2 hk t0 t1 t2 t3 t4 t5 t6 hx02
    unfold itemB
    simp_all
    try omega
end Go.Proofs.YtjoglnjpgkobeaaGreatDoor
