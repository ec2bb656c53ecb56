import Derived.Test.YtjoglnjpgkobeaaGreatDoorProg
import Derived.Test.YtjoglnjpgkobeaaGreatDoorS22
import Derived.Test.YtjoglnjpgkobeaaGreatDoorS23
import Derived.Test.YtjoglnjpgkobeaaGreatDoorS5
import Derived.Test.YtjoglnjpgkobeaaGreatDoorS12
set_option linter.all false
set_option linter.unusedVariables false
set_option linter.unusedSimpArgs false
namespace Go.Proofs.YtjoglnjpgkobeaaGreatDoor
open Go Go.RowKit
attribute [local go_sem] run_store_one
set_option maxRecDepth 20000 in
set_option maxHeartbeats 4000000 in
theorem goodI_walk4n (r : SRow) (hr0 : shapeRows[4]? = some r) (nm of : ByteArray) (s3 s4 s5 s6 s7 s8 : Option Addr) (c3' c4' c5' c6' c7' c8' : Nat) (xl sl ll el pl bl : Nat) (hpb : pl + bl ≤ 1000000000)
   (b1 b2 ba bs bL be bp bb : Bool) (W : World) (hT : Tabs W) (hbx : ((xl : Int) == r.x) = false) (hbx2 : ¬ (xl : Int) = r.x)
   (G1 : ECalls Tryz.prog 125 #[.string nm, .bool r.name] W (.bool b1)) (G2 : ECalls Tryz.prog 125 #[.string of, .bool r.of] W (.bool b2))
   (GX : ECalls Tryz.prog 91 #[.slice s3 xl c3', .func (.func 57) #[] #[]] W (.bool ba))
   (GS : ECalls Tryz.prog 127 #[.slice s4 sl c4', .func (.func 128) #[] #[]] W (.bool bs))
   (GL : ECalls Tryz.prog 109 #[.slice s5 ll c5', .func (.func 110) #[] #[]] W (.bool bL))
   (GE : ECalls Tryz.prog 109 #[.slice s6 el c6', .func (.func 110) #[] #[]] W (.bool be))
   (GP : ECalls Tryz.prog 106 #[.slice s7 pl c7', .func (.func 107) #[] #[]] W (.bool bp))
   (GB : ECalls Tryz.prog 106 #[.slice s8 bl c8', .func (.func 107) #[] #[]] W (.bool bb)) :
   Calls Tryz.prog 110 #[.agg #[.int .i64 4, .string nm, .string of, .slice s3 xl c3', .slice s4 sl c4', .slice s5 ll c5', .slice s6 el c6', .slice s7 pl c7', .slice s8 bl c8']] W
     fun e w' => e = .returned (.bool (itemB b1 b2 xl r (decide (0 < sl)) (decide (0 < ll)) (decide (0 < el)) (decide ((0 : Int) < (pl : Int) + bl)) ba bs bL be bp bb)) ∧ Ext W w' := by
 obtain ⟨rn, ro, rx, rs, rl, re, rb⟩ := r
 obtain ⟨cS, hcS⟩ : ∃ c, decide (0 < sl) = c := ⟨_, rfl⟩
 obtain ⟨cL, hcL⟩ : ∃ c, decide (0 < ll) = c := ⟨_, rfl⟩
 obtain ⟨cE, hcE⟩ : ∃ c, decide (0 < el) = c := ⟨_, rfl⟩
 obtain ⟨cB, hcB⟩ : ∃ c, decide ((0 : Int) < (pl : Int) + bl) = c := ⟨_, rfl⟩
 have hcS' : decide ((0 : Int) < (sl : Int)) = cS := by rw [← hcS]; simp
 have hcL' : decide ((0 : Int) < (ll : Int)) = cL := by rw [← hcL]; simp
 have hcE' : decide ((0 : Int) < (el : Int)) = cE := by rw [← hcE]; simp
 obtain ⟨res, hres⟩ : ∃ res, res = itemB b1 b2 xl ⟨rn, ro, rx, rs, rl, re, rb⟩ cS cL cE cB ba bs bL be bp bb := ⟨_, rfl⟩
 rw [hcS, hcL, hcE, hcB, ← hres]
 have R := hide hres
 clear hres
 obtain ⟨t0, t1, t2, t3, t4, t5, t6⟩ := Cells.later7 (hT.shapes 4 _ hr0)
 have hk := hide hr0
 clear hr0 hT
 obtain ⟨W1, e1, hV1, hx1, hs1, c0, c1, c2, c3, c4, c5, c6, c7, c8⟩ := boxL9 W (.int .i64 4) (.string nm) (.string of) (.slice s3 xl c3') (.slice s4 sl c4') (.slice s5 ll c5') (.slice s6 el c6') (.slice s7 pl c7') (.slice s8 bl c8') 53
 have t0 : ∀ e : Later W1, e.w.cell? ⟨1, 28, none⟩ = some (.bool rn) := cellL t0 hx1
 have t1 : ∀ e : Later W1, e.w.cell? ⟨1, 29, none⟩ = some (.bool ro) := cellL t1 hx1
 have t2 : ∀ e : Later W1, e.w.cell? ⟨1, 30, none⟩ = some (.int .i64 rx) := cellL t2 hx1
 have t3 : ∀ e : Later W1, e.w.cell? ⟨1, 31, none⟩ = some (.bool rs) := cellL t3 hx1
 have t4 : ∀ e : Later W1, e.w.cell? ⟨1, 32, none⟩ = some (.bool rl) := cellL t4 hx1
 have t5 : ∀ e : Later W1, e.w.cell? ⟨1, 33, none⟩ = some (.bool re) := cellL t5 hx1
 have t6 : ∀ e : Later W1, e.w.cell? ⟨1, 34, none⟩ = some (.bool rb) := cellL t6 hx1
 obtain ⟨W2, e2, hV2, hx2, hs2, d0, d1, d2, d3, d4, d5, d6⟩ := boxL7 e1.w (.bool rn) (.bool ro) (.int .i64 rx) (.bool rs) (.bool rl) (.bool re) (.bool rb) 150
 have hx12 := e1.ext.trans hx2
 have c0' := cellL c0 hx12
 have c1' := cellL c1 hx12
 have c2' := cellL c2 hx12
 have i3 := cellL c3 hx12
 have i4 := cellL c4 hx12
 have i5 := cellL c5 hx12
 have i6 := cellL c6 hx12
 have i7 := cellL c7 hx12
 have i8 := cellL c8 hx12
 have hx02 := hx1.trans hx12
 have G1 := hide (G1.later hx02)
 have G2 := hide (G2.later hx02)
 have GX := hide (GX.later hx02)
 have GS := hide (GS.later hx02)
 have GL := hide (GL.later hx02)
 have GE := hide (GE.later hx02)
 have GP := hide (GP.later hx02)
 have GB := hide (GB.later hx02)
 rename_i g1 g2 gX gS gL gE gP gB
 clear g1 g2 gX gS gL gE gP gB hx1 hx2 hx12 hs1 hs2 c1 c2 c3 c4 c5 c6 c7 c8
 go_enter Tryz.func110, Tryz.ntmps110
 go_wp2_with (first
   | (go_at_call 125; with_reducible refine (G1.out.at_ _).mono ?_; rintro _ _ ⟨rfl, e, rfl⟩)
   | (go_at_call 125; with_reducible refine (G2.out.at_ _).mono ?_; rintro _ _ ⟨rfl, e, rfl⟩)
   | (go_at_call 91; with_reducible refine (GX.out.at_ _).mono ?_; rintro _ _ ⟨rfl, e, rfl⟩)
   | (go_at_call 127; with_reducible refine (GS.out.at_ _).mono ?_; rintro _ _ ⟨rfl, e, rfl⟩)
   | (go_at_call 109; with_reducible refine (GL.out.at_ _).mono ?_; rintro _ _ ⟨rfl, e, rfl⟩)
   | (go_at_call 109; with_reducible refine (GE.out.at_ _).mono ?_; rintro _ _ ⟨rfl, e, rfl⟩)
   | (go_at_call 106; with_reducible refine (GP.out.at_ _).mono ?_; rintro _ _ ⟨rfl, e, rfl⟩)
   | (go_at_call 106; with_reducible refine (GB.out.at_ _).mono ?_; rintro _ _ ⟨rfl, e, rfl⟩))
 all_goals
   go_ret
   refine ⟨?_, hx02.trans (Later.ext _)⟩
   rw [R.out]
   refine congrArg (fun b => Ending.returned (Value.bool b)) ?_
   clear hcS hcL hcE hcB hcS' hcL' hcE'
   clear R G1 G2 GX GS GL GE GP GB c0 c0' c1' c2' d0 d1 d2 d3 d4 d5 d6 i3 i4 i5 i6 i7 i8 hV1 hV2 hk t0 t1 t2 t3 t4 t5 t6 hx02
   unfold itemB
   simp_all
   try omega
theorem itemB_yes {x : Itm} {r : SRow} (hown : ownI x ↔ shapeOk r x) (h4 : x.op ≠ 4) (ba bs bL be bp bb : Bool) (h1 : ba = yes (∀ y, y ∈ x.x → MayX y)) (h2 : bs = yes (∀ y, y ∈ x.s → MayS y)) (h3 : bL = yes (∀ y, y ∈ x.l → MayI y)) (h4' : be = yes (∀ y, y ∈ x.els → MayI y))
   (h5 : bp = yes (∀ y, y ∈ x.params → MayB y)) (h6 : bb = yes (∀ y, y ∈ x.binds → MayB y)) :
   itemB (yes (fitsP (r.name = true) x.name)) (yes (fitsP (r.of = true) x.of)) x.x.length r (decide (0 < x.s.length)) (decide (0 < x.l.length)) (decide (0 < x.els.length)) (decide ((0 : Int) < (x.params.length : Int) + x.binds.length)) ba bs bL be bp bb = yes (MayI x) := by
 subst h1 h2 h3 h4' h5 h6
 rw [yes_congr MayI_iff, yes_congr (show ownI x ∧ _ ↔ shapeOk r x ∧ _ from ⟨fun h => ⟨hown.1 h.1, h.2⟩, fun h => ⟨hown.2 h.1, h.2⟩⟩)]
 rw [Bool.eq_iff_iff]
 unfold itemB shapeOk MayXs MayAll
 simp only [Bool.and_eq_true, yes_iff, Bool.or_eq_true, beq_iff_eq, Bool.not_eq_true', decide_eq_false_iff_not]
 generalize fitsP (r.name = true) x.name = F1
 generalize fitsP (r.of = true) x.of = F2
 generalize (∀ y, y ∈ x.x → MayX y) = P1
 generalize (∀ y, y ∈ x.s → MayS y) = P2
 generalize (∀ y, y ∈ x.l → MayI y) = P3
 generalize (∀ y, y ∈ x.els → MayI y) = P4
 generalize (∀ y, y ∈ x.params → MayB y) = P5
 generalize (∀ y, y ∈ x.binds → MayB y) = P6
 constructor
 · rintro ⟨a1, a2, a3, a4, a5, a6, a7, a8, a9, a10, a11, a12, a13⟩
   exact ⟨⟨a1, a2, a3, fun h => (h4 h).elim, orRight a4 (fun h => by omega), orRight a5 (fun h => by omega), orRight a6 (fun h => by omega), orRight a7 (fun h => by omega)⟩, a8, a9, a10, a11, a12, a13⟩
 · rintro ⟨⟨a1, a2, a3, -, a4, a5, a6, a7⟩, a8, a9, a10, a11, a12, a13⟩
   exact ⟨a1, a2, a3, orRight a4 (fun h => by omega), orRight a5 (fun h => by omega), orRight a6 (fun h => by omega), orRight a7 (fun h => by omega), a8, a9, a10, a11, a12, a13⟩
theorem itemB_yes4 {x : Itm} {r : SRow} (hown : ownI x ↔ shapeOk r x) (h4 : x.op = 4) (bt ba bs bL be bp bb : Bool) (ht : bt = yes (isTargets x.x)) (h1 : ba = yes (∀ y, y ∈ x.x → MayX y)) (h2 : bs = yes (∀ y, y ∈ x.s → MayS y)) (h3 : bL = yes (∀ y, y ∈ x.l → MayI y)) (h4' : be = yes (∀ y, y ∈ x.els → MayI y))
   (h5 : bp = yes (∀ y, y ∈ x.params → MayB y)) (h6 : bb = yes (∀ y, y ∈ x.binds → MayB y)) :
   itemB (yes (fitsP (r.name = true) x.name)) (yes (fitsP (r.of = true) x.of)) x.x.length r (decide (0 < x.s.length)) (decide (0 < x.l.length)) (decide (0 < x.els.length)) (decide ((0 : Int) < (x.params.length : Int) + x.binds.length)) (bt && ba) bs bL be bp bb = yes (MayI x) := by
 subst h1 h2 h3 h4' h5 h6 ht
 rw [yes_congr MayI_iff, yes_congr (show ownI x ∧ _ ↔ shapeOk r x ∧ _ from ⟨fun h => ⟨hown.1 h.1, h.2⟩, fun h => ⟨hown.2 h.1, h.2⟩⟩)]
 rw [Bool.eq_iff_iff]
 unfold itemB shapeOk MayXs MayAll
 simp only [Bool.and_eq_true, yes_iff, Bool.or_eq_true, beq_iff_eq, Bool.not_eq_true', decide_eq_false_iff_not]
 generalize fitsP (r.name = true) x.name = F1
 generalize fitsP (r.of = true) x.of = F2
 generalize (∀ y, y ∈ x.x → MayX y) = P1
 generalize (∀ y, y ∈ x.s → MayS y) = P2
 generalize (∀ y, y ∈ x.l → MayI y) = P3
 generalize (∀ y, y ∈ x.els → MayI y) = P4
 generalize (∀ y, y ∈ x.params → MayB y) = P5
 generalize (∀ y, y ∈ x.binds → MayB y) = P6
 constructor
 · rintro ⟨a1, a2, a3, a4, a5, a6, a7, ⟨at', a8⟩, a9, a10, a11, a12, a13⟩
   exact ⟨⟨a1, a2, a3, fun _ => at', orRight a4 (fun h => by omega), orRight a5 (fun h => by omega), orRight a6 (fun h => by omega), orRight a7 (fun h => by omega)⟩, a8, a9, a10, a11, a12, a13⟩
 · rintro ⟨⟨a1, a2, a3, at', a4, a5, a6, a7⟩, a8, a9, a10, a11, a12, a13⟩
   exact ⟨a1, a2, a3, orRight a4 (fun h => by omega), orRight a5 (fun h => by omega), orRight a6 (fun h => by omega), orRight a7 (fun h => by omega), ⟨at' h4, a8⟩, a9, a10, a11, a12, a13⟩
theorem itemB_len {b1 b2 : Bool} {xl : Nat} {r : SRow} {cS cL cE cB ba bs bL be bp bb : Bool} (h : ¬ (xl : Int) = r.x) : itemB b1 b2 xl r cS cL cE cB ba bs bL be bp bb = false := by
 unfold itemB
 rw [beq_eq_false_iff_ne.2 h]
 simp
theorem goodI_any (B : Nat) (x : Itm) : VI x → sizeI x ≤ 65536 → GoodIOk B x := by
 induction x using Itm.ind with
 | h x ih1 ih2 =>
 intro hv hsz w cs hT hR hB
 obtain ⟨v3, v4, v5, v6, v7, v8, rfl, h3, h4, h5, h6, h7, h8⟩ := RI_iff.1 hR
 obtain ⟨vn, vo, vx, vs, vl, ve, vp, vb⟩ := VI_iff.1 hv
 have hs0 := sizeI_eq x
 by_cases hop : x.op < 1 ∨ 10 < x.op
 · rw [yes_no.2 (fun h : MayI x => ownI_out hop (MayI_iff.1 h).1)]
   exact goodI_out _ hop _ _ _ _ _ _ _ _ rfl rfl h3.oneCell h4.oneCell h5.oneCell h6.oneCell h7.oneCell h8.oneCell w
 · obtain ⟨k, hk⟩ : ∃ k : Nat, x.op = k := ⟨x.op.toNat, by omega⟩
   obtain ⟨r, hr⟩ : ∃ r, shapeRows[k]? = some r := ⟨shapeRows[k]'(show k < 11 by omega), List.getElem?_eq_getElem _⟩
   have hown := ownI_row (x := x) k r hr (by omega) (by omega) hk
   have G1 : ECalls Tryz.prog 125 #[.string x.name, .bool r.name] w (.bool (yes (fitsP (r.name = true) x.name))) := fun w' hw => fits_any _ _ w' (hT.ext hw) vn
   have G2 : ECalls Tryz.prog 125 #[.string x.of, .bool r.of] w (.bool (yes (fitsP (r.of = true) x.of))) := fun w' hw => fits_any _ _ w' (hT.ext hw) vo
   have GX : ECalls Tryz.prog 91 #[v3, .func (.func 57) #[] #[]] w (.bool (yes (∀ y, y ∈ x.x → MayX y))) :=
     fun w' hw => goodXs_of B x.x (by omega) vx w' v3 (hT.ext hw) (h3.extRX hw hB) (Nat.le_trans hB hw.size)
   have GS : ECalls Tryz.prog 127 #[v4, .func (.func 128) #[] #[]] w (.bool (yes (∀ y, y ∈ x.s → MayS y))) :=
     fun w' hw => goodSs_of B x.s (by omega) vs w' v4 (hT.ext hw) (h4.extRS hw hB) (Nat.le_trans hB hw.size)
   have GL : ECalls Tryz.prog 109 #[v5, .func (.func 110) #[] #[]] w (.bool (yes (∀ y, y ∈ x.l → MayI y))) :=
     fun w' hw => goodIs_of B x.l (fun y hy => ih1 y hy (vl y hy) (by have := msize_mem sizeI x.l y hy; omega)) (by have := length_le_msize sizeI x.l sizeI_pos; omega) w' v5 (hT.ext hw) (h5.extRI hw hB) (Nat.le_trans hB hw.size)
   have GE : ECalls Tryz.prog 109 #[v6, .func (.func 110) #[] #[]] w (.bool (yes (∀ y, y ∈ x.els → MayI y))) :=
     fun w' hw => goodIs_of B x.els (fun y hy => ih2 y hy (ve y hy) (by have := msize_mem sizeI x.els y hy; omega)) (by have := length_le_msize sizeI x.els sizeI_pos; omega) w' v6 (hT.ext hw) (h6.extRI hw hB) (Nat.le_trans hB hw.size)
   have GP : ECalls Tryz.prog 106 #[v7, .func (.func 107) #[] #[]] w (.bool (yes (∀ y, y ∈ x.params → MayB y))) :=
     fun w' hw => goodBs_of B x.params (by omega) vp w' v7 (hT.ext hw) (h7.extRB hw hB) (Nat.le_trans hB hw.size)
   have GB : ECalls Tryz.prog 106 #[v8, .func (.func 107) #[] #[]] w (.bool (yes (∀ y, y ∈ x.binds → MayB y))) :=
     fun w' hw => goodBs_of B x.binds (by omega) vb w' v8 (hT.ext hw) (h8.extRB hw hB) (Nat.le_trans hB hw.size)
   have hpl := length_le_msize sizeB x.params sizeB_pos
   have hbl := length_le_msize sizeB x.binds sizeB_pos
   have hxl := length_le_msize sizeX x.x sizeX_pos
   obtain ⟨s3, c3, rfl, -, hrow⟩ := h3
   obtain ⟨s4, c4, rfl, -, -⟩ := h4
   obtain ⟨s5, c5, rfl, -, -⟩ := h5
   obtain ⟨s6, c6, rfl, -, -⟩ := h6
   obtain ⟨s7, c7, rfl, -, -⟩ := h7
   obtain ⟨s8, c8, rfl, -, -⟩ := h8
   by_cases hk4 : k = 4
   · subst hk4
     by_cases hx : (x.x.length : Int) = r.x
     · have hlt : 0 < x.x.length := by
         simp only [shapeRows, List.getElem?_cons_succ, List.getElem?_cons_zero, Option.some.injEq] at hr
         subst hr
         simp only at hx
         omega
       obtain ⟨b, o, y0, y1, y2, y3, y4, y5, rfl, hbB, hRy, hC, o0, o1, o2, o3, o4, o5⟩ := hrow.open6 hlt
       obtain ⟨a5, hEq, hS5⟩ := RX_iff.1 hRy
       cases hEq
       simp only [Nat.zero_mul, Nat.add_zero] at hC
       rw [← itemB_yes4 hown hk (yes (isTargets x.x)) _ _ _ _ _ _ rfl rfl rfl rfl rfl rfl rfl, hk]
       exact goodI_walk4 r hr x.name x.of _ s4 s5 s6 s7 s8 c3 c4 c5 c6 c7 c8 x.x.length x.s.length x.l.length x.els.length x.params.length x.binds.length (by omega) _ _ _ _ _ _ _ _ _ w hT (beq_iff_eq.2 hx) (by omega) b o rfl _ _ _ _ _ _ o0 o1 o2 o3 o4 o5
         (fun e => hC.ext e.ext) (fun w' hw => by rw [yes_congr (isTargets_at hlt)]; exact target_any _ _ _ _ _ _ o1 o2 o3 o4 o5 w') G1 G2 GX GS GL GE GP GB
     · rw [show yes (MayI x) = false from yes_no.2 (fun h => hx (hown.1 (MayI_iff.1 h).1).2.2.1), hk]
       rw [← itemB_len (b1 := yes (fitsP (r.name = true) x.name)) (b2 := yes (fitsP (r.of = true) x.of)) (cS := decide (0 < x.s.length)) (cL := decide (0 < x.l.length)) (cE := decide (0 < x.els.length)) (cB := decide ((0 : Int) < (x.params.length : Int) + x.binds.length)) (ba := yes (∀ y, y ∈ x.x → MayX y)) (bs := yes (∀ y, y ∈ x.s → MayS y)) (bL := yes (∀ y, y ∈ x.l → MayI y)) (be := yes (∀ y, y ∈ x.els → MayI y)) (bp := yes (∀ y, y ∈ x.params → MayB y)) (bb := yes (∀ y, y ∈ x.binds → MayB y)) hx]
       exact goodI_walk4n r hr x.name x.of s3 s4 s5 s6 s7 s8 c3 c4 c5 c6 c7 c8 x.x.length x.s.length x.l.length x.els.length x.params.length x.binds.length (by omega) _ _ _ _ _ _ _ _ w hT (beq_eq_false_iff_ne.2 hx) hx G1 G2 GX GS GL GE GP GB
   · rw [← itemB_yes hown (by omega) _ _ _ _ _ _ rfl rfl rfl rfl rfl rfl, hk]
     exact goodI_walk k r hr (by omega) (by omega) hk4 x.name x.of s3 s4 s5 s6 s7 s8 c3 c4 c5 c6 c7 c8 x.x.length x.s.length x.l.length x.els.length x.params.length x.binds.length (by omega) _ _ _ _ _ _ _ _ w hT G1 G2 GX GS GL GE GP GB
set_option maxRecDepth 20000 in
set_option maxHeartbeats 2000000 in
theorem goodM_any (B : Nat) (x : Mdl) (w : World) (cs : List Value) (hT : Tabs w) (hR : RM w B x cs) (hB : B ≤ w.heap.size) (hsz : sizeM x ≤ 65536) (hv : VM x) :
   Calls Tryz.prog 69 #[.agg cs.toArray] w fun e w' => e = .returned (.bool (yes (MayM x))) ∧ Ext w w' := by
 obtain ⟨v1, v2, v3, rfl, h1, h2, h3⟩ := hR
 obtain ⟨vn, vp, vq, vi⟩ := hv
 have hs0 : sizeM x = 1 + msize sizeB x.params + msize sizeP x.ports + msize sizeI x.items := by unfold sizeM; omega
 have o1 := h1.oneCell
 have o2 := h2.oneCell
 have o3 := h3.oneCell
 obtain ⟨W1, e1, hV1, hx1, hs1, c0, c1, c2, c3⟩ := boxL4 w (.string x.name) v1 v2 v3 33
 have hB1 : B ≤ W1.heap.size := Nat.le_trans hB hx1.size
 have G1 := hide (show ECalls Tryz.prog 105 #[.string x.name] W1 (.bool (yes (nameP x.name))) from
   fun w' hw => by rw [yes_nameP]; exact name_any x.name w' ((hT.ext (hx1.trans hw)).lib) vn)
 have GP := hide (show ECalls Tryz.prog 106 #[v1, .func (.func 107) #[] #[]] W1 (.bool (yes (∀ y, y ∈ x.params → MayB y))) from
   fun w' hw => goodBs_of B x.params (by omega) vp w' v1 (hT.ext (hx1.trans hw)) (h1.extRB (hx1.trans hw) hB) (Nat.le_trans hB1 hw.size))
 have GQ := hide (show ECalls Tryz.prog 108 #[v2, .func (.func 104) #[] #[]] W1 (.bool (yes (∀ y, y ∈ x.ports → MayP y))) from
   fun w' hw => goodPs_of B x.ports (by omega) vq w' v2 (hT.ext (hx1.trans hw)) (h2.extRP (hx1.trans hw) hB) (Nat.le_trans hB1 hw.size))
 have GI := hide (show ECalls Tryz.prog 109 #[v3, .func (.func 110) #[] #[]] W1 (.bool (yes (∀ y, y ∈ x.items → MayI y))) from
   fun w' hw => goodIs_of B x.items (fun y hy => goodI_any B y (vi y hy) (by have := msize_mem sizeI x.items y hy; omega)) (by have := length_le_msize sizeI x.items sizeI_pos; omega) w' v3 (hT.ext (hx1.trans hw)) (h3.extRI (hx1.trans hw) hB) (Nat.le_trans hB1 hw.size))
 obtain ⟨res, hres⟩ : ∃ res, res = yes (MayM x) := ⟨_, rfl⟩
 rw [← hres]
 unfold MayM at hres
 rw [yes_and, yes_and, yes_and] at hres
 have R := hide hres
 clear hT hsz hs0 hres h1 h2 h3 vp vq vi
 generalize yes (nameP x.name) = b1 at *
 generalize yes (∀ y, y ∈ x.params → MayB y) = b2 at *
 generalize yes (∀ y, y ∈ x.ports → MayP y) = b3 at *
 generalize yes (∀ y, y ∈ x.items → MayI y) = b4 at *
 go_enter Tryz.func69, Tryz.ntmps69
 go_wp2_with (first
   | (go_at_call 105; refine (G1.out.at_ _).mono ?_; rintro _ _ ⟨rfl, e, rfl⟩)
   | (go_at_call 106; refine (GP.out.at_ _).mono ?_; rintro _ _ ⟨rfl, e, rfl⟩)
   | (go_at_call 108; refine (GQ.out.at_ _).mono ?_; rintro _ _ ⟨rfl, e, rfl⟩)
   | (go_at_call 109; refine (GI.out.at_ _).mono ?_; rintro _ _ ⟨rfl, e, rfl⟩))
 all_goals
   go_ret
   refine ⟨?_, hx1.trans (Later.ext _)⟩
   rw [R.out]
   refine congrArg (fun b => Ending.returned (Value.bool b)) ?_
   clear R G1 GP GQ GI c0 c1 c2 c3 hV1 hx1
   simp_all
set_option maxRecDepth 20000 in
set_option maxHeartbeats 1000000 in
theorem told_any (f : Nat) (hcall : Enters Tryz.prog f) (c : Value) (n d : Nat) (b : Bool) (w : World) (hn : n ≤ 1000000000) (hd : d ≤ 1000000000)
   (hf : n ≤ 65536 → d ≤ 64 → ∀ w', Ext w w' → Calls Tryz.prog f #[c] w' fun e w'' => e = .returned (.bool b) ∧ Ext w' w'') :
   Calls Tryz.prog 54 #[meas n d, .func (.func f) #[] #[c]] w fun e w' => e = .returned (.int .i64 (told n d b)) ∧ Ext w w' := by
 unfold meas
 have hcf := hcall.out
 obtain ⟨res, hres⟩ : ∃ res, res = told n d b := ⟨_, rfl⟩
 rw [← hres]
 unfold told at hres
 obtain ⟨W1, e1, hV1, hx1, hs1, c0, c1⟩ := boxL2 w (.int .i64 n) (.int .i64 d) 79
 by_cases h1 : 65536 < n
 · rw [if_pos (.inl h1)] at hres
   subst hres
   have h1' : (65536 : Int) < n := by omega
   clear h1
   go_enter Tryz.func54, Tryz.ntmps54
   go_wp2_with fail
   go_ret
   exact ⟨rfl, hx1.trans (Later.ext _)⟩
 · have h1' : ¬ (65536 : Int) < n := by omega
   by_cases h2 : 64 < d
   · rw [if_pos (.inr h2)] at hres
     subst hres
     have h2' : (64 : Int) < d := by omega
     clear h1 h2
     go_enter Tryz.func54, Tryz.ntmps54
     go_wp2_with fail
     go_ret
     exact ⟨rfl, hx1.trans (Later.ext _)⟩
   · have h2' : ¬ (64 : Int) < d := by omega
     rw [if_neg (by omega)] at hres
     have G := hide (show ECalls Tryz.prog f #[c] W1 (.bool b) from fun w' hw => hf (by omega) (by omega) w' (hx1.trans hw))
     clear h1 h2 hf
     cases b
     all_goals
       simp only [if_true, Bool.false_eq_true, if_false] at hres
       subst hres
       go_enter Tryz.func54, Tryz.ntmps54
       go_wp2_with fail
       refine (G.out.at_ _).mono ?_
       rintro _ _ ⟨rfl, e, rfl⟩
       go_wp2_with fail
       go_ret
       exact ⟨rfl, hx1.trans (Later.ext _)⟩
theorem enters_closeF : Enters Tryz.prog 67 := ⟨fun _ _ => by kernel_rfl⟩
noncomputable def checkF (l : List Mdl) : Int := if 64 < l.length then 2 else told (msize sizeM l) (mdeep deepM l) (yes (∀ m, m ∈ l → MayM m))
set_option maxRecDepth 20000 in
set_option maxHeartbeats 1000000 in
theorem Check_any (B : Nat) (l : List Mdl) (w : World) (v : Value) (hT : Tabs w) (hS : Sl (RM w B) w B 4 l v) (hB : B ≤ w.heap.size) (hsz : msize sizeM l ≤ 1000000000) (hvx : ∀ m, m ∈ l → VM m) :
   Calls Tryz.prog 32 #[.agg #[v]] w fun e w' => e = .returned (.int .i64 (checkF l)) ∧ Ext w w' := by
 have HS := hide hS
 have hov := hS.oneCell
 have hdl := deepML_le l
 have hln := length_le_msize sizeM l sizeM_pos
 obtain ⟨W1, e1, hV1, hx1, hs1, c0⟩ := boxL1 w v 24
 have hB1 : B ≤ W1.heap.size := Nat.le_trans hB hx1.size
 have G1 := hide (show ECalls Tryz.prog 65 #[v, .func (.func 66) #[] #[]] W1 (meas (msize sizeM l) (mdeep deepM l)) from
   fun w' hw => sumMdl_any _ enters_ofM sizeM deepM B l (fun y hy w3 cs h1 h2 => ofM_any B y w3 cs h1 h2 (by have := msize_mem sizeM l y hy; omega)) w' v (HS.out.extRM (hx1.trans hw) hB) (Nat.le_trans hB1 hw.size) hsz sizeM_pos)
 have GC := hide (fun (hn : msize sizeM l ≤ 65536) => show ECalls Tryz.prog 68 #[v, .func (.func 69) #[] #[]] W1 (.bool (yes (∀ m, m ∈ l → MayM m))) from
   fun w' hw => allMdl_any _ enters_goodM MayM B l w' (fun y hy w3 cs hx h1 h2 => goodM_any B y w3 cs (hT.ext ((hx1.trans hw).trans hx)) h1 h2 (by have := msize_mem sizeM l y hy; omega) (hvx y hy)) v (HS.out.extRM (hx1.trans hw) hB) (Nat.le_trans hB1 hw.size) (by omega))
 have G2 := hide (show ECalls Tryz.prog 54 #[meas (msize sizeM l) (mdeep deepM l), .func (.func 67) #[] #[.pointer (some ⟨w.heap.size, 0, none⟩)]] W1 (.int .i64 (told (msize sizeM l) (mdeep deepM l) (yes (∀ m, m ∈ l → MayM m)))) from
   fun w' hw => told_any _ enters_closeF _ _ _ _ w' hsz (by omega) fun hn _ w2 hw2 => by
     have GG := hide (GC.out hn)
     obtain ⟨W3, hW3⟩ : ∃ W3, W3 = w2 := ⟨_, rfl⟩
     have hx3 : Ext W1 W3 := by rw [hW3]; exact hw.trans hw2
     have GG := hide (GG.out.later hx3)
     have c0 := cellL c0 hx3
     rw [← hW3]
     obtain ⟨e4, he4⟩ := Later.mk_ex (Ext.refl W3)
     generalize yes (∀ m, m ∈ l → MayM m) = bb at *
     suffices h : Calls Tryz.prog 67 #[.pointer (some ⟨w.heap.size, 0, none⟩)] e4.w fun e w' => e = .returned (.bool bb) ∧ Ext W3 w' by rw [← he4] at h; exact h
     clear hW3 he4 hV1 G1
     generalize w.heap.size = g at *
     go_enter Tryz.func67, Tryz.ntmps67
     go_wp2_with (go_at_call 68; refine (GG.out.at_ _).mono ?_; rintro _ _ ⟨rfl, e, rfl⟩)
     go_ret
     exact ⟨rfl, Later.ext _⟩)
 obtain ⟨sa, cap, rfl, -, -⟩ := hS
 unfold checkF
 by_cases h64 : 64 < l.length
 · rw [if_pos h64]
   have h64' : (64 : Int) < l.length := by omega
   clear hvx GC HS hT G1 G2 h64
   go_enter Tryz.func32, Tryz.ntmps32
   go_wp2_with fail
   go_ret
   exact ⟨rfl, hx1.trans (Later.ext _)⟩
 · rw [if_neg h64]
   have h64' : ¬ (64 : Int) < l.length := by omega
   obtain ⟨r, hr⟩ : ∃ r, r = told (msize sizeM l) (mdeep deepM l) (yes (∀ m, m ∈ l → MayM m)) := ⟨_, rfl⟩
   rw [← hr] at G2 ⊢
   clear hvx hr GC HS hT h64
   generalize msize sizeM l = s1 at *
   generalize mdeep deepM l = s2 at *
   obtain ⟨mm, hmm⟩ : ∃ mm, mm = meas s1 s2 := ⟨_, rfl⟩
   rw [← hmm] at G1 G2
   clear hmm
   go_enter Tryz.func32, Tryz.ntmps32
   go_wp2_with (first
     | (go_at_call 65; refine (G1.out.at_ _).mono ?_; rintro _ _ ⟨rfl, e, rfl⟩)
     | (go_at_call 54; refine (G2.out.at_ _).mono ?_; rintro _ _ ⟨rfl, e, rfl⟩))
   go_ret
   exact ⟨rfl, hx1.trans (Later.ext _)⟩
end Go.Proofs.YtjoglnjpgkobeaaGreatDoor
