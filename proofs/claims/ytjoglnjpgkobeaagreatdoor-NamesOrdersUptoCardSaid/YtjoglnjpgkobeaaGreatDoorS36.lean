import Derived.Test.YtjoglnjpgkobeaaGreatDoorProg
import Derived.Test.YtjoglnjpgkobeaaGreatDoorS35
set_option linter.all false
set_option linter.unusedVariables false
set_option linter.unusedSimpArgs false
namespace Go.Proofs.YtjoglnjpgkobeaaGreatDoor
open Go Go.RowKit
attribute [local go_sem] run_store_one
set_option maxRecDepth 20000 in
set_option maxHeartbeats 8000000 in
theorem refitem_0 (B : Nat) (x : Itm) (hl : RItemsOk B x.l) (he : RItemsOk B x.els) (hvx : VI x) (hlen : sizeI x ≤ 100000000) (hc : x.op < 1) : RItemOk B x := by
 intro w cs hR hB
 obtain ⟨v3, v4, v5, v6, v7, v8, rfl, hX, hSS, hL, hE, hP, hBb⟩ := RI_iff.1 hR
 have hse := sizeI_eq x
 obtain ⟨hz1, hz2, hv3, hv4, -, -, hv7, hv8⟩ := VI_iff.1 hvx
 have GT := fun w' (hw : Ext w w') => reftarget_any B x.x w' v3 (hX.extRX hw hB) (by have := length_le_msize sizeX x.x sizeX_pos; omega)
 have GT := ECalls.still GT
 have G1 : ECalls Tryz.prog 134 #[v3] w (.bool (yes (MayXs x.x))) := fun w' hw => refmayL_of B x.x (fun y hy w1 cs1 h1 h2 => refMayX_any B y w1 cs1 h1 h2 (by have := msize_mem sizeX x.x y hy; omega) (hv3 y hy)) w' v3 (hX.extRX hw hB) (Nat.le_trans hB hw.size) (by have := length_le_msize sizeX x.x sizeX_pos; omega)
 have G2 : ECalls Tryz.prog 140 #[v4] w (.bool (yes (MayAll x.s))) := fun w' hw => refMayAll_any B x.s hv4 (by omega) w' v4 (hSS.extRS hw hB) (Nat.le_trans hB hw.size)
 have G3 : ECalls Tryz.prog 115 #[v5] w (.bool (yes (∀ y, y ∈ x.l → MayI y))) := fun w' hw => hl w' v5 (hL.extRI hw hB) (Nat.le_trans hB hw.size)
 have G4 : ECalls Tryz.prog 115 #[v6] w (.bool (yes (∀ y, y ∈ x.els → MayI y))) := fun w' hw => he w' v6 (hE.extRI hw hB) (Nat.le_trans hB hw.size)
 have G5 : ECalls Tryz.prog 114 #[v7] w (.bool (yes (∀ y, y ∈ x.params → MayB y))) := fun w' hw => refbinds_any B x.params w' v7 (hP.extRB hw hB) (Nat.le_trans hB hw.size) hv7 (by omega)
 have G6 : ECalls Tryz.prog 114 #[v8] w (.bool (yes (∀ y, y ∈ x.binds → MayB y))) := fun w' hw => refbinds_any B x.binds w' v8 (hBb.extRB hw hB) (Nat.le_trans hB hw.size) hv8 (by omega)
 obtain ⟨a3, c3x, rfl, -, -⟩ := hX
 obtain ⟨a4, c4x, rfl, -, -⟩ := hSS
 obtain ⟨a5, c5x, rfl, -, -⟩ := hL
 obtain ⟨a6, c6x, rfl, -, -⟩ := hE
 obtain ⟨a7, c7x, rfl, -, -⟩ := hP
 obtain ⟨a8, c8x, rfl, -, -⟩ := hBb
 clear hR hse hz1 hz2 hv3 hv4 hv7 hv8 hl he hvx hlen hB
 have R := hide (show yes (MayI x) = false from yes_no.2 fun h => by obtain ⟨⟨h1, h2, -⟩, -⟩ := MayI_iff.1 h; omega)
 generalize yes (isTargets x.x) = bt at *
 generalize x.name = nm at *
 generalize x.of = of at *
 generalize yes (MayI x) = r at *
 have hop : x.op < 1 := hc
 clear hc
 try clear ho
 generalize x.op = op at *
 generalize x.x.length = xl at *
 generalize x.s.length = ns at *
 generalize x.l.length = nl at *
 generalize x.els.length = nels at *
 generalize x.params.length = nparams at *
 generalize x.binds.length = nbinds at *
 have hd1 : decide (op < 1) = true := decide_eq_true hop
 clear hop
 obtain ⟨W1, hV1, hx1, c0, c1, c2, c3, c4, c5, c6, c7, c8⟩ := boxE9 w (.int .i64 op) (.string nm) (.string of) (.slice a3 xl c3x) (.slice a4 ns c4x) (.slice a5 nl c5x) (.slice a6 nels c6x) (.slice a7 nparams c7x) (.slice a8 nbinds c8x) 53
 obtain ⟨W2, hV2, hx2, hcn⟩ := boxE11 W1
 have hx := hx1.trans hx2
 have c0 := cellL c0 hx2
 have c1 := cellL c1 hx2
 have c2 := cellL c2 hx2
 have c3 := cellL c3 hx2
 have c4 := cellL c4 hx2
 have c5 := cellL c5 hx2
 have c6 := cellL c6 hx2
 have c7 := cellL c7 hx2
 have c8 := cellL c8 hx2
 clear hcn
 have GT := hide (GT.later hx)
 clear G1 G2 G3 G4 G5 G6
 have HX := hide hx
 clear hx hx1 hx2
 go_enter Tryz.func135, Tryz.ntmps135
 go_wp2_with fail
 refine wp_region_facts_n (W := W2) (eqF [.pointer (some ⟨w.heap.size, 0, none⟩), .int .i64 op, .bool true, .bool true, undef, undef, undef, .bool true, .bool true, undef, undef, undef, .bool true, .bool true, undef, undef, undef, undef, undef, undef, undef, undef, undef, .bool true, .bool true, undef, undef, undef, undef, undef, undef, undef, undef, undef, .bool true]) (fun i => match i with | 4 | 5 | 6 | 9 | 10 | 11 | 14 | 15 | 16 | 17 | 18 | 19 | 20 | 21 | 22 | 25 | 26 | 27 | 28 | 29 | 30 | 31 | 32 | 33 => false | _ => true) (by kernel_rfl) (by kernel_rfl) ?_ (Ext.refl _) (fun i v w w' h hx => eqF_ext h hx) ?_ ?_
 · simp [GuardsSay, eqF] <;> (intro h; cases h)
 · refine ⟨?_, ?_, ?_, ?_, ?_, ?_, ?_, ?_, ?_, ?_, ?_, ?_, ?_, ?_, ?_, ?_, ?_, ?_, ?_, ?_, ?_, ?_, ?_, ?_, ?_, ?_, ?_, ?_, ?_, ?_, ?_, ?_, ?_, ?_, ?_, trivial⟩
   · intro A wa hxa hd h0
     obtain ⟨ea, rfl⟩ := Later.mk_ex hxa
     have r1 := rest_at h0 1 (by kernel_rfl)
     simp at r1
     clear hd h0
     go_simp
     first | exact ⟨_, rfl, Ext.refl _, rfl⟩ | exact ⟨Ext.refl _, rfl⟩ | exact rfl | exact ⟨_, rfl, rfl⟩ | exact Ext.refl _ | (trace_state; fail)
   · intro A wa hxa hd h0
     obtain ⟨ea, rfl⟩ := Later.mk_ex hxa
     have q0 := depOn hd 0 5 (by kernel_rfl) rfl
     simp [eqF] at q0
     clear hd h0
     go_simp
     first | exact ⟨_, rfl, Ext.refl _, rfl⟩ | exact ⟨Ext.refl _, rfl⟩ | exact rfl | exact ⟨_, rfl, rfl⟩ | exact Ext.refl _ | (trace_state; fail)
   · intro A wa hxa hd h0
     obtain ⟨ea, rfl⟩ := Later.mk_ex hxa
     have q1 := depOn hd 1 6 (by kernel_rfl) rfl
     simp [eqF] at q1
     clear hd h0
     go_simp
     first | exact ⟨_, rfl, Ext.refl _, rfl⟩ | exact ⟨Ext.refl _, rfl⟩ | exact rfl | exact ⟨_, rfl, rfl⟩ | exact Ext.refl _ | (trace_state; fail)
   · intro A wa hxa hd h0
     obtain ⟨ea, rfl⟩ := Later.mk_ex hxa
     have q2 := depOn hd 2 7 (by kernel_rfl) rfl
     simp [eqF] at q2
     clear hd h0
     go_simp
     first | exact ⟨_, rfl, Ext.refl _, rfl⟩ | exact ⟨Ext.refl _, rfl⟩ | exact rfl | exact ⟨_, rfl, rfl⟩ | exact Ext.refl _ | (trace_state; fail)
   · exact fun w => rfl
   · exact fun w => rfl
   · exact fun w => rfl
   · intro A wa hxa hd h0
     obtain ⟨ea, rfl⟩ := Later.mk_ex hxa
     have q3 := depOn hd 3 8 (by kernel_rfl) rfl
     simp [eqF] at q3
     have q6 := depOn hd 6 11 (by kernel_rfl) rfl
     simp [eqF] at q6
     clear hd h0
     go_simp
     first | exact ⟨_, rfl, Ext.refl _, rfl⟩ | exact ⟨Ext.refl _, rfl⟩ | exact rfl | exact ⟨_, rfl, rfl⟩ | exact Ext.refl _ | (trace_state; fail)
   · intro A wa hxa hd h0
     obtain ⟨ea, rfl⟩ := Later.mk_ex hxa
     have q7 := depOn hd 7 12 (by kernel_rfl) rfl
     simp [eqF] at q7
     clear hd h0
     go_simp
     first | exact ⟨_, rfl, Ext.refl _, rfl⟩ | exact ⟨Ext.refl _, rfl⟩ | exact rfl | exact ⟨_, rfl, rfl⟩ | exact Ext.refl _ | (trace_state; fail)
   · exact fun w => rfl
   · exact fun w => rfl
   · exact fun w => rfl
   · intro A wa hxa hd h0
     obtain ⟨ea, rfl⟩ := Later.mk_ex hxa
     have q8 := depOn hd 8 13 (by kernel_rfl) rfl
     simp [eqF] at q8
     have q11 := depOn hd 11 16 (by kernel_rfl) rfl
     simp [eqF] at q11
     clear hd h0
     go_simp
     first | exact ⟨_, rfl, Ext.refl _, rfl⟩ | exact ⟨Ext.refl _, rfl⟩ | exact rfl | exact ⟨_, rfl, rfl⟩ | exact Ext.refl _ | (trace_state; fail)
   · intro A wa hxa hd h0
     obtain ⟨ea, rfl⟩ := Later.mk_ex hxa
     have q12 := depOn hd 12 17 (by kernel_rfl) rfl
     simp [eqF] at q12
     clear hd h0
     go_simp
     first | exact ⟨_, rfl, Ext.refl _, rfl⟩ | exact ⟨Ext.refl _, rfl⟩ | exact rfl | exact ⟨_, rfl, rfl⟩ | exact Ext.refl _ | (trace_state; fail)
   · exact fun w => rfl
   · exact fun w => rfl
   · exact fun w => rfl
   · exact fun w => rfl
   · exact fun w => rfl
   · exact fun w => rfl
   · exact fun w => rfl
   · exact fun w => rfl
   · exact fun w => rfl
   · intro A wa hxa hd h0
     obtain ⟨ea, rfl⟩ := Later.mk_ex hxa
     have q13 := depOn hd 13 18 (by kernel_rfl) rfl
     simp [eqF] at q13
     have q22 := depOn hd 22 27 (by kernel_rfl) rfl
     simp [eqF] at q22
     clear hd h0
     go_simp
     first | exact ⟨_, rfl, Ext.refl _, rfl⟩ | exact ⟨Ext.refl _, rfl⟩ | exact rfl | exact ⟨_, rfl, rfl⟩ | exact Ext.refl _ | (trace_state; fail)
   · intro A wa hxa hd h0
     obtain ⟨ea, rfl⟩ := Later.mk_ex hxa
     have q23 := depOn hd 23 28 (by kernel_rfl) rfl
     simp [eqF] at q23
     clear hd h0
     go_simp
     first | exact ⟨_, rfl, Ext.refl _, rfl⟩ | exact ⟨Ext.refl _, rfl⟩ | exact rfl | exact ⟨_, rfl, rfl⟩ | exact Ext.refl _ | (trace_state; fail)
   · exact fun w => rfl
   · exact fun w => rfl
   · exact fun w => rfl
   · exact fun w => rfl
   · exact fun w => rfl
   · exact fun w => rfl
   · exact fun w => rfl
   · exact fun w => rfl
   · exact fun w => rfl
   · intro A wa hxa hd h0
     obtain ⟨ea, rfl⟩ := Later.mk_ex hxa
     have q24 := depOn hd 24 29 (by kernel_rfl) rfl
     simp [eqF] at q24
     have q33 := depOn hd 33 38 (by kernel_rfl) rfl
     simp [eqF] at q33
     clear hd h0
     go_simp
     first | exact ⟨_, rfl, Ext.refl _, rfl⟩ | exact ⟨Ext.refl _, rfl⟩ | exact rfl | exact ⟨_, rfl, rfl⟩ | exact Ext.refl _ | (trace_state; fail)
 · intro A wa hk
   obtain ⟨hxa, hsz, hdf, hdn, hrs⟩ := hk
   obtain ⟨ea, rfl⟩ := Later.mk_ex hxa
   have k0 := rest_at hrs 0 (by kernel_rfl)
   simp at k0
   have k1 := rest_at hrs 1 (by kernel_rfl)
   simp at k1
   have k2 := rest_at hrs 2 (by kernel_rfl)
   simp at k2
   have k3 := rest_at hrs 3 (by kernel_rfl)
   simp at k3
   have k39 : A.tmps.getD 39 undef = .bool true := hdn 34 39 rfl rfl
   clear hdn hrs
   rw [act_lit hsz hdf]
   simp [List.range, List.range.loop] at k0 k1 k2 k3 k39
   simp [List.range, List.range.loop, k0, k1, k2, k3, k39]
   clear k0 k1 k2 k3 k39 hsz hdf
   generalize A.tmps[4]?.getD undef = A4 at *
   generalize A.tmps[5]?.getD undef = A5 at *
   generalize A.tmps[6]?.getD undef = A6 at *
   generalize A.tmps[7]?.getD undef = A7 at *
   generalize A.tmps[8]?.getD undef = A8 at *
   generalize A.tmps[9]?.getD undef = A9 at *
   generalize A.tmps[10]?.getD undef = A10 at *
   generalize A.tmps[11]?.getD undef = A11 at *
   generalize A.tmps[12]?.getD undef = A12 at *
   generalize A.tmps[13]?.getD undef = A13 at *
   generalize A.tmps[14]?.getD undef = A14 at *
   generalize A.tmps[15]?.getD undef = A15 at *
   generalize A.tmps[16]?.getD undef = A16 at *
   generalize A.tmps[17]?.getD undef = A17 at *
   generalize A.tmps[18]?.getD undef = A18 at *
   generalize A.tmps[19]?.getD undef = A19 at *
   generalize A.tmps[20]?.getD undef = A20 at *
   generalize A.tmps[21]?.getD undef = A21 at *
   generalize A.tmps[22]?.getD undef = A22 at *
   generalize A.tmps[23]?.getD undef = A23 at *
   generalize A.tmps[24]?.getD undef = A24 at *
   generalize A.tmps[25]?.getD undef = A25 at *
   generalize A.tmps[26]?.getD undef = A26 at *
   generalize A.tmps[27]?.getD undef = A27 at *
   generalize A.tmps[28]?.getD undef = A28 at *
   generalize A.tmps[29]?.getD undef = A29 at *
   generalize A.tmps[30]?.getD undef = A30 at *
   generalize A.tmps[31]?.getD undef = A31 at *
   generalize A.tmps[32]?.getD undef = A32 at *
   generalize A.tmps[33]?.getD undef = A33 at *
   generalize A.tmps[34]?.getD undef = A34 at *
   generalize A.tmps[35]?.getD undef = A35 at *
   generalize A.tmps[36]?.getD undef = A36 at *
   generalize A.tmps[37]?.getD undef = A37 at *
   generalize A.tmps[38]?.getD undef = A38 at *
   generalize A.tmps[40]?.getD undef = A40 at *
   generalize A.tmps[41]?.getD undef = A41 at *
   generalize A.tmps[42]?.getD undef = A42 at *
   generalize A.tmps[43]?.getD undef = A43 at *
   generalize A.tmps[44]?.getD undef = A44 at *
   generalize A.tmps[45]?.getD undef = A45 at *
   generalize A.tmps[46]?.getD undef = A46 at *
   generalize A.tmps[47]?.getD undef = A47 at *
   generalize A.tmps[48]?.getD undef = A48 at *
   generalize A.tmps[49]?.getD undef = A49 at *
   generalize A.tmps[50]?.getD undef = A50 at *
   generalize A.tmps[51]?.getD undef = A51 at *
   generalize A.tmps[52]?.getD undef = A52 at *
   generalize A.tmps[53]?.getD undef = A53 at *
   generalize A.tmps[54]?.getD undef = A54 at *
   generalize A.tmps[55]?.getD undef = A55 at *
   generalize A.tmps[56]?.getD undef = A56 at *
   generalize A.tmps[57]?.getD undef = A57 at *
   generalize A.tmps[58]?.getD undef = A58 at *
   generalize A.tmps[59]?.getD undef = A59 at *
   generalize A.tmps[60]?.getD undef = A60 at *
   generalize A.tmps[61]?.getD undef = A61 at *
   generalize A.tmps[62]?.getD undef = A62 at *
   generalize A.tmps[63]?.getD undef = A63 at *
   generalize A.tmps[64]?.getD undef = A64 at *
   generalize A.tmps[65]?.getD undef = A65 at *
   generalize A.tmps[66]?.getD undef = A66 at *
   generalize A.tmps[67]?.getD undef = A67 at *
   go_wp2_with fail
   go_ret
   exact ⟨by rw [R.out]; rfl, HX.out.trans ea.ext⟩
set_option maxRecDepth 20000 in
set_option maxHeartbeats 8000000 in
theorem refitem_2 (B : Nat) (x : Itm) (hl : RItemsOk B x.l) (he : RItemsOk B x.els) (hvx : VI x) (hlen : sizeI x ≤ 100000000) (hc : 10 < x.op) : RItemOk B x := by
 intro w cs hR hB
 obtain ⟨v3, v4, v5, v6, v7, v8, rfl, hX, hSS, hL, hE, hP, hBb⟩ := RI_iff.1 hR
 have hse := sizeI_eq x
 obtain ⟨hz1, hz2, hv3, hv4, -, -, hv7, hv8⟩ := VI_iff.1 hvx
 have GT := fun w' (hw : Ext w w') => reftarget_any B x.x w' v3 (hX.extRX hw hB) (by have := length_le_msize sizeX x.x sizeX_pos; omega)
 have GT := ECalls.still GT
 have G1 : ECalls Tryz.prog 134 #[v3] w (.bool (yes (MayXs x.x))) := fun w' hw => refmayL_of B x.x (fun y hy w1 cs1 h1 h2 => refMayX_any B y w1 cs1 h1 h2 (by have := msize_mem sizeX x.x y hy; omega) (hv3 y hy)) w' v3 (hX.extRX hw hB) (Nat.le_trans hB hw.size) (by have := length_le_msize sizeX x.x sizeX_pos; omega)
 have G2 : ECalls Tryz.prog 140 #[v4] w (.bool (yes (MayAll x.s))) := fun w' hw => refMayAll_any B x.s hv4 (by omega) w' v4 (hSS.extRS hw hB) (Nat.le_trans hB hw.size)
 have G3 : ECalls Tryz.prog 115 #[v5] w (.bool (yes (∀ y, y ∈ x.l → MayI y))) := fun w' hw => hl w' v5 (hL.extRI hw hB) (Nat.le_trans hB hw.size)
 have G4 : ECalls Tryz.prog 115 #[v6] w (.bool (yes (∀ y, y ∈ x.els → MayI y))) := fun w' hw => he w' v6 (hE.extRI hw hB) (Nat.le_trans hB hw.size)
 have G5 : ECalls Tryz.prog 114 #[v7] w (.bool (yes (∀ y, y ∈ x.params → MayB y))) := fun w' hw => refbinds_any B x.params w' v7 (hP.extRB hw hB) (Nat.le_trans hB hw.size) hv7 (by omega)
 have G6 : ECalls Tryz.prog 114 #[v8] w (.bool (yes (∀ y, y ∈ x.binds → MayB y))) := fun w' hw => refbinds_any B x.binds w' v8 (hBb.extRB hw hB) (Nat.le_trans hB hw.size) hv8 (by omega)
 obtain ⟨a3, c3x, rfl, -, -⟩ := hX
 obtain ⟨a4, c4x, rfl, -, -⟩ := hSS
 obtain ⟨a5, c5x, rfl, -, -⟩ := hL
 obtain ⟨a6, c6x, rfl, -, -⟩ := hE
 obtain ⟨a7, c7x, rfl, -, -⟩ := hP
 obtain ⟨a8, c8x, rfl, -, -⟩ := hBb
 clear hR hse hz1 hz2 hv3 hv4 hv7 hv8 hl he hvx hlen hB
 have R := hide (show yes (MayI x) = false from yes_no.2 fun h => by obtain ⟨⟨h1, h2, -⟩, -⟩ := MayI_iff.1 h; omega)
 generalize yes (isTargets x.x) = bt at *
 generalize x.name = nm at *
 generalize x.of = of at *
 generalize yes (MayI x) = r at *
 have hop : ¬ x.op < 1 ∧ 10 < x.op := by omega
 obtain ⟨hop1, hop2⟩ := hop
 clear hc
 try clear ho
 generalize x.op = op at *
 generalize x.x.length = xl at *
 generalize x.s.length = ns at *
 generalize x.l.length = nl at *
 generalize x.els.length = nels at *
 generalize x.params.length = nparams at *
 generalize x.binds.length = nbinds at *
 have hd1 : decide (op < 1) = false := decide_eq_false hop1
 have hd2 : decide (10 < op) = true := decide_eq_true hop2
 clear hop1 hop2
 obtain ⟨W1, hV1, hx1, c0, c1, c2, c3, c4, c5, c6, c7, c8⟩ := boxE9 w (.int .i64 op) (.string nm) (.string of) (.slice a3 xl c3x) (.slice a4 ns c4x) (.slice a5 nl c5x) (.slice a6 nels c6x) (.slice a7 nparams c7x) (.slice a8 nbinds c8x) 53
 obtain ⟨W2, hV2, hx2, hcn⟩ := boxE11 W1
 have hx := hx1.trans hx2
 have c0 := cellL c0 hx2
 have c1 := cellL c1 hx2
 have c2 := cellL c2 hx2
 have c3 := cellL c3 hx2
 have c4 := cellL c4 hx2
 have c5 := cellL c5 hx2
 have c6 := cellL c6 hx2
 have c7 := cellL c7 hx2
 have c8 := cellL c8 hx2
 clear hcn
 have GT := hide (GT.later hx)
 clear G1 G2 G3 G4 G5 G6
 have HX := hide hx
 clear hx hx1 hx2
 go_enter Tryz.func135, Tryz.ntmps135
 go_wp2_with fail
 refine wp_region_facts_n (W := W2) (eqF [.pointer (some ⟨w.heap.size, 0, none⟩), .int .i64 op, .bool false, .bool false, .pointer (some ⟨w.heap.size, 0, none⟩), .int .i64 op, .bool true, .bool true, .bool true, undef, undef, undef, .bool true, .bool true, undef, undef, undef, undef, undef, undef, undef, undef, undef, .bool true, .bool true, undef, undef, undef, undef, undef, undef, undef, undef, undef, .bool true]) (fun i => match i with | 9 | 10 | 11 | 14 | 15 | 16 | 17 | 18 | 19 | 20 | 21 | 22 | 25 | 26 | 27 | 28 | 29 | 30 | 31 | 32 | 33 => false | _ => true) (by kernel_rfl) (by kernel_rfl) ?_ (Ext.refl _) (fun i v w w' h hx => eqF_ext h hx) ?_ ?_
 · simp [GuardsSay, eqF] <;> (intro h; cases h)
 · refine ⟨?_, ?_, ?_, ?_, ?_, ?_, ?_, ?_, ?_, ?_, ?_, ?_, ?_, ?_, ?_, ?_, ?_, ?_, ?_, ?_, ?_, ?_, ?_, ?_, ?_, ?_, ?_, ?_, ?_, ?_, ?_, ?_, ?_, ?_, ?_, trivial⟩
   · intro A wa hxa hd h0
     obtain ⟨ea, rfl⟩ := Later.mk_ex hxa
     have r1 := rest_at h0 1 (by kernel_rfl)
     simp at r1
     clear hd h0
     go_simp
     first | exact ⟨_, rfl, Ext.refl _, rfl⟩ | exact ⟨Ext.refl _, rfl⟩ | exact rfl | exact ⟨_, rfl, rfl⟩ | exact Ext.refl _ | (trace_state; fail)
   · intro A wa hxa hd h0
     obtain ⟨ea, rfl⟩ := Later.mk_ex hxa
     have q0 := depOn hd 0 5 (by kernel_rfl) rfl
     simp [eqF] at q0
     clear hd h0
     go_simp
     first | exact ⟨_, rfl, Ext.refl _, rfl⟩ | exact ⟨Ext.refl _, rfl⟩ | exact rfl | exact ⟨_, rfl, rfl⟩ | exact Ext.refl _ | (trace_state; fail)
   · intro A wa hxa hd h0
     obtain ⟨ea, rfl⟩ := Later.mk_ex hxa
     have q1 := depOn hd 1 6 (by kernel_rfl) rfl
     simp [eqF] at q1
     clear hd h0
     go_simp
     first | exact ⟨_, rfl, Ext.refl _, rfl⟩ | exact ⟨Ext.refl _, rfl⟩ | exact rfl | exact ⟨_, rfl, rfl⟩ | exact Ext.refl _ | (trace_state; fail)
   · intro A wa hxa hd h0
     obtain ⟨ea, rfl⟩ := Later.mk_ex hxa
     have q2 := depOn hd 2 7 (by kernel_rfl) rfl
     simp [eqF] at q2
     clear hd h0
     go_simp
     first | exact ⟨_, rfl, Ext.refl _, rfl⟩ | exact ⟨Ext.refl _, rfl⟩ | exact rfl | exact ⟨_, rfl, rfl⟩ | exact Ext.refl _ | (trace_state; fail)
   · intro A wa hxa hd h0
     obtain ⟨ea, rfl⟩ := Later.mk_ex hxa
     have r1 := rest_at h0 1 (by kernel_rfl)
     simp at r1
     clear hd h0
     go_simp
     first | exact ⟨_, rfl, Ext.refl _, rfl⟩ | exact ⟨Ext.refl _, rfl⟩ | exact rfl | exact ⟨_, rfl, rfl⟩ | exact Ext.refl _ | (trace_state; fail)
   · intro A wa hxa hd h0
     obtain ⟨ea, rfl⟩ := Later.mk_ex hxa
     have q4 := depOn hd 4 9 (by kernel_rfl) rfl
     simp [eqF] at q4
     clear hd h0
     go_simp
     first | exact ⟨_, rfl, Ext.refl _, rfl⟩ | exact ⟨Ext.refl _, rfl⟩ | exact rfl | exact ⟨_, rfl, rfl⟩ | exact Ext.refl _ | (trace_state; fail)
   · intro A wa hxa hd h0
     obtain ⟨ea, rfl⟩ := Later.mk_ex hxa
     have q5 := depOn hd 5 10 (by kernel_rfl) rfl
     simp [eqF] at q5
     clear hd h0
     go_simp
     first | exact ⟨_, rfl, Ext.refl _, rfl⟩ | exact ⟨Ext.refl _, rfl⟩ | exact rfl | exact ⟨_, rfl, rfl⟩ | exact Ext.refl _ | (trace_state; fail)
   · intro A wa hxa hd h0
     obtain ⟨ea, rfl⟩ := Later.mk_ex hxa
     have q3 := depOn hd 3 8 (by kernel_rfl) rfl
     simp [eqF] at q3
     have q6 := depOn hd 6 11 (by kernel_rfl) rfl
     simp [eqF] at q6
     clear hd h0
     go_simp
     first | exact ⟨_, rfl, Ext.refl _, rfl⟩ | exact ⟨Ext.refl _, rfl⟩ | exact rfl | exact ⟨_, rfl, rfl⟩ | exact Ext.refl _ | (trace_state; fail)
   · intro A wa hxa hd h0
     obtain ⟨ea, rfl⟩ := Later.mk_ex hxa
     have q7 := depOn hd 7 12 (by kernel_rfl) rfl
     simp [eqF] at q7
     clear hd h0
     go_simp
     first | exact ⟨_, rfl, Ext.refl _, rfl⟩ | exact ⟨Ext.refl _, rfl⟩ | exact rfl | exact ⟨_, rfl, rfl⟩ | exact Ext.refl _ | (trace_state; fail)
   · exact fun w => rfl
   · exact fun w => rfl
   · exact fun w => rfl
   · intro A wa hxa hd h0
     obtain ⟨ea, rfl⟩ := Later.mk_ex hxa
     have q8 := depOn hd 8 13 (by kernel_rfl) rfl
     simp [eqF] at q8
     have q11 := depOn hd 11 16 (by kernel_rfl) rfl
     simp [eqF] at q11
     clear hd h0
     go_simp
     first | exact ⟨_, rfl, Ext.refl _, rfl⟩ | exact ⟨Ext.refl _, rfl⟩ | exact rfl | exact ⟨_, rfl, rfl⟩ | exact Ext.refl _ | (trace_state; fail)
   · intro A wa hxa hd h0
     obtain ⟨ea, rfl⟩ := Later.mk_ex hxa
     have q12 := depOn hd 12 17 (by kernel_rfl) rfl
     simp [eqF] at q12
     clear hd h0
     go_simp
     first | exact ⟨_, rfl, Ext.refl _, rfl⟩ | exact ⟨Ext.refl _, rfl⟩ | exact rfl | exact ⟨_, rfl, rfl⟩ | exact Ext.refl _ | (trace_state; fail)
   · exact fun w => rfl
   · exact fun w => rfl
   · exact fun w => rfl
   · exact fun w => rfl
   · exact fun w => rfl
   · exact fun w => rfl
   · exact fun w => rfl
   · exact fun w => rfl
   · exact fun w => rfl
   · intro A wa hxa hd h0
     obtain ⟨ea, rfl⟩ := Later.mk_ex hxa
     have q13 := depOn hd 13 18 (by kernel_rfl) rfl
     simp [eqF] at q13
     have q22 := depOn hd 22 27 (by kernel_rfl) rfl
     simp [eqF] at q22
     clear hd h0
     go_simp
     first | exact ⟨_, rfl, Ext.refl _, rfl⟩ | exact ⟨Ext.refl _, rfl⟩ | exact rfl | exact ⟨_, rfl, rfl⟩ | exact Ext.refl _ | (trace_state; fail)
   · intro A wa hxa hd h0
     obtain ⟨ea, rfl⟩ := Later.mk_ex hxa
     have q23 := depOn hd 23 28 (by kernel_rfl) rfl
     simp [eqF] at q23
     clear hd h0
     go_simp
     first | exact ⟨_, rfl, Ext.refl _, rfl⟩ | exact ⟨Ext.refl _, rfl⟩ | exact rfl | exact ⟨_, rfl, rfl⟩ | exact Ext.refl _ | (trace_state; fail)
   · exact fun w => rfl
   · exact fun w => rfl
   · exact fun w => rfl
   · exact fun w => rfl
   · exact fun w => rfl
   · exact fun w => rfl
   · exact fun w => rfl
   · exact fun w => rfl
   · exact fun w => rfl
   · intro A wa hxa hd h0
     obtain ⟨ea, rfl⟩ := Later.mk_ex hxa
     have q24 := depOn hd 24 29 (by kernel_rfl) rfl
     simp [eqF] at q24
     have q33 := depOn hd 33 38 (by kernel_rfl) rfl
     simp [eqF] at q33
     clear hd h0
     go_simp
     first | exact ⟨_, rfl, Ext.refl _, rfl⟩ | exact ⟨Ext.refl _, rfl⟩ | exact rfl | exact ⟨_, rfl, rfl⟩ | exact Ext.refl _ | (trace_state; fail)
 · intro A wa hk
   obtain ⟨hxa, hsz, hdf, hdn, hrs⟩ := hk
   obtain ⟨ea, rfl⟩ := Later.mk_ex hxa
   have k0 := rest_at hrs 0 (by kernel_rfl)
   simp at k0
   have k1 := rest_at hrs 1 (by kernel_rfl)
   simp at k1
   have k2 := rest_at hrs 2 (by kernel_rfl)
   simp at k2
   have k3 := rest_at hrs 3 (by kernel_rfl)
   simp at k3
   have k39 : A.tmps.getD 39 undef = .bool true := hdn 34 39 rfl rfl
   clear hdn hrs
   rw [act_lit hsz hdf]
   simp [List.range, List.range.loop] at k0 k1 k2 k3 k39
   simp [List.range, List.range.loop, k0, k1, k2, k3, k39]
   clear k0 k1 k2 k3 k39 hsz hdf
   generalize A.tmps[4]?.getD undef = A4 at *
   generalize A.tmps[5]?.getD undef = A5 at *
   generalize A.tmps[6]?.getD undef = A6 at *
   generalize A.tmps[7]?.getD undef = A7 at *
   generalize A.tmps[8]?.getD undef = A8 at *
   generalize A.tmps[9]?.getD undef = A9 at *
   generalize A.tmps[10]?.getD undef = A10 at *
   generalize A.tmps[11]?.getD undef = A11 at *
   generalize A.tmps[12]?.getD undef = A12 at *
   generalize A.tmps[13]?.getD undef = A13 at *
   generalize A.tmps[14]?.getD undef = A14 at *
   generalize A.tmps[15]?.getD undef = A15 at *
   generalize A.tmps[16]?.getD undef = A16 at *
   generalize A.tmps[17]?.getD undef = A17 at *
   generalize A.tmps[18]?.getD undef = A18 at *
   generalize A.tmps[19]?.getD undef = A19 at *
   generalize A.tmps[20]?.getD undef = A20 at *
   generalize A.tmps[21]?.getD undef = A21 at *
   generalize A.tmps[22]?.getD undef = A22 at *
   generalize A.tmps[23]?.getD undef = A23 at *
   generalize A.tmps[24]?.getD undef = A24 at *
   generalize A.tmps[25]?.getD undef = A25 at *
   generalize A.tmps[26]?.getD undef = A26 at *
   generalize A.tmps[27]?.getD undef = A27 at *
   generalize A.tmps[28]?.getD undef = A28 at *
   generalize A.tmps[29]?.getD undef = A29 at *
   generalize A.tmps[30]?.getD undef = A30 at *
   generalize A.tmps[31]?.getD undef = A31 at *
   generalize A.tmps[32]?.getD undef = A32 at *
   generalize A.tmps[33]?.getD undef = A33 at *
   generalize A.tmps[34]?.getD undef = A34 at *
   generalize A.tmps[35]?.getD undef = A35 at *
   generalize A.tmps[36]?.getD undef = A36 at *
   generalize A.tmps[37]?.getD undef = A37 at *
   generalize A.tmps[38]?.getD undef = A38 at *
   generalize A.tmps[40]?.getD undef = A40 at *
   generalize A.tmps[41]?.getD undef = A41 at *
   generalize A.tmps[42]?.getD undef = A42 at *
   generalize A.tmps[43]?.getD undef = A43 at *
   generalize A.tmps[44]?.getD undef = A44 at *
   generalize A.tmps[45]?.getD undef = A45 at *
   generalize A.tmps[46]?.getD undef = A46 at *
   generalize A.tmps[47]?.getD undef = A47 at *
   generalize A.tmps[48]?.getD undef = A48 at *
   generalize A.tmps[49]?.getD undef = A49 at *
   generalize A.tmps[50]?.getD undef = A50 at *
   generalize A.tmps[51]?.getD undef = A51 at *
   generalize A.tmps[52]?.getD undef = A52 at *
   generalize A.tmps[53]?.getD undef = A53 at *
   generalize A.tmps[54]?.getD undef = A54 at *
   generalize A.tmps[55]?.getD undef = A55 at *
   generalize A.tmps[56]?.getD undef = A56 at *
   generalize A.tmps[57]?.getD undef = A57 at *
   generalize A.tmps[58]?.getD undef = A58 at *
   generalize A.tmps[59]?.getD undef = A59 at *
   generalize A.tmps[60]?.getD undef = A60 at *
   generalize A.tmps[61]?.getD undef = A61 at *
   generalize A.tmps[62]?.getD undef = A62 at *
   generalize A.tmps[63]?.getD undef = A63 at *
   generalize A.tmps[64]?.getD undef = A64 at *
   generalize A.tmps[65]?.getD undef = A65 at *
   generalize A.tmps[66]?.getD undef = A66 at *
   generalize A.tmps[67]?.getD undef = A67 at *
   go_wp2_with fail
   go_ret
   exact ⟨by rw [R.out]; rfl, HX.out.trans ea.ext⟩
set_option maxRecDepth 20000 in
set_option maxHeartbeats 8000000 in
theorem refitem_3 (B : Nat) (x : Itm) (hl : RItemsOk B x.l) (he : RItemsOk B x.els) (hvx : VI x) (hlen : sizeI x ≤ 100000000) (hc : 1 ≤ x.op ∧ x.op ≤ 10 ∧ ¬ onlyP x) : RItemOk B x := by
 intro w cs hR hB
 obtain ⟨v3, v4, v5, v6, v7, v8, rfl, hX, hSS, hL, hE, hP, hBb⟩ := RI_iff.1 hR
 have hse := sizeI_eq x
 obtain ⟨hz1, hz2, hv3, hv4, -, -, hv7, hv8⟩ := VI_iff.1 hvx
 have hbd : 1 ≤ x.op ∧ x.op ≤ 10 := ⟨hc.1, hc.2.1⟩
 have GO := fun w' (hw : Ext w w') => refonly_any B x w' _ (hR.ext hw hB) (Nat.le_trans hB hw.size) hz1 hz2 hlen hbd.1 hbd.2
 have GT := fun w' (hw : Ext w w') => reftarget_any B x.x w' v3 (hX.extRX hw hB) (by have := length_le_msize sizeX x.x sizeX_pos; omega)
 have GT := ECalls.still GT
 have G1 : ECalls Tryz.prog 134 #[v3] w (.bool (yes (MayXs x.x))) := fun w' hw => refmayL_of B x.x (fun y hy w1 cs1 h1 h2 => refMayX_any B y w1 cs1 h1 h2 (by have := msize_mem sizeX x.x y hy; omega) (hv3 y hy)) w' v3 (hX.extRX hw hB) (Nat.le_trans hB hw.size) (by have := length_le_msize sizeX x.x sizeX_pos; omega)
 have G2 : ECalls Tryz.prog 140 #[v4] w (.bool (yes (MayAll x.s))) := fun w' hw => refMayAll_any B x.s hv4 (by omega) w' v4 (hSS.extRS hw hB) (Nat.le_trans hB hw.size)
 have G3 : ECalls Tryz.prog 115 #[v5] w (.bool (yes (∀ y, y ∈ x.l → MayI y))) := fun w' hw => hl w' v5 (hL.extRI hw hB) (Nat.le_trans hB hw.size)
 have G4 : ECalls Tryz.prog 115 #[v6] w (.bool (yes (∀ y, y ∈ x.els → MayI y))) := fun w' hw => he w' v6 (hE.extRI hw hB) (Nat.le_trans hB hw.size)
 have G5 : ECalls Tryz.prog 114 #[v7] w (.bool (yes (∀ y, y ∈ x.params → MayB y))) := fun w' hw => refbinds_any B x.params w' v7 (hP.extRB hw hB) (Nat.le_trans hB hw.size) hv7 (by omega)
 have G6 : ECalls Tryz.prog 114 #[v8] w (.bool (yes (∀ y, y ∈ x.binds → MayB y))) := fun w' hw => refbinds_any B x.binds w' v8 (hBb.extRB hw hB) (Nat.le_trans hB hw.size) hv8 (by omega)
 obtain ⟨a3, c3x, rfl, -, -⟩ := hX
 obtain ⟨a4, c4x, rfl, -, -⟩ := hSS
 obtain ⟨a5, c5x, rfl, -, -⟩ := hL
 obtain ⟨a6, c6x, rfl, -, -⟩ := hE
 obtain ⟨a7, c7x, rfl, -, -⟩ := hP
 obtain ⟨a8, c8x, rfl, -, -⟩ := hBb
 have GO : ECalls Tryz.prog 138 _ w (.bool (yes (onlyP x))) := GO
 clear hR hse hz1 hz2 hv3 hv4 hv7 hv8 hl he hvx hlen hB
 have R := hide (show yes (MayI x) = false from yes_no.2 fun h => hc.2.2 (ownI_only (MayI_iff.1 h).1))
 have ho := yes_no.2 hc.2.2
 rw [ho] at GO
 generalize yes (isTargets x.x) = bt at *
 generalize x.name = nm at *
 generalize x.of = of at *
 generalize yes (MayI x) = r at *
 have hop : ¬ x.op < 1 ∧ ¬ 10 < x.op := ⟨by have := hc.1; omega, by have := hc.2.1; omega⟩
 obtain ⟨hop1, hop2⟩ := hop
 clear hc
 try clear ho
 generalize x.op = op at *
 generalize x.x.length = xl at *
 generalize x.s.length = ns at *
 generalize x.l.length = nl at *
 generalize x.els.length = nels at *
 generalize x.params.length = nparams at *
 generalize x.binds.length = nbinds at *
 have hd1 : decide (op < 1) = false := decide_eq_false hop1
 have hd2 : decide (10 < op) = false := decide_eq_false hop2
 clear hop1 hop2
 obtain ⟨W1, hV1, hx1, c0, c1, c2, c3, c4, c5, c6, c7, c8⟩ := boxE9 w (.int .i64 op) (.string nm) (.string of) (.slice a3 xl c3x) (.slice a4 ns c4x) (.slice a5 nl c5x) (.slice a6 nels c6x) (.slice a7 nparams c7x) (.slice a8 nbinds c8x) 53
 obtain ⟨W2, hV2, hx2, hcn⟩ := boxE11 W1
 have hx := hx1.trans hx2
 have c0 := cellL c0 hx2
 have c1 := cellL c1 hx2
 have c2 := cellL c2 hx2
 have c3 := cellL c3 hx2
 have c4 := cellL c4 hx2
 have c5 := cellL c5 hx2
 have c6 := cellL c6 hx2
 have c7 := cellL c7 hx2
 have c8 := cellL c8 hx2
 clear hcn
 have GO := hide (GO.later hx)
 have GT := hide (GT.later hx)
 clear G1 G2 G3 G4 G5 G6
 have HX := hide hx
 clear hx hx1 hx2
 go_enter Tryz.func135, Tryz.ntmps135
 go_wp2_with fail
 refine wp_region_facts_n (W := W2) (eqF [.pointer (some ⟨w.heap.size, 0, none⟩), .int .i64 op, .bool false, .bool false, .pointer (some ⟨w.heap.size, 0, none⟩), .int .i64 op, .bool false, .bool false, .bool false, .agg #[.int .i64 op, .string nm, .string of, .slice a3 xl c3x, .slice a4 ns c4x, .slice a5 nl c5x, .slice a6 nels c6x, .slice a7 nparams c7x, .slice a8 nbinds c8x], .bool false, .bool true, .bool true, .bool true, undef, undef, undef, undef, undef, undef, undef, undef, undef, .bool true, .bool true, undef, undef, undef, undef, undef, undef, undef, undef, undef, .bool true]) (fun i => match i with | 14 | 15 | 16 | 17 | 18 | 19 | 20 | 21 | 22 | 25 | 26 | 27 | 28 | 29 | 30 | 31 | 32 | 33 => false | _ => true) (by kernel_rfl) (by kernel_rfl) ?_ (Ext.refl _) (fun i v w w' h hx => eqF_ext h hx) ?_ ?_
 · simp [GuardsSay, eqF] <;> (intro h; cases h)
 · refine ⟨?_, ?_, ?_, ?_, ?_, ?_, ?_, ?_, ?_, ?_, ?_, ?_, ?_, ?_, ?_, ?_, ?_, ?_, ?_, ?_, ?_, ?_, ?_, ?_, ?_, ?_, ?_, ?_, ?_, ?_, ?_, ?_, ?_, ?_, ?_, trivial⟩
   · intro A wa hxa hd h0
     obtain ⟨ea, rfl⟩ := Later.mk_ex hxa
     have r1 := rest_at h0 1 (by kernel_rfl)
     simp at r1
     clear hd h0
     go_simp
     first | exact ⟨_, rfl, Ext.refl _, rfl⟩ | exact ⟨Ext.refl _, rfl⟩ | exact rfl | exact ⟨_, rfl, rfl⟩ | exact Ext.refl _ | (trace_state; fail)
   · intro A wa hxa hd h0
     obtain ⟨ea, rfl⟩ := Later.mk_ex hxa
     have q0 := depOn hd 0 5 (by kernel_rfl) rfl
     simp [eqF] at q0
     clear hd h0
     go_simp
     first | exact ⟨_, rfl, Ext.refl _, rfl⟩ | exact ⟨Ext.refl _, rfl⟩ | exact rfl | exact ⟨_, rfl, rfl⟩ | exact Ext.refl _ | (trace_state; fail)
   · intro A wa hxa hd h0
     obtain ⟨ea, rfl⟩ := Later.mk_ex hxa
     have q1 := depOn hd 1 6 (by kernel_rfl) rfl
     simp [eqF] at q1
     clear hd h0
     go_simp
     first | exact ⟨_, rfl, Ext.refl _, rfl⟩ | exact ⟨Ext.refl _, rfl⟩ | exact rfl | exact ⟨_, rfl, rfl⟩ | exact Ext.refl _ | (trace_state; fail)
   · intro A wa hxa hd h0
     obtain ⟨ea, rfl⟩ := Later.mk_ex hxa
     have q2 := depOn hd 2 7 (by kernel_rfl) rfl
     simp [eqF] at q2
     clear hd h0
     go_simp
     first | exact ⟨_, rfl, Ext.refl _, rfl⟩ | exact ⟨Ext.refl _, rfl⟩ | exact rfl | exact ⟨_, rfl, rfl⟩ | exact Ext.refl _ | (trace_state; fail)
   · intro A wa hxa hd h0
     obtain ⟨ea, rfl⟩ := Later.mk_ex hxa
     have r1 := rest_at h0 1 (by kernel_rfl)
     simp at r1
     clear hd h0
     go_simp
     first | exact ⟨_, rfl, Ext.refl _, rfl⟩ | exact ⟨Ext.refl _, rfl⟩ | exact rfl | exact ⟨_, rfl, rfl⟩ | exact Ext.refl _ | (trace_state; fail)
   · intro A wa hxa hd h0
     obtain ⟨ea, rfl⟩ := Later.mk_ex hxa
     have q4 := depOn hd 4 9 (by kernel_rfl) rfl
     simp [eqF] at q4
     clear hd h0
     go_simp
     first | exact ⟨_, rfl, Ext.refl _, rfl⟩ | exact ⟨Ext.refl _, rfl⟩ | exact rfl | exact ⟨_, rfl, rfl⟩ | exact Ext.refl _ | (trace_state; fail)
   · intro A wa hxa hd h0
     obtain ⟨ea, rfl⟩ := Later.mk_ex hxa
     have q5 := depOn hd 5 10 (by kernel_rfl) rfl
     simp [eqF] at q5
     clear hd h0
     go_simp
     first | exact ⟨_, rfl, Ext.refl _, rfl⟩ | exact ⟨Ext.refl _, rfl⟩ | exact rfl | exact ⟨_, rfl, rfl⟩ | exact Ext.refl _ | (trace_state; fail)
   · intro A wa hxa hd h0
     obtain ⟨ea, rfl⟩ := Later.mk_ex hxa
     have q3 := depOn hd 3 8 (by kernel_rfl) rfl
     simp [eqF] at q3
     have q6 := depOn hd 6 11 (by kernel_rfl) rfl
     simp [eqF] at q6
     clear hd h0
     go_simp
     first | exact ⟨_, rfl, Ext.refl _, rfl⟩ | exact ⟨Ext.refl _, rfl⟩ | exact rfl | exact ⟨_, rfl, rfl⟩ | exact Ext.refl _ | (trace_state; fail)
   · intro A wa hxa hd h0
     obtain ⟨ea, rfl⟩ := Later.mk_ex hxa
     have q7 := depOn hd 7 12 (by kernel_rfl) rfl
     simp [eqF] at q7
     clear hd h0
     go_simp
     first | exact ⟨_, rfl, Ext.refl _, rfl⟩ | exact ⟨Ext.refl _, rfl⟩ | exact rfl | exact ⟨_, rfl, rfl⟩ | exact Ext.refl _ | (trace_state; fail)
   · intro A wa hxa hd h0
     obtain ⟨ea, rfl⟩ := Later.mk_ex hxa
     have r1 := rest_at h0 1 (by kernel_rfl)
     simp at r1
     clear hd h0
     go_simp
     first | exact ⟨_, rfl, Ext.refl _, rfl⟩ | exact ⟨Ext.refl _, rfl⟩ | exact rfl | exact ⟨_, rfl, rfl⟩ | exact Ext.refl _ | (trace_state; fail)
   · intro A wa hxa hd h0
     obtain ⟨ea, rfl⟩ := Later.mk_ex hxa
     have q9 := depOn hd 9 14 (by kernel_rfl) rfl
     simp [eqF] at q9
     clear hd h0
     go_simp
     refine (GO.out ea.w ea.ext).mono ?_
     rintro e w2 ⟨rfl, hx⟩
     go_simp
     first | exact ⟨_, rfl, hx, rfl⟩ | exact ⟨hx, rfl⟩ | exact rfl | exact ⟨_, rfl, rfl⟩ | (trace_state; fail)
   · intro A wa hxa hd h0
     obtain ⟨ea, rfl⟩ := Later.mk_ex hxa
     have q10 := depOn hd 10 15 (by kernel_rfl) rfl
     simp [eqF] at q10
     clear hd h0
     go_simp
     first | exact ⟨_, rfl, Ext.refl _, rfl⟩ | exact ⟨Ext.refl _, rfl⟩ | exact rfl | exact ⟨_, rfl, rfl⟩ | exact Ext.refl _ | (trace_state; fail)
   · intro A wa hxa hd h0
     obtain ⟨ea, rfl⟩ := Later.mk_ex hxa
     have q8 := depOn hd 8 13 (by kernel_rfl) rfl
     simp [eqF] at q8
     have q11 := depOn hd 11 16 (by kernel_rfl) rfl
     simp [eqF] at q11
     clear hd h0
     go_simp
     first | exact ⟨_, rfl, Ext.refl _, rfl⟩ | exact ⟨Ext.refl _, rfl⟩ | exact rfl | exact ⟨_, rfl, rfl⟩ | exact Ext.refl _ | (trace_state; fail)
   · intro A wa hxa hd h0
     obtain ⟨ea, rfl⟩ := Later.mk_ex hxa
     have q12 := depOn hd 12 17 (by kernel_rfl) rfl
     simp [eqF] at q12
     clear hd h0
     go_simp
     first | exact ⟨_, rfl, Ext.refl _, rfl⟩ | exact ⟨Ext.refl _, rfl⟩ | exact rfl | exact ⟨_, rfl, rfl⟩ | exact Ext.refl _ | (trace_state; fail)
   · exact fun w => rfl
   · exact fun w => rfl
   · exact fun w => rfl
   · exact fun w => rfl
   · exact fun w => rfl
   · exact fun w => rfl
   · exact fun w => rfl
   · exact fun w => rfl
   · exact fun w => rfl
   · intro A wa hxa hd h0
     obtain ⟨ea, rfl⟩ := Later.mk_ex hxa
     have q13 := depOn hd 13 18 (by kernel_rfl) rfl
     simp [eqF] at q13
     have q22 := depOn hd 22 27 (by kernel_rfl) rfl
     simp [eqF] at q22
     clear hd h0
     go_simp
     first | exact ⟨_, rfl, Ext.refl _, rfl⟩ | exact ⟨Ext.refl _, rfl⟩ | exact rfl | exact ⟨_, rfl, rfl⟩ | exact Ext.refl _ | (trace_state; fail)
   · intro A wa hxa hd h0
     obtain ⟨ea, rfl⟩ := Later.mk_ex hxa
     have q23 := depOn hd 23 28 (by kernel_rfl) rfl
     simp [eqF] at q23
     clear hd h0
     go_simp
     first | exact ⟨_, rfl, Ext.refl _, rfl⟩ | exact ⟨Ext.refl _, rfl⟩ | exact rfl | exact ⟨_, rfl, rfl⟩ | exact Ext.refl _ | (trace_state; fail)
   · exact fun w => rfl
   · exact fun w => rfl
   · exact fun w => rfl
   · exact fun w => rfl
   · exact fun w => rfl
   · exact fun w => rfl
   · exact fun w => rfl
   · exact fun w => rfl
   · exact fun w => rfl
   · intro A wa hxa hd h0
     obtain ⟨ea, rfl⟩ := Later.mk_ex hxa
     have q24 := depOn hd 24 29 (by kernel_rfl) rfl
     simp [eqF] at q24
     have q33 := depOn hd 33 38 (by kernel_rfl) rfl
     simp [eqF] at q33
     clear hd h0
     go_simp
     first | exact ⟨_, rfl, Ext.refl _, rfl⟩ | exact ⟨Ext.refl _, rfl⟩ | exact rfl | exact ⟨_, rfl, rfl⟩ | exact Ext.refl _ | (trace_state; fail)
 · intro A wa hk
   obtain ⟨hxa, hsz, hdf, hdn, hrs⟩ := hk
   obtain ⟨ea, rfl⟩ := Later.mk_ex hxa
   have k0 := rest_at hrs 0 (by kernel_rfl)
   simp at k0
   have k1 := rest_at hrs 1 (by kernel_rfl)
   simp at k1
   have k2 := rest_at hrs 2 (by kernel_rfl)
   simp at k2
   have k3 := rest_at hrs 3 (by kernel_rfl)
   simp at k3
   have k39 : A.tmps.getD 39 undef = .bool true := hdn 34 39 rfl rfl
   clear hdn hrs
   rw [act_lit hsz hdf]
   simp [List.range, List.range.loop] at k0 k1 k2 k3 k39
   simp [List.range, List.range.loop, k0, k1, k2, k3, k39]
   clear k0 k1 k2 k3 k39 hsz hdf
   generalize A.tmps[4]?.getD undef = A4 at *
   generalize A.tmps[5]?.getD undef = A5 at *
   generalize A.tmps[6]?.getD undef = A6 at *
   generalize A.tmps[7]?.getD undef = A7 at *
   generalize A.tmps[8]?.getD undef = A8 at *
   generalize A.tmps[9]?.getD undef = A9 at *
   generalize A.tmps[10]?.getD undef = A10 at *
   generalize A.tmps[11]?.getD undef = A11 at *
   generalize A.tmps[12]?.getD undef = A12 at *
   generalize A.tmps[13]?.getD undef = A13 at *
   generalize A.tmps[14]?.getD undef = A14 at *
   generalize A.tmps[15]?.getD undef = A15 at *
   generalize A.tmps[16]?.getD undef = A16 at *
   generalize A.tmps[17]?.getD undef = A17 at *
   generalize A.tmps[18]?.getD undef = A18 at *
   generalize A.tmps[19]?.getD undef = A19 at *
   generalize A.tmps[20]?.getD undef = A20 at *
   generalize A.tmps[21]?.getD undef = A21 at *
   generalize A.tmps[22]?.getD undef = A22 at *
   generalize A.tmps[23]?.getD undef = A23 at *
   generalize A.tmps[24]?.getD undef = A24 at *
   generalize A.tmps[25]?.getD undef = A25 at *
   generalize A.tmps[26]?.getD undef = A26 at *
   generalize A.tmps[27]?.getD undef = A27 at *
   generalize A.tmps[28]?.getD undef = A28 at *
   generalize A.tmps[29]?.getD undef = A29 at *
   generalize A.tmps[30]?.getD undef = A30 at *
   generalize A.tmps[31]?.getD undef = A31 at *
   generalize A.tmps[32]?.getD undef = A32 at *
   generalize A.tmps[33]?.getD undef = A33 at *
   generalize A.tmps[34]?.getD undef = A34 at *
   generalize A.tmps[35]?.getD undef = A35 at *
   generalize A.tmps[36]?.getD undef = A36 at *
   generalize A.tmps[37]?.getD undef = A37 at *
   generalize A.tmps[38]?.getD undef = A38 at *
   generalize A.tmps[40]?.getD undef = A40 at *
   generalize A.tmps[41]?.getD undef = A41 at *
   generalize A.tmps[42]?.getD undef = A42 at *
   generalize A.tmps[43]?.getD undef = A43 at *
   generalize A.tmps[44]?.getD undef = A44 at *
   generalize A.tmps[45]?.getD undef = A45 at *
   generalize A.tmps[46]?.getD undef = A46 at *
   generalize A.tmps[47]?.getD undef = A47 at *
   generalize A.tmps[48]?.getD undef = A48 at *
   generalize A.tmps[49]?.getD undef = A49 at *
   generalize A.tmps[50]?.getD undef = A50 at *
   generalize A.tmps[51]?.getD undef = A51 at *
   generalize A.tmps[52]?.getD undef = A52 at *
   generalize A.tmps[53]?.getD undef = A53 at *
   generalize A.tmps[54]?.getD undef = A54 at *
   generalize A.tmps[55]?.getD undef = A55 at *
   generalize A.tmps[56]?.getD undef = A56 at *
   generalize A.tmps[57]?.getD undef = A57 at *
   generalize A.tmps[58]?.getD undef = A58 at *
   generalize A.tmps[59]?.getD undef = A59 at *
   generalize A.tmps[60]?.getD undef = A60 at *
   generalize A.tmps[61]?.getD undef = A61 at *
   generalize A.tmps[62]?.getD undef = A62 at *
   generalize A.tmps[63]?.getD undef = A63 at *
   generalize A.tmps[64]?.getD undef = A64 at *
   generalize A.tmps[65]?.getD undef = A65 at *
   generalize A.tmps[66]?.getD undef = A66 at *
   generalize A.tmps[67]?.getD undef = A67 at *
   go_wp2_with fail
   go_ret
   exact ⟨by rw [R.out]; rfl, HX.out.trans ea.ext⟩
set_option maxRecDepth 20000 in
set_option maxHeartbeats 8000000 in
theorem refitem_4 (B : Nat) (x : Itm) (hl : RItemsOk B x.l) (he : RItemsOk B x.els) (hvx : VI x) (hlen : sizeI x ≤ 100000000) (hc : 1 ≤ x.op ∧ x.op ≤ 10 ∧ onlyP x ∧ x.x.length ≠ countX x.op) : RItemOk B x := by
 intro w cs hR hB
 obtain ⟨v3, v4, v5, v6, v7, v8, rfl, hX, hSS, hL, hE, hP, hBb⟩ := RI_iff.1 hR
 have hse := sizeI_eq x
 obtain ⟨hz1, hz2, hv3, hv4, -, -, hv7, hv8⟩ := VI_iff.1 hvx
 have hbd : 1 ≤ x.op ∧ x.op ≤ 10 := ⟨hc.1, hc.2.1⟩
 have GO := fun w' (hw : Ext w w') => refonly_any B x w' _ (hR.ext hw hB) (Nat.le_trans hB hw.size) hz1 hz2 hlen hbd.1 hbd.2
 have GT := fun w' (hw : Ext w w') => reftarget_any B x.x w' v3 (hX.extRX hw hB) (by have := length_le_msize sizeX x.x sizeX_pos; omega)
 have GT := ECalls.still GT
 have G1 : ECalls Tryz.prog 134 #[v3] w (.bool (yes (MayXs x.x))) := fun w' hw => refmayL_of B x.x (fun y hy w1 cs1 h1 h2 => refMayX_any B y w1 cs1 h1 h2 (by have := msize_mem sizeX x.x y hy; omega) (hv3 y hy)) w' v3 (hX.extRX hw hB) (Nat.le_trans hB hw.size) (by have := length_le_msize sizeX x.x sizeX_pos; omega)
 have G2 : ECalls Tryz.prog 140 #[v4] w (.bool (yes (MayAll x.s))) := fun w' hw => refMayAll_any B x.s hv4 (by omega) w' v4 (hSS.extRS hw hB) (Nat.le_trans hB hw.size)
 have G3 : ECalls Tryz.prog 115 #[v5] w (.bool (yes (∀ y, y ∈ x.l → MayI y))) := fun w' hw => hl w' v5 (hL.extRI hw hB) (Nat.le_trans hB hw.size)
 have G4 : ECalls Tryz.prog 115 #[v6] w (.bool (yes (∀ y, y ∈ x.els → MayI y))) := fun w' hw => he w' v6 (hE.extRI hw hB) (Nat.le_trans hB hw.size)
 have G5 : ECalls Tryz.prog 114 #[v7] w (.bool (yes (∀ y, y ∈ x.params → MayB y))) := fun w' hw => refbinds_any B x.params w' v7 (hP.extRB hw hB) (Nat.le_trans hB hw.size) hv7 (by omega)
 have G6 : ECalls Tryz.prog 114 #[v8] w (.bool (yes (∀ y, y ∈ x.binds → MayB y))) := fun w' hw => refbinds_any B x.binds w' v8 (hBb.extRB hw hB) (Nat.le_trans hB hw.size) hv8 (by omega)
 obtain ⟨a3, c3x, rfl, -, -⟩ := hX
 obtain ⟨a4, c4x, rfl, -, -⟩ := hSS
 obtain ⟨a5, c5x, rfl, -, -⟩ := hL
 obtain ⟨a6, c6x, rfl, -, -⟩ := hE
 obtain ⟨a7, c7x, rfl, -, -⟩ := hP
 obtain ⟨a8, c8x, rfl, -, -⟩ := hBb
 have GO : ECalls Tryz.prog 138 _ w (.bool (yes (onlyP x))) := GO
 clear hR hse hz1 hz2 hv3 hv4 hv7 hv8 hl he hvx hlen hB
 have R := hide (show yes (MayI x) = false from yes_no.2 fun h => hc.2.2.2 (by obtain ⟨⟨-, -, -, -, h, -⟩, -⟩ := MayI_iff.1 h; exact h))
 have ho := yes_iff.2 hc.2.2.1
 rw [ho] at GO
 generalize yes (isTargets x.x) = bt at *
 generalize x.name = nm at *
 generalize x.of = of at *
 generalize yes (MayI x) = r at *
 obtain ⟨on, hon⟩ : ∃ on : Nat, x.op = on := ⟨x.op.toNat, by have := hc.1; omega⟩
 have hon1 : 1 ≤ on ∧ on ≤ 10 := by have := hc.1; have := hc.2.1; omega
 obtain ⟨cnt, hcnt⟩ : ∃ cnt : Nat, cnt = countX x.op := ⟨_, rfl⟩
 have hxl : x.x.length ≠ cnt := by rw [hcnt]; exact hc.2.2.2
 have hcc : cntL[on]? = some (.int .i64 cnt) := cntL_at hon hcnt (by omega) (by omega)
 clear hc hcnt ho
 rw [hon] at GO ⊢
 clear hon
 generalize x.x.length = xl at *
 generalize x.s.length = ns at *
 generalize x.l.length = nl at *
 generalize x.els.length = nels at *
 generalize x.params.length = nparams at *
 generalize x.binds.length = nbinds at *
 have hd1 : decide ((on : Int) < 1) = false := decide_eq_false (by omega)
 have hd2 : decide (10 < (on : Int)) = false := decide_eq_false (by omega)
 have hi0 : (0 : Int) ≤ (on : Int) := by omega
 have hi1 : (on : Int) < 11 := by omega
 have hd3 : decide ((xl : Int) = (cnt : Int)) = false := decide_eq_false (by omega)
 have hd4 : ((xl : Int) == (cnt : Int)) = false := beq_eq_false_iff_ne.2 (by omega)
 have hd5 : ((xl : Int) != (cnt : Int)) = true := bne_iff_ne.2 (by omega)
 obtain ⟨W1, hV1, hx1, c0, c1, c2, c3, c4, c5, c6, c7, c8⟩ := boxE9 w (.int .i64 on) (.string nm) (.string of) (.slice a3 xl c3x) (.slice a4 ns c4x) (.slice a5 nl c5x) (.slice a6 nels c6x) (.slice a7 nparams c7x) (.slice a8 nbinds c8x) 53
 obtain ⟨W2, hV2, hx2, hcn⟩ := boxE11 W1
 have hx := hx1.trans hx2
 have c0 := cellL c0 hx2
 have c1 := cellL c1 hx2
 have c2 := cellL c2 hx2
 have c3 := cellL c3 hx2
 have c4 := cellL c4 hx2
 have c5 := cellL c5 hx2
 have c6 := cellL c6 hx2
 have c7 := cellL c7 hx2
 have c8 := cellL c8 hx2
 have cn := fun e : Later W2 => (hcn e on (by omega)).trans hcc
 clear hcn
 have GO := hide (GO.later hx)
 have GT := hide (GT.later hx)
 clear G1 G2 G3 G4 G5 G6
 have HX := hide hx
 clear hx hx1 hx2
 go_enter Tryz.func135, Tryz.ntmps135
 go_wp2_with fail
 refine wp_region_facts_n (W := W2) (eqF [.pointer (some ⟨w.heap.size, 0, none⟩), .int .i64 (on : Nat), .bool false, .bool false, .pointer (some ⟨w.heap.size, 0, none⟩), .int .i64 (on : Nat), .bool false, .bool false, .bool false, .agg #[.int .i64 (on : Nat), .string nm, .string of, .slice a3 xl c3x, .slice a4 ns c4x, .slice a5 nl c5x, .slice a6 nels c6x, .slice a7 nparams c7x, .slice a8 nbinds c8x], .bool true, .bool false, .bool false, .bool false, .pointer (some ⟨w.heap.size, 3, none⟩), .slice a3 xl c3x, .int .i64 (xl : Nat), .slice (some ⟨W1.heap.size, 0, none⟩) 11 11, .pointer (some ⟨w.heap.size, 0, none⟩), .int .i64 (on : Nat), .pointer (some ⟨W1.heap.size, on, none⟩), .int .i64 (cnt : Nat), .bool true, .bool true, .bool true, undef, undef, undef, undef, undef, undef, undef, undef, undef, .bool true]) (fun i => match i with | 25 | 26 | 27 | 28 | 29 | 30 | 31 | 32 | 33 => false | _ => true) (by kernel_rfl) (by kernel_rfl) ?_ (Ext.refl _) (fun i v w w' h hx => eqF_ext h hx) ?_ ?_
 · simp [GuardsSay, eqF] <;> (intro h; cases h)
 · refine ⟨?_, ?_, ?_, ?_, ?_, ?_, ?_, ?_, ?_, ?_, ?_, ?_, ?_, ?_, ?_, ?_, ?_, ?_, ?_, ?_, ?_, ?_, ?_, ?_, ?_, ?_, ?_, ?_, ?_, ?_, ?_, ?_, ?_, ?_, ?_, trivial⟩
   · intro A wa hxa hd h0
     obtain ⟨ea, rfl⟩ := Later.mk_ex hxa
     have r1 := rest_at h0 1 (by kernel_rfl)
     simp at r1
     clear hd h0
     go_simp
     first | exact ⟨_, rfl, Ext.refl _, rfl⟩ | exact ⟨Ext.refl _, rfl⟩ | exact rfl | exact ⟨_, rfl, rfl⟩ | exact Ext.refl _ | (trace_state; fail)
   · intro A wa hxa hd h0
     obtain ⟨ea, rfl⟩ := Later.mk_ex hxa
     have q0 := depOn hd 0 5 (by kernel_rfl) rfl
     simp [eqF] at q0
     clear hd h0
     go_simp
     first | exact ⟨_, rfl, Ext.refl _, rfl⟩ | exact ⟨Ext.refl _, rfl⟩ | exact rfl | exact ⟨_, rfl, rfl⟩ | exact Ext.refl _ | (trace_state; fail)
   · intro A wa hxa hd h0
     obtain ⟨ea, rfl⟩ := Later.mk_ex hxa
     have q1 := depOn hd 1 6 (by kernel_rfl) rfl
     simp [eqF] at q1
     clear hd h0
     go_simp
     first | exact ⟨_, rfl, Ext.refl _, rfl⟩ | exact ⟨Ext.refl _, rfl⟩ | exact rfl | exact ⟨_, rfl, rfl⟩ | exact Ext.refl _ | (trace_state; fail)
   · intro A wa hxa hd h0
     obtain ⟨ea, rfl⟩ := Later.mk_ex hxa
     have q2 := depOn hd 2 7 (by kernel_rfl) rfl
     simp [eqF] at q2
     clear hd h0
     go_simp
     first | exact ⟨_, rfl, Ext.refl _, rfl⟩ | exact ⟨Ext.refl _, rfl⟩ | exact rfl | exact ⟨_, rfl, rfl⟩ | exact Ext.refl _ | (trace_state; fail)
   · intro A wa hxa hd h0
     obtain ⟨ea, rfl⟩ := Later.mk_ex hxa
     have r1 := rest_at h0 1 (by kernel_rfl)
     simp at r1
     clear hd h0
     go_simp
     first | exact ⟨_, rfl, Ext.refl _, rfl⟩ | exact ⟨Ext.refl _, rfl⟩ | exact rfl | exact ⟨_, rfl, rfl⟩ | exact Ext.refl _ | (trace_state; fail)
   · intro A wa hxa hd h0
     obtain ⟨ea, rfl⟩ := Later.mk_ex hxa
     have q4 := depOn hd 4 9 (by kernel_rfl) rfl
     simp [eqF] at q4
     clear hd h0
     go_simp
     first | exact ⟨_, rfl, Ext.refl _, rfl⟩ | exact ⟨Ext.refl _, rfl⟩ | exact rfl | exact ⟨_, rfl, rfl⟩ | exact Ext.refl _ | (trace_state; fail)
   · intro A wa hxa hd h0
     obtain ⟨ea, rfl⟩ := Later.mk_ex hxa
     have q5 := depOn hd 5 10 (by kernel_rfl) rfl
     simp [eqF] at q5
     clear hd h0
     go_simp
     first | exact ⟨_, rfl, Ext.refl _, rfl⟩ | exact ⟨Ext.refl _, rfl⟩ | exact rfl | exact ⟨_, rfl, rfl⟩ | exact Ext.refl _ | (trace_state; fail)
   · intro A wa hxa hd h0
     obtain ⟨ea, rfl⟩ := Later.mk_ex hxa
     have q3 := depOn hd 3 8 (by kernel_rfl) rfl
     simp [eqF] at q3
     have q6 := depOn hd 6 11 (by kernel_rfl) rfl
     simp [eqF] at q6
     clear hd h0
     go_simp
     first | exact ⟨_, rfl, Ext.refl _, rfl⟩ | exact ⟨Ext.refl _, rfl⟩ | exact rfl | exact ⟨_, rfl, rfl⟩ | exact Ext.refl _ | (trace_state; fail)
   · intro A wa hxa hd h0
     obtain ⟨ea, rfl⟩ := Later.mk_ex hxa
     have q7 := depOn hd 7 12 (by kernel_rfl) rfl
     simp [eqF] at q7
     clear hd h0
     go_simp
     first | exact ⟨_, rfl, Ext.refl _, rfl⟩ | exact ⟨Ext.refl _, rfl⟩ | exact rfl | exact ⟨_, rfl, rfl⟩ | exact Ext.refl _ | (trace_state; fail)
   · intro A wa hxa hd h0
     obtain ⟨ea, rfl⟩ := Later.mk_ex hxa
     have r1 := rest_at h0 1 (by kernel_rfl)
     simp at r1
     clear hd h0
     go_simp
     first | exact ⟨_, rfl, Ext.refl _, rfl⟩ | exact ⟨Ext.refl _, rfl⟩ | exact rfl | exact ⟨_, rfl, rfl⟩ | exact Ext.refl _ | (trace_state; fail)
   · intro A wa hxa hd h0
     obtain ⟨ea, rfl⟩ := Later.mk_ex hxa
     have q9 := depOn hd 9 14 (by kernel_rfl) rfl
     simp [eqF] at q9
     clear hd h0
     go_simp
     refine (GO.out ea.w ea.ext).mono ?_
     rintro e w2 ⟨rfl, hx⟩
     go_simp
     first | exact ⟨_, rfl, hx, rfl⟩ | exact ⟨hx, rfl⟩ | exact rfl | exact ⟨_, rfl, rfl⟩ | (trace_state; fail)
   · intro A wa hxa hd h0
     obtain ⟨ea, rfl⟩ := Later.mk_ex hxa
     have q10 := depOn hd 10 15 (by kernel_rfl) rfl
     simp [eqF] at q10
     clear hd h0
     go_simp
     first | exact ⟨_, rfl, Ext.refl _, rfl⟩ | exact ⟨Ext.refl _, rfl⟩ | exact rfl | exact ⟨_, rfl, rfl⟩ | exact Ext.refl _ | (trace_state; fail)
   · intro A wa hxa hd h0
     obtain ⟨ea, rfl⟩ := Later.mk_ex hxa
     have q8 := depOn hd 8 13 (by kernel_rfl) rfl
     simp [eqF] at q8
     have q11 := depOn hd 11 16 (by kernel_rfl) rfl
     simp [eqF] at q11
     clear hd h0
     go_simp
     first | exact ⟨_, rfl, Ext.refl _, rfl⟩ | exact ⟨Ext.refl _, rfl⟩ | exact rfl | exact ⟨_, rfl, rfl⟩ | exact Ext.refl _ | (trace_state; fail)
   · intro A wa hxa hd h0
     obtain ⟨ea, rfl⟩ := Later.mk_ex hxa
     have q12 := depOn hd 12 17 (by kernel_rfl) rfl
     simp [eqF] at q12
     clear hd h0
     go_simp
     first | exact ⟨_, rfl, Ext.refl _, rfl⟩ | exact ⟨Ext.refl _, rfl⟩ | exact rfl | exact ⟨_, rfl, rfl⟩ | exact Ext.refl _ | (trace_state; fail)
   · intro A wa hxa hd h0
     obtain ⟨ea, rfl⟩ := Later.mk_ex hxa
     have r1 := rest_at h0 1 (by kernel_rfl)
     simp at r1
     clear hd h0
     go_simp
     first | exact ⟨_, rfl, Ext.refl _, rfl⟩ | exact ⟨Ext.refl _, rfl⟩ | exact rfl | exact ⟨_, rfl, rfl⟩ | exact Ext.refl _ | (trace_state; fail)
   · intro A wa hxa hd h0
     obtain ⟨ea, rfl⟩ := Later.mk_ex hxa
     have q14 := depOn hd 14 19 (by kernel_rfl) rfl
     simp [eqF] at q14
     clear hd h0
     go_simp
     first | exact ⟨_, rfl, Ext.refl _, rfl⟩ | exact ⟨Ext.refl _, rfl⟩ | exact rfl | exact ⟨_, rfl, rfl⟩ | exact Ext.refl _ | (trace_state; fail)
   · intro A wa hxa hd h0
     obtain ⟨ea, rfl⟩ := Later.mk_ex hxa
     have q15 := depOn hd 15 20 (by kernel_rfl) rfl
     simp [eqF] at q15
     clear hd h0
     go_simp
     first | exact ⟨_, rfl, Ext.refl _, rfl⟩ | exact ⟨Ext.refl _, rfl⟩ | exact rfl | exact ⟨_, rfl, rfl⟩ | exact Ext.refl _ | (trace_state; fail)
   · intro A wa hxa hd h0
     obtain ⟨ea, rfl⟩ := Later.mk_ex hxa
     have r3 := rest_at h0 3 (by kernel_rfl)
     simp at r3
     clear hd h0
     go_simp
     first | exact ⟨_, rfl, Ext.refl _, rfl⟩ | exact ⟨Ext.refl _, rfl⟩ | exact rfl | exact ⟨_, rfl, rfl⟩ | exact Ext.refl _ | (trace_state; fail)
   · intro A wa hxa hd h0
     obtain ⟨ea, rfl⟩ := Later.mk_ex hxa
     have r1 := rest_at h0 1 (by kernel_rfl)
     simp at r1
     clear hd h0
     go_simp
     first | exact ⟨_, rfl, Ext.refl _, rfl⟩ | exact ⟨Ext.refl _, rfl⟩ | exact rfl | exact ⟨_, rfl, rfl⟩ | exact Ext.refl _ | (trace_state; fail)
   · intro A wa hxa hd h0
     obtain ⟨ea, rfl⟩ := Later.mk_ex hxa
     have q18 := depOn hd 18 23 (by kernel_rfl) rfl
     simp [eqF] at q18
     clear hd h0
     go_simp
     first | exact ⟨_, rfl, Ext.refl _, rfl⟩ | exact ⟨Ext.refl _, rfl⟩ | exact rfl | exact ⟨_, rfl, rfl⟩ | exact Ext.refl _ | (trace_state; fail)
   · intro A wa hxa hd h0
     obtain ⟨ea, rfl⟩ := Later.mk_ex hxa
     have q17 := depOn hd 17 22 (by kernel_rfl) rfl
     simp [eqF] at q17
     have q19 := depOn hd 19 24 (by kernel_rfl) rfl
     simp [eqF] at q19
     clear hd h0
     go_simp
     first | exact ⟨_, rfl, Ext.refl _, rfl⟩ | exact ⟨Ext.refl _, rfl⟩ | exact rfl | exact ⟨_, rfl, rfl⟩ | exact Ext.refl _ | (trace_state; fail)
   · intro A wa hxa hd h0
     obtain ⟨ea, rfl⟩ := Later.mk_ex hxa
     have q20 := depOn hd 20 25 (by kernel_rfl) rfl
     simp [eqF] at q20
     clear hd h0
     go_simp
     first | exact ⟨_, rfl, Ext.refl _, rfl⟩ | exact ⟨Ext.refl _, rfl⟩ | exact rfl | exact ⟨_, rfl, rfl⟩ | exact Ext.refl _ | (trace_state; fail)
   · intro A wa hxa hd h0
     obtain ⟨ea, rfl⟩ := Later.mk_ex hxa
     have q16 := depOn hd 16 21 (by kernel_rfl) rfl
     simp [eqF] at q16
     have q21 := depOn hd 21 26 (by kernel_rfl) rfl
     simp [eqF] at q21
     clear hd h0
     go_simp
     first | exact ⟨_, rfl, Ext.refl _, rfl⟩ | exact ⟨Ext.refl _, rfl⟩ | exact rfl | exact ⟨_, rfl, rfl⟩ | exact Ext.refl _ | (trace_state; fail)
   · intro A wa hxa hd h0
     obtain ⟨ea, rfl⟩ := Later.mk_ex hxa
     have q13 := depOn hd 13 18 (by kernel_rfl) rfl
     simp [eqF] at q13
     have q22 := depOn hd 22 27 (by kernel_rfl) rfl
     simp [eqF] at q22
     clear hd h0
     go_simp
     first | exact ⟨_, rfl, Ext.refl _, rfl⟩ | exact ⟨Ext.refl _, rfl⟩ | exact rfl | exact ⟨_, rfl, rfl⟩ | exact Ext.refl _ | (trace_state; fail)
   · intro A wa hxa hd h0
     obtain ⟨ea, rfl⟩ := Later.mk_ex hxa
     have q23 := depOn hd 23 28 (by kernel_rfl) rfl
     simp [eqF] at q23
     clear hd h0
     go_simp
     first | exact ⟨_, rfl, Ext.refl _, rfl⟩ | exact ⟨Ext.refl _, rfl⟩ | exact rfl | exact ⟨_, rfl, rfl⟩ | exact Ext.refl _ | (trace_state; fail)
   · exact fun w => rfl
   · exact fun w => rfl
   · exact fun w => rfl
   · exact fun w => rfl
   · exact fun w => rfl
   · exact fun w => rfl
   · exact fun w => rfl
   · exact fun w => rfl
   · exact fun w => rfl
   · intro A wa hxa hd h0
     obtain ⟨ea, rfl⟩ := Later.mk_ex hxa
     have q24 := depOn hd 24 29 (by kernel_rfl) rfl
     simp [eqF] at q24
     have q33 := depOn hd 33 38 (by kernel_rfl) rfl
     simp [eqF] at q33
     clear hd h0
     go_simp
     first | exact ⟨_, rfl, Ext.refl _, rfl⟩ | exact ⟨Ext.refl _, rfl⟩ | exact rfl | exact ⟨_, rfl, rfl⟩ | exact Ext.refl _ | (trace_state; fail)
 · intro A wa hk
   obtain ⟨hxa, hsz, hdf, hdn, hrs⟩ := hk
   obtain ⟨ea, rfl⟩ := Later.mk_ex hxa
   have k0 := rest_at hrs 0 (by kernel_rfl)
   simp at k0
   have k1 := rest_at hrs 1 (by kernel_rfl)
   simp at k1
   have k2 := rest_at hrs 2 (by kernel_rfl)
   simp at k2
   have k3 := rest_at hrs 3 (by kernel_rfl)
   simp at k3
   have k39 : A.tmps.getD 39 undef = .bool true := hdn 34 39 rfl rfl
   clear hdn hrs
   rw [act_lit hsz hdf]
   simp [List.range, List.range.loop] at k0 k1 k2 k3 k39
   simp [List.range, List.range.loop, k0, k1, k2, k3, k39]
   clear k0 k1 k2 k3 k39 hsz hdf
   generalize A.tmps[4]?.getD undef = A4 at *
   generalize A.tmps[5]?.getD undef = A5 at *
   generalize A.tmps[6]?.getD undef = A6 at *
   generalize A.tmps[7]?.getD undef = A7 at *
   generalize A.tmps[8]?.getD undef = A8 at *
   generalize A.tmps[9]?.getD undef = A9 at *
   generalize A.tmps[10]?.getD undef = A10 at *
   generalize A.tmps[11]?.getD undef = A11 at *
   generalize A.tmps[12]?.getD undef = A12 at *
   generalize A.tmps[13]?.getD undef = A13 at *
   generalize A.tmps[14]?.getD undef = A14 at *
   generalize A.tmps[15]?.getD undef = A15 at *
   generalize A.tmps[16]?.getD undef = A16 at *
   generalize A.tmps[17]?.getD undef = A17 at *
   generalize A.tmps[18]?.getD undef = A18 at *
   generalize A.tmps[19]?.getD undef = A19 at *
   generalize A.tmps[20]?.getD undef = A20 at *
   generalize A.tmps[21]?.getD undef = A21 at *
   generalize A.tmps[22]?.getD undef = A22 at *
   generalize A.tmps[23]?.getD undef = A23 at *
   generalize A.tmps[24]?.getD undef = A24 at *
   generalize A.tmps[25]?.getD undef = A25 at *
   generalize A.tmps[26]?.getD undef = A26 at *
   generalize A.tmps[27]?.getD undef = A27 at *
   generalize A.tmps[28]?.getD undef = A28 at *
   generalize A.tmps[29]?.getD undef = A29 at *
   generalize A.tmps[30]?.getD undef = A30 at *
   generalize A.tmps[31]?.getD undef = A31 at *
   generalize A.tmps[32]?.getD undef = A32 at *
   generalize A.tmps[33]?.getD undef = A33 at *
   generalize A.tmps[34]?.getD undef = A34 at *
   generalize A.tmps[35]?.getD undef = A35 at *
   generalize A.tmps[36]?.getD undef = A36 at *
   generalize A.tmps[37]?.getD undef = A37 at *
   generalize A.tmps[38]?.getD undef = A38 at *
   generalize A.tmps[40]?.getD undef = A40 at *
   generalize A.tmps[41]?.getD undef = A41 at *
   generalize A.tmps[42]?.getD undef = A42 at *
   generalize A.tmps[43]?.getD undef = A43 at *
   generalize A.tmps[44]?.getD undef = A44 at *
   generalize A.tmps[45]?.getD undef = A45 at *
   generalize A.tmps[46]?.getD undef = A46 at *
   generalize A.tmps[47]?.getD undef = A47 at *
   generalize A.tmps[48]?.getD undef = A48 at *
   generalize A.tmps[49]?.getD undef = A49 at *
   generalize A.tmps[50]?.getD undef = A50 at *
   generalize A.tmps[51]?.getD undef = A51 at *
   generalize A.tmps[52]?.getD undef = A52 at *
   generalize A.tmps[53]?.getD undef = A53 at *
   generalize A.tmps[54]?.getD undef = A54 at *
   generalize A.tmps[55]?.getD undef = A55 at *
   generalize A.tmps[56]?.getD undef = A56 at *
   generalize A.tmps[57]?.getD undef = A57 at *
   generalize A.tmps[58]?.getD undef = A58 at *
   generalize A.tmps[59]?.getD undef = A59 at *
   generalize A.tmps[60]?.getD undef = A60 at *
   generalize A.tmps[61]?.getD undef = A61 at *
   generalize A.tmps[62]?.getD undef = A62 at *
   generalize A.tmps[63]?.getD undef = A63 at *
   generalize A.tmps[64]?.getD undef = A64 at *
   generalize A.tmps[65]?.getD undef = A65 at *
   generalize A.tmps[66]?.getD undef = A66 at *
   generalize A.tmps[67]?.getD undef = A67 at *
   go_wp2_with fail
   go_ret
   exact ⟨by rw [R.out]; rfl, HX.out.trans ea.ext⟩
set_option maxRecDepth 20000 in
set_option maxHeartbeats 8000000 in
theorem refitem_5 (B : Nat) (x : Itm) (hl : RItemsOk B x.l) (he : RItemsOk B x.els) (hvx : VI x) (hlen : sizeI x ≤ 100000000) (hc : x.op = 4 ∧ onlyP x ∧ x.x.length = countX x.op ∧ ¬ isTargets x.x) : RItemOk B x := by
 intro w cs hR hB
 obtain ⟨v3, v4, v5, v6, v7, v8, rfl, hX, hSS, hL, hE, hP, hBb⟩ := RI_iff.1 hR
 have hse := sizeI_eq x
 obtain ⟨hz1, hz2, hv3, hv4, -, -, hv7, hv8⟩ := VI_iff.1 hvx
 have hbd : 1 ≤ x.op ∧ x.op ≤ 10 := by rw [hc.1]; decide
 have GO := fun w' (hw : Ext w w') => refonly_any B x w' _ (hR.ext hw hB) (Nat.le_trans hB hw.size) hz1 hz2 hlen hbd.1 hbd.2
 have GT := fun w' (hw : Ext w w') => reftarget_any B x.x w' v3 (hX.extRX hw hB) (by have := length_le_msize sizeX x.x sizeX_pos; omega)
 have GT := ECalls.still GT
 have G1 : ECalls Tryz.prog 134 #[v3] w (.bool (yes (MayXs x.x))) := fun w' hw => refmayL_of B x.x (fun y hy w1 cs1 h1 h2 => refMayX_any B y w1 cs1 h1 h2 (by have := msize_mem sizeX x.x y hy; omega) (hv3 y hy)) w' v3 (hX.extRX hw hB) (Nat.le_trans hB hw.size) (by have := length_le_msize sizeX x.x sizeX_pos; omega)
 have G2 : ECalls Tryz.prog 140 #[v4] w (.bool (yes (MayAll x.s))) := fun w' hw => refMayAll_any B x.s hv4 (by omega) w' v4 (hSS.extRS hw hB) (Nat.le_trans hB hw.size)
 have G3 : ECalls Tryz.prog 115 #[v5] w (.bool (yes (∀ y, y ∈ x.l → MayI y))) := fun w' hw => hl w' v5 (hL.extRI hw hB) (Nat.le_trans hB hw.size)
 have G4 : ECalls Tryz.prog 115 #[v6] w (.bool (yes (∀ y, y ∈ x.els → MayI y))) := fun w' hw => he w' v6 (hE.extRI hw hB) (Nat.le_trans hB hw.size)
 have G5 : ECalls Tryz.prog 114 #[v7] w (.bool (yes (∀ y, y ∈ x.params → MayB y))) := fun w' hw => refbinds_any B x.params w' v7 (hP.extRB hw hB) (Nat.le_trans hB hw.size) hv7 (by omega)
 have G6 : ECalls Tryz.prog 114 #[v8] w (.bool (yes (∀ y, y ∈ x.binds → MayB y))) := fun w' hw => refbinds_any B x.binds w' v8 (hBb.extRB hw hB) (Nat.le_trans hB hw.size) hv8 (by omega)
 obtain ⟨a3, c3x, rfl, -, -⟩ := hX
 obtain ⟨a4, c4x, rfl, -, -⟩ := hSS
 obtain ⟨a5, c5x, rfl, -, -⟩ := hL
 obtain ⟨a6, c6x, rfl, -, -⟩ := hE
 obtain ⟨a7, c7x, rfl, -, -⟩ := hP
 obtain ⟨a8, c8x, rfl, -, -⟩ := hBb
 have GO : ECalls Tryz.prog 138 _ w (.bool (yes (onlyP x))) := GO
 clear hR hse hz1 hz2 hv3 hv4 hv7 hv8 hl he hvx hlen hB
 have R := hide (show yes (MayI x) = false from yes_no.2 fun h => hc.2.2.2 (by obtain ⟨⟨-, -, -, -, -, h, -⟩, -⟩ := MayI_iff.1 h; exact h hc.1))
 have ho := yes_iff.2 hc.2.1
 rw [ho] at GO
 have ht := yes_no.2 hc.2.2.2
 rw [ht] at GT
 generalize x.name = nm at *
 generalize x.of = of at *
 generalize yes (MayI x) = r at *
 have hn : x.x.length = 2 := by rw [hc.2.2.1, hc.1]; rfl
 have hop := hc.1
 clear hc ho ht
 rw [hop] at GO ⊢
 clear hop
 generalize x.x.length = xl at *
 subst hn
 generalize x.s.length = ns at *
 generalize x.l.length = nl at *
 generalize x.els.length = nels at *
 generalize x.params.length = nparams at *
 generalize x.binds.length = nbinds at *
 obtain ⟨W1, hV1, hx1, c0, c1, c2, c3, c4, c5, c6, c7, c8⟩ := boxE9 w (.int .i64 4) (.string nm) (.string of) (.slice a3 2 c3x) (.slice a4 ns c4x) (.slice a5 nl c5x) (.slice a6 nels c6x) (.slice a7 nparams c7x) (.slice a8 nbinds c8x) 53
 obtain ⟨W2, hV2, hx2, hcn⟩ := boxE11 W1
 have hx := hx1.trans hx2
 have c0 := cellL c0 hx2
 have c1 := cellL c1 hx2
 have c2 := cellL c2 hx2
 have c3 := cellL c3 hx2
 have c4 := cellL c4 hx2
 have c5 := cellL c5 hx2
 have c6 := cellL c6 hx2
 have c7 := cellL c7 hx2
 have c8 := cellL c8 hx2
 have cn := fun e : Later W2 => (hcn e 4 (by decide)).trans (show cntL[4]? = some (.int .i64 2) from rfl)
 clear hcn
 have GO := hide (GO.later hx)
 have GT := hide (GT.later hx)
 clear G1 G2 G3 G4 G5 G6
 have HX := hide hx
 clear hx hx1 hx2
 go_enter Tryz.func135, Tryz.ntmps135
 go_wp2_with fail
 refine wp_region_facts_n (W := W2) (eqF [.pointer (some ⟨w.heap.size, 0, none⟩), .int .i64 4, .bool false, .bool false, .pointer (some ⟨w.heap.size, 0, none⟩), .int .i64 4, .bool false, .bool false, .bool false, .agg #[.int .i64 4, .string nm, .string of, .slice a3 2 c3x, .slice a4 ns c4x, .slice a5 nl c5x, .slice a6 nels c6x, .slice a7 nparams c7x, .slice a8 nbinds c8x], .bool true, .bool false, .bool false, .bool false, .pointer (some ⟨w.heap.size, 3, none⟩), .slice a3 2 c3x, .int .i64 2, .slice (some ⟨W1.heap.size, 0, none⟩) 11 11, .pointer (some ⟨w.heap.size, 0, none⟩), .int .i64 4, .pointer (some ⟨W1.heap.size, 4, none⟩), .int .i64 2, .bool false, .bool false, .bool false, .pointer (some ⟨w.heap.size, 0, none⟩), .int .i64 4, .bool true, .bool true, .pointer (some ⟨w.heap.size, 3, none⟩), .slice a3 2 c3x, .bool false, .bool true, .bool true, .bool true]) (fun i => match i with  | _ => true) (by kernel_rfl) (by kernel_rfl) ?_ (Ext.refl _) (fun i v w w' h hx => eqF_ext h hx) ?_ ?_
 · simp [GuardsSay, eqF] <;> (intro h; cases h)
 · refine ⟨?_, ?_, ?_, ?_, ?_, ?_, ?_, ?_, ?_, ?_, ?_, ?_, ?_, ?_, ?_, ?_, ?_, ?_, ?_, ?_, ?_, ?_, ?_, ?_, ?_, ?_, ?_, ?_, ?_, ?_, ?_, ?_, ?_, ?_, ?_, trivial⟩
   · intro A wa hxa hd h0
     obtain ⟨ea, rfl⟩ := Later.mk_ex hxa
     have r1 := rest_at h0 1 (by kernel_rfl)
     simp at r1
     clear hd h0
     go_simp
     first | exact ⟨_, rfl, Ext.refl _, rfl⟩ | exact ⟨Ext.refl _, rfl⟩ | exact rfl | exact ⟨_, rfl, rfl⟩ | exact Ext.refl _ | (trace_state; fail)
   · intro A wa hxa hd h0
     obtain ⟨ea, rfl⟩ := Later.mk_ex hxa
     have q0 := depOn hd 0 5 (by kernel_rfl) rfl
     simp [eqF] at q0
     clear hd h0
     go_simp
     first | exact ⟨_, rfl, Ext.refl _, rfl⟩ | exact ⟨Ext.refl _, rfl⟩ | exact rfl | exact ⟨_, rfl, rfl⟩ | exact Ext.refl _ | (trace_state; fail)
   · intro A wa hxa hd h0
     obtain ⟨ea, rfl⟩ := Later.mk_ex hxa
     have q1 := depOn hd 1 6 (by kernel_rfl) rfl
     simp [eqF] at q1
     clear hd h0
     go_simp
     first | exact ⟨_, rfl, Ext.refl _, rfl⟩ | exact ⟨Ext.refl _, rfl⟩ | exact rfl | exact ⟨_, rfl, rfl⟩ | exact Ext.refl _ | (trace_state; fail)
   · intro A wa hxa hd h0
     obtain ⟨ea, rfl⟩ := Later.mk_ex hxa
     have q2 := depOn hd 2 7 (by kernel_rfl) rfl
     simp [eqF] at q2
     clear hd h0
     go_simp
     first | exact ⟨_, rfl, Ext.refl _, rfl⟩ | exact ⟨Ext.refl _, rfl⟩ | exact rfl | exact ⟨_, rfl, rfl⟩ | exact Ext.refl _ | (trace_state; fail)
   · intro A wa hxa hd h0
     obtain ⟨ea, rfl⟩ := Later.mk_ex hxa
     have r1 := rest_at h0 1 (by kernel_rfl)
     simp at r1
     clear hd h0
     go_simp
     first | exact ⟨_, rfl, Ext.refl _, rfl⟩ | exact ⟨Ext.refl _, rfl⟩ | exact rfl | exact ⟨_, rfl, rfl⟩ | exact Ext.refl _ | (trace_state; fail)
   · intro A wa hxa hd h0
     obtain ⟨ea, rfl⟩ := Later.mk_ex hxa
     have q4 := depOn hd 4 9 (by kernel_rfl) rfl
     simp [eqF] at q4
     clear hd h0
     go_simp
     first | exact ⟨_, rfl, Ext.refl _, rfl⟩ | exact ⟨Ext.refl _, rfl⟩ | exact rfl | exact ⟨_, rfl, rfl⟩ | exact Ext.refl _ | (trace_state; fail)
   · intro A wa hxa hd h0
     obtain ⟨ea, rfl⟩ := Later.mk_ex hxa
     have q5 := depOn hd 5 10 (by kernel_rfl) rfl
     simp [eqF] at q5
     clear hd h0
     go_simp
     first | exact ⟨_, rfl, Ext.refl _, rfl⟩ | exact ⟨Ext.refl _, rfl⟩ | exact rfl | exact ⟨_, rfl, rfl⟩ | exact Ext.refl _ | (trace_state; fail)
   · intro A wa hxa hd h0
     obtain ⟨ea, rfl⟩ := Later.mk_ex hxa
     have q3 := depOn hd 3 8 (by kernel_rfl) rfl
     simp [eqF] at q3
     have q6 := depOn hd 6 11 (by kernel_rfl) rfl
     simp [eqF] at q6
     clear hd h0
     go_simp
     first | exact ⟨_, rfl, Ext.refl _, rfl⟩ | exact ⟨Ext.refl _, rfl⟩ | exact rfl | exact ⟨_, rfl, rfl⟩ | exact Ext.refl _ | (trace_state; fail)
   · intro A wa hxa hd h0
     obtain ⟨ea, rfl⟩ := Later.mk_ex hxa
     have q7 := depOn hd 7 12 (by kernel_rfl) rfl
     simp [eqF] at q7
     clear hd h0
     go_simp
     first | exact ⟨_, rfl, Ext.refl _, rfl⟩ | exact ⟨Ext.refl _, rfl⟩ | exact rfl | exact ⟨_, rfl, rfl⟩ | exact Ext.refl _ | (trace_state; fail)
   · intro A wa hxa hd h0
     obtain ⟨ea, rfl⟩ := Later.mk_ex hxa
     have r1 := rest_at h0 1 (by kernel_rfl)
     simp at r1
     clear hd h0
     go_simp
     first | exact ⟨_, rfl, Ext.refl _, rfl⟩ | exact ⟨Ext.refl _, rfl⟩ | exact rfl | exact ⟨_, rfl, rfl⟩ | exact Ext.refl _ | (trace_state; fail)
   · intro A wa hxa hd h0
     obtain ⟨ea, rfl⟩ := Later.mk_ex hxa
     have q9 := depOn hd 9 14 (by kernel_rfl) rfl
     simp [eqF] at q9
     clear hd h0
     go_simp
     refine (GO.out ea.w ea.ext).mono ?_
     rintro e w2 ⟨rfl, hx⟩
     go_simp
     first | exact ⟨_, rfl, hx, rfl⟩ | exact ⟨hx, rfl⟩ | exact rfl | exact ⟨_, rfl, rfl⟩ | (trace_state; fail)
   · intro A wa hxa hd h0
     obtain ⟨ea, rfl⟩ := Later.mk_ex hxa
     have q10 := depOn hd 10 15 (by kernel_rfl) rfl
     simp [eqF] at q10
     clear hd h0
     go_simp
     first | exact ⟨_, rfl, Ext.refl _, rfl⟩ | exact ⟨Ext.refl _, rfl⟩ | exact rfl | exact ⟨_, rfl, rfl⟩ | exact Ext.refl _ | (trace_state; fail)
   · intro A wa hxa hd h0
     obtain ⟨ea, rfl⟩ := Later.mk_ex hxa
     have q8 := depOn hd 8 13 (by kernel_rfl) rfl
     simp [eqF] at q8
     have q11 := depOn hd 11 16 (by kernel_rfl) rfl
     simp [eqF] at q11
     clear hd h0
     go_simp
     first | exact ⟨_, rfl, Ext.refl _, rfl⟩ | exact ⟨Ext.refl _, rfl⟩ | exact rfl | exact ⟨_, rfl, rfl⟩ | exact Ext.refl _ | (trace_state; fail)
   · intro A wa hxa hd h0
     obtain ⟨ea, rfl⟩ := Later.mk_ex hxa
     have q12 := depOn hd 12 17 (by kernel_rfl) rfl
     simp [eqF] at q12
     clear hd h0
     go_simp
     first | exact ⟨_, rfl, Ext.refl _, rfl⟩ | exact ⟨Ext.refl _, rfl⟩ | exact rfl | exact ⟨_, rfl, rfl⟩ | exact Ext.refl _ | (trace_state; fail)
   · intro A wa hxa hd h0
     obtain ⟨ea, rfl⟩ := Later.mk_ex hxa
     have r1 := rest_at h0 1 (by kernel_rfl)
     simp at r1
     clear hd h0
     go_simp
     first | exact ⟨_, rfl, Ext.refl _, rfl⟩ | exact ⟨Ext.refl _, rfl⟩ | exact rfl | exact ⟨_, rfl, rfl⟩ | exact Ext.refl _ | (trace_state; fail)
   · intro A wa hxa hd h0
     obtain ⟨ea, rfl⟩ := Later.mk_ex hxa
     have q14 := depOn hd 14 19 (by kernel_rfl) rfl
     simp [eqF] at q14
     clear hd h0
     go_simp
     first | exact ⟨_, rfl, Ext.refl _, rfl⟩ | exact ⟨Ext.refl _, rfl⟩ | exact rfl | exact ⟨_, rfl, rfl⟩ | exact Ext.refl _ | (trace_state; fail)
   · intro A wa hxa hd h0
     obtain ⟨ea, rfl⟩ := Later.mk_ex hxa
     have q15 := depOn hd 15 20 (by kernel_rfl) rfl
     simp [eqF] at q15
     clear hd h0
     go_simp
     first | exact ⟨_, rfl, Ext.refl _, rfl⟩ | exact ⟨Ext.refl _, rfl⟩ | exact rfl | exact ⟨_, rfl, rfl⟩ | exact Ext.refl _ | (trace_state; fail)
   · intro A wa hxa hd h0
     obtain ⟨ea, rfl⟩ := Later.mk_ex hxa
     have r3 := rest_at h0 3 (by kernel_rfl)
     simp at r3
     clear hd h0
     go_simp
     first | exact ⟨_, rfl, Ext.refl _, rfl⟩ | exact ⟨Ext.refl _, rfl⟩ | exact rfl | exact ⟨_, rfl, rfl⟩ | exact Ext.refl _ | (trace_state; fail)
   · intro A wa hxa hd h0
     obtain ⟨ea, rfl⟩ := Later.mk_ex hxa
     have r1 := rest_at h0 1 (by kernel_rfl)
     simp at r1
     clear hd h0
     go_simp
     first | exact ⟨_, rfl, Ext.refl _, rfl⟩ | exact ⟨Ext.refl _, rfl⟩ | exact rfl | exact ⟨_, rfl, rfl⟩ | exact Ext.refl _ | (trace_state; fail)
   · intro A wa hxa hd h0
     obtain ⟨ea, rfl⟩ := Later.mk_ex hxa
     have q18 := depOn hd 18 23 (by kernel_rfl) rfl
     simp [eqF] at q18
     clear hd h0
     go_simp
     first | exact ⟨_, rfl, Ext.refl _, rfl⟩ | exact ⟨Ext.refl _, rfl⟩ | exact rfl | exact ⟨_, rfl, rfl⟩ | exact Ext.refl _ | (trace_state; fail)
   · intro A wa hxa hd h0
     obtain ⟨ea, rfl⟩ := Later.mk_ex hxa
     have q17 := depOn hd 17 22 (by kernel_rfl) rfl
     simp [eqF] at q17
     have q19 := depOn hd 19 24 (by kernel_rfl) rfl
     simp [eqF] at q19
     clear hd h0
     go_simp
     first | exact ⟨_, rfl, Ext.refl _, rfl⟩ | exact ⟨Ext.refl _, rfl⟩ | exact rfl | exact ⟨_, rfl, rfl⟩ | exact Ext.refl _ | (trace_state; fail)
   · intro A wa hxa hd h0
     obtain ⟨ea, rfl⟩ := Later.mk_ex hxa
     have q20 := depOn hd 20 25 (by kernel_rfl) rfl
     simp [eqF] at q20
     clear hd h0
     go_simp
     first | exact ⟨_, rfl, Ext.refl _, rfl⟩ | exact ⟨Ext.refl _, rfl⟩ | exact rfl | exact ⟨_, rfl, rfl⟩ | exact Ext.refl _ | (trace_state; fail)
   · intro A wa hxa hd h0
     obtain ⟨ea, rfl⟩ := Later.mk_ex hxa
     have q16 := depOn hd 16 21 (by kernel_rfl) rfl
     simp [eqF] at q16
     have q21 := depOn hd 21 26 (by kernel_rfl) rfl
     simp [eqF] at q21
     clear hd h0
     go_simp
     first | exact ⟨_, rfl, Ext.refl _, rfl⟩ | exact ⟨Ext.refl _, rfl⟩ | exact rfl | exact ⟨_, rfl, rfl⟩ | exact Ext.refl _ | (trace_state; fail)
   · intro A wa hxa hd h0
     obtain ⟨ea, rfl⟩ := Later.mk_ex hxa
     have q13 := depOn hd 13 18 (by kernel_rfl) rfl
     simp [eqF] at q13
     have q22 := depOn hd 22 27 (by kernel_rfl) rfl
     simp [eqF] at q22
     clear hd h0
     go_simp
     first | exact ⟨_, rfl, Ext.refl _, rfl⟩ | exact ⟨Ext.refl _, rfl⟩ | exact rfl | exact ⟨_, rfl, rfl⟩ | exact Ext.refl _ | (trace_state; fail)
   · intro A wa hxa hd h0
     obtain ⟨ea, rfl⟩ := Later.mk_ex hxa
     have q23 := depOn hd 23 28 (by kernel_rfl) rfl
     simp [eqF] at q23
     clear hd h0
     go_simp
     first | exact ⟨_, rfl, Ext.refl _, rfl⟩ | exact ⟨Ext.refl _, rfl⟩ | exact rfl | exact ⟨_, rfl, rfl⟩ | exact Ext.refl _ | (trace_state; fail)
   · intro A wa hxa hd h0
     obtain ⟨ea, rfl⟩ := Later.mk_ex hxa
     have r1 := rest_at h0 1 (by kernel_rfl)
     simp at r1
     clear hd h0
     go_simp
     first | exact ⟨_, rfl, Ext.refl _, rfl⟩ | exact ⟨Ext.refl _, rfl⟩ | exact rfl | exact ⟨_, rfl, rfl⟩ | exact Ext.refl _ | (trace_state; fail)
   · intro A wa hxa hd h0
     obtain ⟨ea, rfl⟩ := Later.mk_ex hxa
     have q25 := depOn hd 25 30 (by kernel_rfl) rfl
     simp [eqF] at q25
     clear hd h0
     go_simp
     first | exact ⟨_, rfl, Ext.refl _, rfl⟩ | exact ⟨Ext.refl _, rfl⟩ | exact rfl | exact ⟨_, rfl, rfl⟩ | exact Ext.refl _ | (trace_state; fail)
   · intro A wa hxa hd h0
     obtain ⟨ea, rfl⟩ := Later.mk_ex hxa
     have q26 := depOn hd 26 31 (by kernel_rfl) rfl
     simp [eqF] at q26
     clear hd h0
     go_simp
     first | exact ⟨_, rfl, Ext.refl _, rfl⟩ | exact ⟨Ext.refl _, rfl⟩ | exact rfl | exact ⟨_, rfl, rfl⟩ | exact Ext.refl _ | (trace_state; fail)
   · intro A wa hxa hd h0
     obtain ⟨ea, rfl⟩ := Later.mk_ex hxa
     have q27 := depOn hd 27 32 (by kernel_rfl) rfl
     simp [eqF] at q27
     clear hd h0
     go_simp
     first | exact ⟨_, rfl, Ext.refl _, rfl⟩ | exact ⟨Ext.refl _, rfl⟩ | exact rfl | exact ⟨_, rfl, rfl⟩ | exact Ext.refl _ | (trace_state; fail)
   · intro A wa hxa hd h0
     obtain ⟨ea, rfl⟩ := Later.mk_ex hxa
     have r1 := rest_at h0 1 (by kernel_rfl)
     simp at r1
     clear hd h0
     go_simp
     first | exact ⟨_, rfl, Ext.refl _, rfl⟩ | exact ⟨Ext.refl _, rfl⟩ | exact rfl | exact ⟨_, rfl, rfl⟩ | exact Ext.refl _ | (trace_state; fail)
   · intro A wa hxa hd h0
     obtain ⟨ea, rfl⟩ := Later.mk_ex hxa
     have q29 := depOn hd 29 34 (by kernel_rfl) rfl
     simp [eqF] at q29
     clear hd h0
     go_simp
     first | exact ⟨_, rfl, Ext.refl _, rfl⟩ | exact ⟨Ext.refl _, rfl⟩ | exact rfl | exact ⟨_, rfl, rfl⟩ | exact Ext.refl _ | (trace_state; fail)
   · intro A wa hxa hd h0
     obtain ⟨ea, rfl⟩ := Later.mk_ex hxa
     have q30 := depOn hd 30 35 (by kernel_rfl) rfl
     simp [eqF] at q30
     clear hd h0
     go_simp
     refine (GT.out ea.w ea.ext).mono ?_
     rintro e w2 ⟨rfl, hx⟩
     go_simp
     first | exact ⟨_, rfl, hx, rfl⟩ | exact ⟨hx, rfl⟩ | exact rfl | exact ⟨_, rfl, rfl⟩ | (trace_state; fail)
   · intro A wa hxa hd h0
     obtain ⟨ea, rfl⟩ := Later.mk_ex hxa
     have q31 := depOn hd 31 36 (by kernel_rfl) rfl
     simp [eqF] at q31
     clear hd h0
     go_simp
     first | exact ⟨_, rfl, Ext.refl _, rfl⟩ | exact ⟨Ext.refl _, rfl⟩ | exact rfl | exact ⟨_, rfl, rfl⟩ | exact Ext.refl _ | (trace_state; fail)
   · intro A wa hxa hd h0
     obtain ⟨ea, rfl⟩ := Later.mk_ex hxa
     have q28 := depOn hd 28 33 (by kernel_rfl) rfl
     simp [eqF] at q28
     have q32 := depOn hd 32 37 (by kernel_rfl) rfl
     simp [eqF] at q32
     clear hd h0
     go_simp
     first | exact ⟨_, rfl, Ext.refl _, rfl⟩ | exact ⟨Ext.refl _, rfl⟩ | exact rfl | exact ⟨_, rfl, rfl⟩ | exact Ext.refl _ | (trace_state; fail)
   · intro A wa hxa hd h0
     obtain ⟨ea, rfl⟩ := Later.mk_ex hxa
     have q24 := depOn hd 24 29 (by kernel_rfl) rfl
     simp [eqF] at q24
     have q33 := depOn hd 33 38 (by kernel_rfl) rfl
     simp [eqF] at q33
     clear hd h0
     go_simp
     first | exact ⟨_, rfl, Ext.refl _, rfl⟩ | exact ⟨Ext.refl _, rfl⟩ | exact rfl | exact ⟨_, rfl, rfl⟩ | exact Ext.refl _ | (trace_state; fail)
 · intro A wa hk
   obtain ⟨hxa, hsz, hdf, hdn, hrs⟩ := hk
   obtain ⟨ea, rfl⟩ := Later.mk_ex hxa
   have k0 := rest_at hrs 0 (by kernel_rfl)
   simp at k0
   have k1 := rest_at hrs 1 (by kernel_rfl)
   simp at k1
   have k2 := rest_at hrs 2 (by kernel_rfl)
   simp at k2
   have k3 := rest_at hrs 3 (by kernel_rfl)
   simp at k3
   have k39 : A.tmps.getD 39 undef = .bool true := hdn 34 39 rfl rfl
   clear hdn hrs
   rw [act_lit hsz hdf]
   simp [List.range, List.range.loop] at k0 k1 k2 k3 k39
   simp [List.range, List.range.loop, k0, k1, k2, k3, k39]
   clear k0 k1 k2 k3 k39 hsz hdf
   generalize A.tmps[4]?.getD undef = A4 at *
   generalize A.tmps[5]?.getD undef = A5 at *
   generalize A.tmps[6]?.getD undef = A6 at *
   generalize A.tmps[7]?.getD undef = A7 at *
   generalize A.tmps[8]?.getD undef = A8 at *
   generalize A.tmps[9]?.getD undef = A9 at *
   generalize A.tmps[10]?.getD undef = A10 at *
   generalize A.tmps[11]?.getD undef = A11 at *
   generalize A.tmps[12]?.getD undef = A12 at *
   generalize A.tmps[13]?.getD undef = A13 at *
   generalize A.tmps[14]?.getD undef = A14 at *
   generalize A.tmps[15]?.getD undef = A15 at *
   generalize A.tmps[16]?.getD undef = A16 at *
   generalize A.tmps[17]?.getD undef = A17 at *
   generalize A.tmps[18]?.getD undef = A18 at *
   generalize A.tmps[19]?.getD undef = A19 at *
   generalize A.tmps[20]?.getD undef = A20 at *
   generalize A.tmps[21]?.getD undef = A21 at *
   generalize A.tmps[22]?.getD undef = A22 at *
   generalize A.tmps[23]?.getD undef = A23 at *
   generalize A.tmps[24]?.getD undef = A24 at *
   generalize A.tmps[25]?.getD undef = A25 at *
   generalize A.tmps[26]?.getD undef = A26 at *
   generalize A.tmps[27]?.getD undef = A27 at *
   generalize A.tmps[28]?.getD undef = A28 at *
   generalize A.tmps[29]?.getD undef = A29 at *
   generalize A.tmps[30]?.getD undef = A30 at *
   generalize A.tmps[31]?.getD undef = A31 at *
   generalize A.tmps[32]?.getD undef = A32 at *
   generalize A.tmps[33]?.getD undef = A33 at *
   generalize A.tmps[34]?.getD undef = A34 at *
   generalize A.tmps[35]?.getD undef = A35 at *
   generalize A.tmps[36]?.getD undef = A36 at *
   generalize A.tmps[37]?.getD undef = A37 at *
   generalize A.tmps[38]?.getD undef = A38 at *
   generalize A.tmps[40]?.getD undef = A40 at *
   generalize A.tmps[41]?.getD undef = A41 at *
   generalize A.tmps[42]?.getD undef = A42 at *
   generalize A.tmps[43]?.getD undef = A43 at *
   generalize A.tmps[44]?.getD undef = A44 at *
   generalize A.tmps[45]?.getD undef = A45 at *
   generalize A.tmps[46]?.getD undef = A46 at *
   generalize A.tmps[47]?.getD undef = A47 at *
   generalize A.tmps[48]?.getD undef = A48 at *
   generalize A.tmps[49]?.getD undef = A49 at *
   generalize A.tmps[50]?.getD undef = A50 at *
   generalize A.tmps[51]?.getD undef = A51 at *
   generalize A.tmps[52]?.getD undef = A52 at *
   generalize A.tmps[53]?.getD undef = A53 at *
   generalize A.tmps[54]?.getD undef = A54 at *
   generalize A.tmps[55]?.getD undef = A55 at *
   generalize A.tmps[56]?.getD undef = A56 at *
   generalize A.tmps[57]?.getD undef = A57 at *
   generalize A.tmps[58]?.getD undef = A58 at *
   generalize A.tmps[59]?.getD undef = A59 at *
   generalize A.tmps[60]?.getD undef = A60 at *
   generalize A.tmps[61]?.getD undef = A61 at *
   generalize A.tmps[62]?.getD undef = A62 at *
   generalize A.tmps[63]?.getD undef = A63 at *
   generalize A.tmps[64]?.getD undef = A64 at *
   generalize A.tmps[65]?.getD undef = A65 at *
   generalize A.tmps[66]?.getD undef = A66 at *
   generalize A.tmps[67]?.getD undef = A67 at *
   go_wp2_with fail
   go_ret
   exact ⟨by rw [R.out]; rfl, HX.out.trans ea.ext⟩
end Go.Proofs.YtjoglnjpgkobeaaGreatDoor
