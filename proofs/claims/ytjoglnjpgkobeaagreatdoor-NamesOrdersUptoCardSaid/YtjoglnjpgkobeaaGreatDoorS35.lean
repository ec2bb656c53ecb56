import Derived.Test.YtjoglnjpgkobeaaGreatDoorProg
import Derived.Test.YtjoglnjpgkobeaaGreatDoorS34
import Derived.Test.YtjoglnjpgkobeaaGreatDoorS30
import Derived.Test.YtjoglnjpgkobeaaGreatDoorS16
import Derived.Test.YtjoglnjpgkobeaaGreatDoorS4
set_option linter.all false
set_option linter.unusedVariables false
set_option linter.unusedSimpArgs false
namespace Go.Proofs.YtjoglnjpgkobeaaGreatDoor
open Go Go.RowKit
attribute [local go_sem] run_store_one
theorem sq_step {a m M : Nat} (h : m + 1 ≤ M) (hb : a + (M + 1) * (M + 1) ≤ 400000000) : a + (m + 1) + (m + 1) * (m + 1) ≤ 400000000 := by
 have h1 : (m + 1) * (m + 1) ≤ M * M := Nat.mul_le_mul h h
 have h2 : (M + 1) * (M + 1) = M * M + 2 * M + 1 := by rw [Nat.add_mul, Nat.mul_add]; omega
 omega
theorem sq_less {a m M : Nat} (h : m + 1 ≤ M) (hb : a + (M + 1) * (M + 1) ≤ 400000000) : a + (m + 1) * (m + 1) ≤ 400000000 := by
 have := sq_step h hb
 omega
set_option maxRecDepth 20000 in
set_option maxHeartbeats 16000000 in
theorem rinner_lt (B : Nat) (m : Nat) : ∀ (l : List Itm) (w : World) (v va : Value) (ar : List ByteArray), Sl (RI w B) w B 9 l v → B ≤ w.heap.size → SStr w ar va → ar.length + (msize sizeI l + 1) * (msize sizeI l + 1) ≤ 400000000 → msize sizeI l ≤ 100000000 → msize sizeI l < m →
   Calls Tryz.prog 80 #[v, va] w fun e w' => e = .returned (.bool (yes (inIs (fun s => s ∈ ar) l))) ∧ Ext w w' := by
 induction m with
 | zero => intro l w v va ar _ _ _ _ _ h; omega
 | succ m ih =>
 intro l w v va ar hS hB hO hsz hsz1 hm
 obtain ⟨a, cap, rfl, hcap, hrow⟩ := hS
 have hln := length_le_msize sizeI l sizeI_pos
 have hal : ar.length ≤ 400000000 := by
   have := Nat.le_add_right ar.length ((msize sizeI l + 1) * (msize sizeI l + 1))
   omega
 have HSZ := hide hsz
 have IH := hide ih
 have HO := hide hO
 obtain ⟨aa, ac, rfl, -, -⟩ := hO
 clear ih hsz
 go_enter Tryz.func80, Tryz.ntmps80
 go_wp2_with fail
 go_loopw [5] (fun i wr => ∃ k : Nat, k ≤ l.length ∧ i = .int .i64 k ∧ (∀ j, ∀ h : j < l.length, j < k → inI (fun s => s ∈ ar) l[j]) ∧ Ext w wr) (fun i _ => l.length - (intOf i).toNat)
 case atStart => exact ⟨0, Nat.zero_le _, rfl, fun j h hj => absurd hj (by omega), Ext.refl _⟩
 case round =>
   obtain ⟨k, hk, rfl, hpre, hx⟩ := hrel
   have HP := hide hpre
   clear hpre
   by_cases hlt : k < l.length
   · have hs2 := msize_mem sizeI l l[k] (List.getElem_mem hlt)
     have HNEXT := hide (show inI (fun s => s ∈ ar) l[k] → ∀ j, ∀ h : j < l.length, j < k + 1 → inI (fun s => s ∈ ar) l[j] from fun hin j h hj => if e : j = k then by subst e; exact hin else HP.out j h (by omega))
     have HFALSE := hide (show ¬ inI (fun s => s ∈ ar) l[k] → yes (inIs (fun s => s ∈ ar) l) = false from fun hin => yes_no.2 fun h => hin (inIs_iff.1 h _ (List.getElem_mem hlt)))
     obtain ⟨b, o, v0, v1, v2, v3, v4, v5, v6, v7, v8, rfl, hbB, hE, hC, o0, o1, o2, o3, o4, o5, o6, o7, o8⟩ := hrow.open9 hlt
     generalize l[k] = y at *
     obtain ⟨_, _, _, _, _, _, he, hX, hSS, hL, hE', hP, hBb⟩ := RI_iff.1 hE
     simp only [List.cons.injEq, and_true] at he
     obtain ⟨rfl, rfl, rfl, rfl, rfl, rfl, rfl, rfl, rfl⟩ := he
     obtain ⟨d0, d1, d2, d3, d4, d5, d6, d7, d8⟩ := (hC.ext hx).get9
     obtain ⟨Wb, Wc, hVb, ⟨p0, p1, p2, p3, p4, p5, p6, p7, p8⟩, ⟨q0, q1, q2, q3, q4, q5, q6, q7, q8⟩, hVc, hbc, hxc, -⟩ := varI wr (.int .i64 y.op) (.string y.name) (.string y.of) v3 v4 v5 v6 v7 v8
     have hdef := sizeI_eq y
     have hxW := hx.trans hxc
     have hB' : B ≤ Wc.heap.size := Nat.le_trans hB hxW.size
     have HL := hide (fun (w' : World) (hw : Ext Wc w') => hL.extRI (hxW.trans hw) hB)
     have HE := hide (fun (w' : World) (hw : Ext Wc w') => hE'.extRI (hxW.trans hw) hB)
     have m1 : msize sizeI y.l < m := by omega
     have m2 : msize sizeI y.els < m := by omega
     have g1 : msize sizeI y.l + 1 ≤ msize sizeI l := by omega
     have g2 : msize sizeI y.els + 1 ≤ msize sizeI l := by omega
     have HX := hide hxW
     have HS := hide (HO.out.ext hxW)
     have hbx : ar.length + msize sizeS y.s ≤ 400000000 := by
       have h1 := HSZ.out
       have h2 : msize sizeI l + 1 ≤ (msize sizeI l + 1) * (msize sizeI l + 1) := Nat.le_mul_of_pos_right _ (by omega)
       omega
     have KL := hide (rloops_lt B _ y.s Wc v4 (.slice aa ar.length ac) ar (hSS.extRS hxW hB) hB' HS.out hbx (Nat.lt_succ_self _))
     have HBC := hide hbc
     obtain ⟨e0, e1, e2, e3, e4, e5, e6, e7, e8⟩ := hbc.get9
     clear hC hrow hE hX hSS hL hE' hP hBb hdef hs2 hx hxc hxW hbc hbx
     by_cases hl : lpSs (fun s => s ∈ ar) y.s
     rotate_left
     · have HF := hide (HFALSE.out fun h => hl ((inI_eq _ _).1 h).1)
       rw [yes_no.2 hl] at KL
       clear hl
       go_wp2_with fail
       go_at_call 118
       refine KL.out.mono ?_
       rintro _ w2 ⟨rfl, hx2⟩
       have HX2 := hide (HX.out.trans hx2)
       clear hx2
       go_wp2_with fail
       go_ret
       exact ⟨by rw [HF.out]; rfl, HX2.out⟩
     rw [yes_iff.2 hl] at KL
     have HLP := hide hl
     clear hl
     go_wp2_with fail
     go_at_call 118
     refine KL.out.mono ?_
     rintro _ w2 ⟨rfl, hx2⟩
     have HX2 := hide (HX.out.trans hx2)
     have X2 := hide hx2
     clear hVb hVc p0 p1 p2 p3 p4 p5 p6 p7 p8 q0 q1 q2 q3 q4 q5 q6 q7 q8 d0 d1 d2 d3 d4 d5 d6 d7 d8 e0 e1 e2 e3 e4 e5 e6 e7 e8 KL
     obtain ⟨e0, e1, e2, e3, e4, e5, e6, e7, e8⟩ := (HBC.out.ext hx2).get9
     clear hx2
     by_cases h8 : y.op = 8
     · have h9 : ¬ y.op = 9 := by omega
       have HQ := hide (show inI (fun s => s ∈ ar) y ↔ inIs (fun s => s ∈ ar) y.l ∧ inIs (fun s => s ∈ ar) y.els from by
         rw [inI_eq]
         exact ⟨fun h => h.2.1 h8, fun h => ⟨HLP.out, fun _ => h, fun h' => absurd h' h9⟩⟩)
       rw [h8] at e0 HBC
       have K1 := hide (IH.out y.l w2 _ (.slice aa ar.length ac) ar (HL.out w2 X2.out) (Nat.le_trans hB' X2.out.size) (HS.out.ext X2.out) (sq_less g1 HSZ.out) (by omega) m1)
       clear h8 h9
       by_cases hq1 : inIs (fun s => s ∈ ar) y.l
       · rw [yes_iff.2 hq1] at K1
         go_wp2_with fail
         go_at_call 80
         refine K1.out.mono ?_
         rintro _ w3 ⟨rfl, hx3⟩
         have X3 := hide (X2.out.trans hx3)
         have HX3 := hide (HX2.out.trans hx3)
         clear e0 e1 e2 e3 e4 e5 e6 e7 e8 K1
         obtain ⟨e0, e1, e2, e3, e4, e5, e6, e7, e8⟩ := (HBC.out.ext X3.out).get9
         have K2 := hide (IH.out y.els w3 _ (.slice aa ar.length ac) ar (HE.out w3 X3.out) (Nat.le_trans hB' X3.out.size) (HS.out.ext X3.out) (sq_less g2 HSZ.out) (by omega) m2)
         clear hx3
         by_cases hq2 : inIs (fun s => s ∈ ar) y.els
         · rw [yes_iff.2 hq2] at K2
           have HN := hide (HNEXT.out (HQ.out.2 ⟨hq1, hq2⟩))
           have h80 : ((8 : Int) == 9) = false := rfl
           go_wp2_with fail
           go_at_call 80
           refine K2.out.mono ?_
           rintro _ w4 ⟨rfl, hx4⟩
           have HX4 := hide (HX3.out.trans hx4)
           clear e0 e1 e2 e3 e4 e5 e6 e7 e8 K2
           obtain ⟨e0, e1, e2, e3, e4, e5, e6, e7, e8⟩ := (HBC.out.ext (X3.out.trans hx4)).get9
           clear hx4
           go_wp2_with fail
           go_roundw
           case rel => exact ⟨k + 1, by omega, by go_num, HN.out, HX4.out⟩
           case measure => simp [intOf]; omega
         · rw [yes_no.2 hq2] at K2
           have HF := hide (HFALSE.out fun h => hq2 (HQ.out.1 h).2)
           clear hq1 hq2
           go_wp2_with fail
           go_at_call 80
           refine K2.out.mono ?_
           rintro _ w4 ⟨rfl, hx4⟩
           have HX4 := hide (HX3.out.trans hx4)
           clear hx4
           go_wp2_with fail
           go_ret
           exact ⟨by rw [HF.out]; rfl, HX4.out⟩
       · rw [yes_no.2 hq1] at K1
         have HF := hide (HFALSE.out fun h => hq1 (HQ.out.1 h).1)
         clear hq1
         go_wp2_with fail
         go_at_call 80
         refine K1.out.mono ?_
         rintro _ w3 ⟨rfl, hx3⟩
         have HX3 := hide (HX2.out.trans hx3)
         clear hx3
         go_wp2_with fail
         go_ret
         exact ⟨by rw [HF.out]; rfl, HX3.out⟩
     by_cases h9 : y.op = 9
     rotate_left
     · have HN := hide (HNEXT.out ((inI_eq _ _).2 ⟨HLP.out, fun h => absurd h h8, fun h => absurd h h9⟩))
       have h8' : ((y.op : Int) == 8) = false := by simpa using h8
       have h9' : ((y.op : Int) == 9) = false := by simpa using h9
       generalize y.op = yo at *
       clear h8 h9
       go_wp2_with fail
       go_roundw
       case rel => exact ⟨k + 1, by omega, by go_num, HN.out, HX2.out⟩
       case measure => simp [intOf]; omega
     have HQ := hide (show inI (fun s => s ∈ ar) y ↔ (tokL y.l ∧ ¬ y.of ∈ tnIs y.l) ∧ (∀ s, s ∈ tnIs y.l ++ [y.of] → ¬ s ∈ ar) ∧ inIs (fun s => s ∈ ar ++ (tnIs y.l ++ [y.of])) y.l from by
       rw [inI_eq]
       have hc : ∀ s, s ∈ ar ++ (tnIs y.l ++ [y.of]) ↔ s ∈ ar ∨ s ∈ tnIs y.l ∨ s = y.of := fun s => by simp
       rw [ins_congr hc]
       constructor
       · rintro ⟨-, -, h⟩
         obtain ⟨h1, h2, h3, h4⟩ := h h9
         exact ⟨⟨h1, h2⟩, fun s hs => h3 s (by simpa using hs), h4⟩
       · rintro ⟨⟨h1, h2⟩, h3, h4⟩
         exact ⟨HLP.out, fun h => absurd h h8, fun _ => ⟨h1, h2, fun t ht => h3 t (by simpa using ht), h4⟩⟩)
     have HSQ := hide (sq_step g1 HSZ.out)
     have htl := tns_len y.l
     rw [h9] at e0 HBC
     have KT := hide (rtold_any B y.l (by omega) w2 v5 (HL.out w2 X2.out) (Nat.le_trans hB' X2.out.size))
     clear h8 h9
     go_wp2_with fail
     go_at_call 116
     refine KT.out.mono ?_
     rintro _ w3 ⟨v3', rfl, hs3, hx3⟩
     have X3 := hide (X2.out.trans hx3)
     clear e0 e1 e2 e3 e4 e5 e6 e7 e8 KT hx3
     obtain ⟨ta, tn, tc, rfl⟩ : ∃ a n c, v3' = .slice a n c := by obtain ⟨a', c', h, -⟩ := hs3; exact ⟨a', _, c', h⟩
     obtain ⟨Wd, We, hVd, ⟨p0, p1⟩, ⟨q0, q1⟩, hVe, hbe, hxe⟩ := varScp w3 (.slice ta tn tc) (.bool (yes (tokL y.l)))
     have X4 := hide (X3.out.trans hxe)
     obtain ⟨e0, e1, e2, e3, e4, e5, e6, e7, e8⟩ := (HBC.out.ext X4.out).get9
     obtain ⟨s0, s1⟩ := hbe.get2
     have KM := hide (rtell_any (tnIs y.l) (yes (tokL y.l)) y.of We (.slice ta tn tc) (hs3.ext hxe) (by omega))
     rw [yes_and_not] at KM
     generalize yes (tokL y.l) = okt at *
     clear hbe hxe hs3
     go_wp2_with fail
     go_at_call 117
     refine KM.out.mono ?_
     rintro _ wo ⟨vo, rfl, hso, hxo⟩
     have X5 := hide (X4.out.trans hxo)
     clear e0 e1 e2 e3 e4 e5 e6 e7 e8 s0 s1 KM hxo hVd hVe p0 p1 q0 q1
     obtain ⟨own, hown⟩ : ∃ own, tnIs y.l ++ [y.of] = own := ⟨_, rfl⟩
     have hol : own.length ≤ msize sizeI y.l + 1 := by rw [← hown, List.length_append]; simp; omega
     rw [hown] at hso HQ
     obtain ⟨oa, oc, rfl, -⟩ := id hso
     obtain ⟨Wf, wz, hVf, ⟨p0, p1⟩, ⟨q0, q1⟩, hVg, hbz, hxz⟩ := varScp wo (.slice oa own.length oc) (.bool (yes (tokL y.l ∧ ¬ y.of ∈ tnIs y.l)))
     have X6 := hide (X5.out.trans hxz)
     have HX6 := hide (HX.out.trans X6.out)
     have HBZ := hide hbz
     have HOWN := hide (fun (e : Later wz) => show SStr e.w own (.slice oa own.length oc) from (hso.ext hxz).ext e.ext)
     have HAR := hide (fun (e : Later wz) => HS.out.ext (X6.out.trans e.ext))
     have KAP := hide (fun (e : Later wz) => (rapart_any own ar e.w (.slice oa own.length oc) (.slice aa ar.length ac) ((hso.ext hxz).ext e.ext) (HAR.out e) (by omega) (by omega)).mono fun x w' h => (show x = .returned (.bool (yes (∀ s, s ∈ own → ¬ s ∈ ar))) ∧ Ext e.w w' from ⟨h.1, h.2 ▸ Ext.refl _⟩))
     have HIN := hide (fun (e : Later wz) (u : Value) (hu : SStr e.w (ar ++ own) u) => IH.out y.l e.w v5 u (ar ++ own) (HL.out e.w (X6.out.trans e.ext)) (Nat.le_trans hB' (X6.out.trans e.ext).size) hu (by have := HSQ.out; rw [List.length_append]; omega) (by omega) m1)
     have hownle : own.length ≤ 200000000 := by omega
     obtain ⟨s0, s1⟩ := hbz.get2
     clear hown hso hbz hxz
     by_cases hok : tokL y.l ∧ ¬ y.of ∈ tnIs y.l
     rotate_left
     · rw [yes_no.2 hok] at hVg s1 HBZ
       have HF := hide (HFALSE.out fun h => hok (HQ.out.1 h).1)
       rw [yes_no.2 hok]
       clear hok
       have t0 := HBZ.out.later2
       obtain ⟨t0, t1⟩ := t0
       go_wp2_with fail
       clear hVf hVg p0 p1 q0 q1 s0 s1
       refine wp_region_facts_n (W := wz) (eqF [.pointer (some ⟨wo.heap.size, 1, none⟩), .bool false, .bool true, .bool true, undef, undef, undef, undef, undef, .bool true, .bool true, undef, undef, undef, undef, undef, undef, undef, undef, undef, undef, .bool true]) (fun i => match i with | 4 | 5 | 6 | 7 | 8 | 11 | 12 | 13 | 14 | 15 | 16 | 17 | 18 | 19 | 20 => false | _ => true) (by kernel_rfl) (by kernel_rfl) ?_ (Ext.refl _) (fun i v w w' h hx => eqF_ext h hx) ?_ ?_
       · simp [GuardsSay, eqF]
       · refine ⟨?_, ?_, ?_, ?_, ?_, ?_, ?_, ?_, ?_, ?_, ?_, ?_, ?_, ?_, ?_, ?_, ?_, ?_, ?_, ?_, ?_, ?_, trivial⟩
         · intro A wa hxa hd h0
           obtain ⟨ea, rfl⟩ := Later.mk_ex hxa
           have r8 := rest_at h0 8 (by kernel_rfl)
           simp at r8
           clear hd h0
           go_simp
           first | exact ⟨_, rfl, Ext.refl _, rfl⟩ | exact ⟨Ext.refl _, rfl⟩ | exact rfl | exact ⟨_, rfl, rfl⟩ | exact Ext.refl _ | (trace_state; fail)
         · intro A wa hxa hd h0
           obtain ⟨ea, rfl⟩ := Later.mk_ex hxa
           have q0 := depOn hd 0 55 (by kernel_rfl) rfl
           simp [eqF] at q0
           clear hd h0
           go_simp
           first | exact ⟨_, rfl, Ext.refl _, rfl⟩ | exact ⟨Ext.refl _, rfl⟩ | exact rfl | exact ⟨_, rfl, rfl⟩ | exact Ext.refl _ | (trace_state; fail)
         · intro A wa hxa hd h0
           obtain ⟨ea, rfl⟩ := Later.mk_ex hxa
           have q1 := depOn hd 1 56 (by kernel_rfl) rfl
           simp [eqF] at q1
           clear hd h0
           go_simp
           first | exact ⟨_, rfl, Ext.refl _, rfl⟩ | exact ⟨Ext.refl _, rfl⟩ | exact rfl | exact ⟨_, rfl, rfl⟩ | exact Ext.refl _ | (trace_state; fail)
         · intro A wa hxa hd h0
           obtain ⟨ea, rfl⟩ := Later.mk_ex hxa
           have q2 := depOn hd 2 57 (by kernel_rfl) rfl
           simp [eqF] at q2
           clear hd h0
           go_simp
           first | exact ⟨_, rfl, Ext.refl _, rfl⟩ | exact ⟨Ext.refl _, rfl⟩ | exact rfl | exact ⟨_, rfl, rfl⟩ | exact Ext.refl _ | (trace_state; fail)
         · exact fun w => rfl
         · exact fun w => rfl
         · exact fun w => rfl
         · exact fun w => rfl
         · exact fun w => rfl
         · intro A wa hxa hd h0
           obtain ⟨ea, rfl⟩ := Later.mk_ex hxa
           have q3 := depOn hd 3 58 (by kernel_rfl) rfl
           simp [eqF] at q3
           have q8 := depOn hd 8 63 (by kernel_rfl) rfl
           simp [eqF] at q8
           clear hd h0
           go_simp
           first | exact ⟨_, rfl, Ext.refl _, rfl⟩ | exact ⟨Ext.refl _, rfl⟩ | exact rfl | exact ⟨_, rfl, rfl⟩ | exact Ext.refl _ | (trace_state; fail)
         · intro A wa hxa hd h0
           obtain ⟨ea, rfl⟩ := Later.mk_ex hxa
           have q9 := depOn hd 9 64 (by kernel_rfl) rfl
           simp [eqF] at q9
           clear hd h0
           go_simp
           first | exact ⟨_, rfl, Ext.refl _, rfl⟩ | exact ⟨Ext.refl _, rfl⟩ | exact rfl | exact ⟨_, rfl, rfl⟩ | exact Ext.refl _ | (trace_state; fail)
         · exact fun w => rfl
         · exact fun w => rfl
         · exact fun w => rfl
         · exact fun w => rfl
         · exact fun w => rfl
         · exact fun w => rfl
         · exact fun w => rfl
         · exact fun w => rfl
         · exact fun w => rfl
         · exact fun w => rfl
         · intro A wa hxa hd h0
           obtain ⟨ea, rfl⟩ := Later.mk_ex hxa
           have q10 := depOn hd 10 65 (by kernel_rfl) rfl
           simp [eqF] at q10
           have q20 := depOn hd 20 75 (by kernel_rfl) rfl
           simp [eqF] at q20
           clear hd h0
           go_simp
           first | exact ⟨_, rfl, Ext.refl _, rfl⟩ | exact ⟨Ext.refl _, rfl⟩ | exact rfl | exact ⟨_, rfl, rfl⟩ | exact Ext.refl _ | (trace_state; fail)
       · intro A wa hk
         obtain ⟨hxa, hsz, hdf, hdn, hrs⟩ := hk
         obtain ⟨ea, rfl⟩ := Later.mk_ex hxa
         have k76 : A.tmps.getD 76 undef = .bool true := hdn 21 76 rfl rfl
         clear hdn hrs
         rw [act_lit hsz hdf]
         simp [List.range, List.range.loop] at k76
         simp [List.range, List.range.loop, k76]
         clear k76 hsz hdf
         generalize A.tmps[0]?.getD undef = A0 at *
         generalize A.tmps[1]?.getD undef = A1 at *
         generalize A.tmps[2]?.getD undef = A2 at *
         generalize A.tmps[3]?.getD undef = A3 at *
         generalize A.tmps[4]?.getD undef = A4 at *
         generalize A.tmps[5]?.getD undef = A5 at *
         generalize A.tmps[6]?.getD undef = A6 at *
         generalize A.tmps[7]?.getD undef = A7 at *
         generalize A.tmps[8]?.getD undef = A8 at *
         generalize A.tmps[9]?.getD undef = A9 at *
         generalize A.tmps[10]?.getD undef = A10 at *
         generalize A.tmps[11]?.getD undef = A11 at *
         generalize A.tmps[12]?.getD undef = A12 at *
         generalize A.tmps[13]?.getD undef = A13 at *
         generalize A.tmps[14]?.getD undef = A14 at *
         generalize A.tmps[15]?.getD undef = A15 at *
         generalize A.tmps[16]?.getD undef = A16 at *
         generalize A.tmps[17]?.getD undef = A17 at *
         generalize A.tmps[18]?.getD undef = A18 at *
         generalize A.tmps[19]?.getD undef = A19 at *
         generalize A.tmps[20]?.getD undef = A20 at *
         generalize A.tmps[21]?.getD undef = A21 at *
         generalize A.tmps[22]?.getD undef = A22 at *
         generalize A.tmps[23]?.getD undef = A23 at *
         generalize A.tmps[24]?.getD undef = A24 at *
         generalize A.tmps[25]?.getD undef = A25 at *
         generalize A.tmps[26]?.getD undef = A26 at *
         generalize A.tmps[27]?.getD undef = A27 at *
         generalize A.tmps[28]?.getD undef = A28 at *
         generalize A.tmps[29]?.getD undef = A29 at *
         generalize A.tmps[30]?.getD undef = A30 at *
         generalize A.tmps[31]?.getD undef = A31 at *
         generalize A.tmps[32]?.getD undef = A32 at *
         generalize A.tmps[33]?.getD undef = A33 at *
         generalize A.tmps[34]?.getD undef = A34 at *
         generalize A.tmps[35]?.getD undef = A35 at *
         generalize A.tmps[36]?.getD undef = A36 at *
         generalize A.tmps[37]?.getD undef = A37 at *
         generalize A.tmps[38]?.getD undef = A38 at *
         generalize A.tmps[39]?.getD undef = A39 at *
         generalize A.tmps[40]?.getD undef = A40 at *
         generalize A.tmps[41]?.getD undef = A41 at *
         generalize A.tmps[42]?.getD undef = A42 at *
         generalize A.tmps[43]?.getD undef = A43 at *
         generalize A.tmps[44]?.getD undef = A44 at *
         generalize A.tmps[45]?.getD undef = A45 at *
         generalize A.tmps[46]?.getD undef = A46 at *
         generalize A.tmps[47]?.getD undef = A47 at *
         generalize A.tmps[48]?.getD undef = A48 at *
         generalize A.tmps[49]?.getD undef = A49 at *
         generalize A.tmps[50]?.getD undef = A50 at *
         generalize A.tmps[51]?.getD undef = A51 at *
         generalize A.tmps[52]?.getD undef = A52 at *
         generalize A.tmps[53]?.getD undef = A53 at *
         generalize A.tmps[54]?.getD undef = A54 at *
         generalize A.tmps[55]?.getD undef = A55 at *
         generalize A.tmps[56]?.getD undef = A56 at *
         generalize A.tmps[57]?.getD undef = A57 at *
         generalize A.tmps[58]?.getD undef = A58 at *
         generalize A.tmps[59]?.getD undef = A59 at *
         generalize A.tmps[60]?.getD undef = A60 at *
         generalize A.tmps[61]?.getD undef = A61 at *
         generalize A.tmps[62]?.getD undef = A62 at *
         generalize A.tmps[63]?.getD undef = A63 at *
         generalize A.tmps[64]?.getD undef = A64 at *
         generalize A.tmps[65]?.getD undef = A65 at *
         generalize A.tmps[66]?.getD undef = A66 at *
         generalize A.tmps[67]?.getD undef = A67 at *
         generalize A.tmps[68]?.getD undef = A68 at *
         generalize A.tmps[69]?.getD undef = A69 at *
         generalize A.tmps[70]?.getD undef = A70 at *
         generalize A.tmps[71]?.getD undef = A71 at *
         generalize A.tmps[72]?.getD undef = A72 at *
         generalize A.tmps[73]?.getD undef = A73 at *
         generalize A.tmps[74]?.getD undef = A74 at *
         generalize A.tmps[75]?.getD undef = A75 at *
         go_wp2_with fail
         go_ret
         exact ⟨by rw [HF.out]; rfl, HX6.out.trans ea.ext⟩
     rw [yes_iff.2 hok] at hVg s1 HBZ
     rw [yes_iff.2 hok]
     obtain ⟨t0, t1⟩ := HBZ.out.later2
     by_cases hap : ∀ s, s ∈ own → ¬ s ∈ ar
     rotate_left
     · rw [yes_no.2 hap] at KAP
       have HF := hide (HFALSE.out fun h => hap (HQ.out.1 h).2.1)
       clear hok hap
       go_wp2_with fail
       clear hVf hVg p0 p1 q0 q1 s0 s1
       refine wp_region_facts_n (W := wz) (eqF [.pointer (some ⟨wo.heap.size, 1, none⟩), .bool true, .bool false, .bool false, .pointer (some ⟨wo.heap.size, 0, none⟩), .slice oa own.length oc, .slice aa ar.length ac, .bool false, .bool true, .bool true, .bool true, undef, undef, undef, undef, undef, undef, undef, undef, undef, undef, .bool true]) (fun i => match i with | 11 | 12 | 13 | 14 | 15 | 16 | 17 | 18 | 19 | 20 => false | _ => true) (by kernel_rfl) (by kernel_rfl) ?_ (Ext.refl _) (fun i v w w' h hx => eqF_ext h hx) ?_ ?_
       · simp [GuardsSay, eqF]
       · refine ⟨?_, ?_, ?_, ?_, ?_, ?_, ?_, ?_, ?_, ?_, ?_, ?_, ?_, ?_, ?_, ?_, ?_, ?_, ?_, ?_, ?_, ?_, trivial⟩
         · intro A wa hxa hd h0
           obtain ⟨ea, rfl⟩ := Later.mk_ex hxa
           have r8 := rest_at h0 8 (by kernel_rfl)
           simp at r8
           clear hd h0
           go_simp
           first | exact ⟨_, rfl, Ext.refl _, rfl⟩ | exact ⟨Ext.refl _, rfl⟩ | exact rfl | exact ⟨_, rfl, rfl⟩ | exact Ext.refl _ | (trace_state; fail)
         · intro A wa hxa hd h0
           obtain ⟨ea, rfl⟩ := Later.mk_ex hxa
           have q0 := depOn hd 0 55 (by kernel_rfl) rfl
           simp [eqF] at q0
           clear hd h0
           go_simp
           first | exact ⟨_, rfl, Ext.refl _, rfl⟩ | exact ⟨Ext.refl _, rfl⟩ | exact rfl | exact ⟨_, rfl, rfl⟩ | exact Ext.refl _ | (trace_state; fail)
         · intro A wa hxa hd h0
           obtain ⟨ea, rfl⟩ := Later.mk_ex hxa
           have q1 := depOn hd 1 56 (by kernel_rfl) rfl
           simp [eqF] at q1
           clear hd h0
           go_simp
           first | exact ⟨_, rfl, Ext.refl _, rfl⟩ | exact ⟨Ext.refl _, rfl⟩ | exact rfl | exact ⟨_, rfl, rfl⟩ | exact Ext.refl _ | (trace_state; fail)
         · intro A wa hxa hd h0
           obtain ⟨ea, rfl⟩ := Later.mk_ex hxa
           have q2 := depOn hd 2 57 (by kernel_rfl) rfl
           simp [eqF] at q2
           clear hd h0
           go_simp
           first | exact ⟨_, rfl, Ext.refl _, rfl⟩ | exact ⟨Ext.refl _, rfl⟩ | exact rfl | exact ⟨_, rfl, rfl⟩ | exact Ext.refl _ | (trace_state; fail)
         · intro A wa hxa hd h0
           obtain ⟨ea, rfl⟩ := Later.mk_ex hxa
           have r8 := rest_at h0 8 (by kernel_rfl)
           simp at r8
           clear hd h0
           go_simp
           first | exact ⟨_, rfl, Ext.refl _, rfl⟩ | exact ⟨Ext.refl _, rfl⟩ | exact rfl | exact ⟨_, rfl, rfl⟩ | exact Ext.refl _ | (trace_state; fail)
         · intro A wa hxa hd h0
           obtain ⟨ea, rfl⟩ := Later.mk_ex hxa
           have q4 := depOn hd 4 59 (by kernel_rfl) rfl
           simp [eqF] at q4
           clear hd h0
           go_simp
           first | exact ⟨_, rfl, Ext.refl _, rfl⟩ | exact ⟨Ext.refl _, rfl⟩ | exact rfl | exact ⟨_, rfl, rfl⟩ | exact Ext.refl _ | (trace_state; fail)
         · intro A wa hxa hd h0
           obtain ⟨ea, rfl⟩ := Later.mk_ex hxa
           have r1 := rest_at h0 1 (by kernel_rfl)
           simp at r1
           clear hd h0
           go_simp
           first | exact ⟨_, rfl, Ext.refl _, rfl⟩ | exact ⟨Ext.refl _, rfl⟩ | exact rfl | exact ⟨_, rfl, rfl⟩ | exact Ext.refl _ | (trace_state; fail)
         · intro A wa hxa hd h0
           obtain ⟨ea, rfl⟩ := Later.mk_ex hxa
           have q5 := depOn hd 5 60 (by kernel_rfl) rfl
           simp [eqF] at q5
           have q6 := depOn hd 6 61 (by kernel_rfl) rfl
           simp [eqF] at q6
           clear hd h0
           go_simp
           refine (KAP.out ea).mono ?_
           rintro e w2 ⟨rfl, hx⟩
           go_simp
           first | exact ⟨_, rfl, hx, rfl⟩ | exact ⟨hx, rfl⟩ | exact rfl | exact ⟨_, rfl, rfl⟩ | (trace_state; fail)
         · intro A wa hxa hd h0
           obtain ⟨ea, rfl⟩ := Later.mk_ex hxa
           have q7 := depOn hd 7 62 (by kernel_rfl) rfl
           simp [eqF] at q7
           clear hd h0
           go_simp
           first | exact ⟨_, rfl, Ext.refl _, rfl⟩ | exact ⟨Ext.refl _, rfl⟩ | exact rfl | exact ⟨_, rfl, rfl⟩ | exact Ext.refl _ | (trace_state; fail)
         · intro A wa hxa hd h0
           obtain ⟨ea, rfl⟩ := Later.mk_ex hxa
           have q3 := depOn hd 3 58 (by kernel_rfl) rfl
           simp [eqF] at q3
           have q8 := depOn hd 8 63 (by kernel_rfl) rfl
           simp [eqF] at q8
           clear hd h0
           go_simp
           first | exact ⟨_, rfl, Ext.refl _, rfl⟩ | exact ⟨Ext.refl _, rfl⟩ | exact rfl | exact ⟨_, rfl, rfl⟩ | exact Ext.refl _ | (trace_state; fail)
         · intro A wa hxa hd h0
           obtain ⟨ea, rfl⟩ := Later.mk_ex hxa
           have q9 := depOn hd 9 64 (by kernel_rfl) rfl
           simp [eqF] at q9
           clear hd h0
           go_simp
           first | exact ⟨_, rfl, Ext.refl _, rfl⟩ | exact ⟨Ext.refl _, rfl⟩ | exact rfl | exact ⟨_, rfl, rfl⟩ | exact Ext.refl _ | (trace_state; fail)
         · exact fun w => rfl
         · exact fun w => rfl
         · exact fun w => rfl
         · exact fun w => rfl
         · exact fun w => rfl
         · exact fun w => rfl
         · exact fun w => rfl
         · exact fun w => rfl
         · exact fun w => rfl
         · exact fun w => rfl
         · intro A wa hxa hd h0
           obtain ⟨ea, rfl⟩ := Later.mk_ex hxa
           have q10 := depOn hd 10 65 (by kernel_rfl) rfl
           simp [eqF] at q10
           have q20 := depOn hd 20 75 (by kernel_rfl) rfl
           simp [eqF] at q20
           clear hd h0
           go_simp
           first | exact ⟨_, rfl, Ext.refl _, rfl⟩ | exact ⟨Ext.refl _, rfl⟩ | exact rfl | exact ⟨_, rfl, rfl⟩ | exact Ext.refl _ | (trace_state; fail)
       · intro A wa hk
         obtain ⟨hxa, hsz, hdf, hdn, hrs⟩ := hk
         obtain ⟨ea, rfl⟩ := Later.mk_ex hxa
         have k76 : A.tmps.getD 76 undef = .bool true := hdn 21 76 rfl rfl
         clear hdn hrs
         rw [act_lit hsz hdf]
         simp [List.range, List.range.loop] at k76
         simp [List.range, List.range.loop, k76]
         clear k76 hsz hdf
         generalize A.tmps[0]?.getD undef = A0 at *
         generalize A.tmps[1]?.getD undef = A1 at *
         generalize A.tmps[2]?.getD undef = A2 at *
         generalize A.tmps[3]?.getD undef = A3 at *
         generalize A.tmps[4]?.getD undef = A4 at *
         generalize A.tmps[5]?.getD undef = A5 at *
         generalize A.tmps[6]?.getD undef = A6 at *
         generalize A.tmps[7]?.getD undef = A7 at *
         generalize A.tmps[8]?.getD undef = A8 at *
         generalize A.tmps[9]?.getD undef = A9 at *
         generalize A.tmps[10]?.getD undef = A10 at *
         generalize A.tmps[11]?.getD undef = A11 at *
         generalize A.tmps[12]?.getD undef = A12 at *
         generalize A.tmps[13]?.getD undef = A13 at *
         generalize A.tmps[14]?.getD undef = A14 at *
         generalize A.tmps[15]?.getD undef = A15 at *
         generalize A.tmps[16]?.getD undef = A16 at *
         generalize A.tmps[17]?.getD undef = A17 at *
         generalize A.tmps[18]?.getD undef = A18 at *
         generalize A.tmps[19]?.getD undef = A19 at *
         generalize A.tmps[20]?.getD undef = A20 at *
         generalize A.tmps[21]?.getD undef = A21 at *
         generalize A.tmps[22]?.getD undef = A22 at *
         generalize A.tmps[23]?.getD undef = A23 at *
         generalize A.tmps[24]?.getD undef = A24 at *
         generalize A.tmps[25]?.getD undef = A25 at *
         generalize A.tmps[26]?.getD undef = A26 at *
         generalize A.tmps[27]?.getD undef = A27 at *
         generalize A.tmps[28]?.getD undef = A28 at *
         generalize A.tmps[29]?.getD undef = A29 at *
         generalize A.tmps[30]?.getD undef = A30 at *
         generalize A.tmps[31]?.getD undef = A31 at *
         generalize A.tmps[32]?.getD undef = A32 at *
         generalize A.tmps[33]?.getD undef = A33 at *
         generalize A.tmps[34]?.getD undef = A34 at *
         generalize A.tmps[35]?.getD undef = A35 at *
         generalize A.tmps[36]?.getD undef = A36 at *
         generalize A.tmps[37]?.getD undef = A37 at *
         generalize A.tmps[38]?.getD undef = A38 at *
         generalize A.tmps[39]?.getD undef = A39 at *
         generalize A.tmps[40]?.getD undef = A40 at *
         generalize A.tmps[41]?.getD undef = A41 at *
         generalize A.tmps[42]?.getD undef = A42 at *
         generalize A.tmps[43]?.getD undef = A43 at *
         generalize A.tmps[44]?.getD undef = A44 at *
         generalize A.tmps[45]?.getD undef = A45 at *
         generalize A.tmps[46]?.getD undef = A46 at *
         generalize A.tmps[47]?.getD undef = A47 at *
         generalize A.tmps[48]?.getD undef = A48 at *
         generalize A.tmps[49]?.getD undef = A49 at *
         generalize A.tmps[50]?.getD undef = A50 at *
         generalize A.tmps[51]?.getD undef = A51 at *
         generalize A.tmps[52]?.getD undef = A52 at *
         generalize A.tmps[53]?.getD undef = A53 at *
         generalize A.tmps[54]?.getD undef = A54 at *
         generalize A.tmps[55]?.getD undef = A55 at *
         generalize A.tmps[56]?.getD undef = A56 at *
         generalize A.tmps[57]?.getD undef = A57 at *
         generalize A.tmps[58]?.getD undef = A58 at *
         generalize A.tmps[59]?.getD undef = A59 at *
         generalize A.tmps[60]?.getD undef = A60 at *
         generalize A.tmps[61]?.getD undef = A61 at *
         generalize A.tmps[62]?.getD undef = A62 at *
         generalize A.tmps[63]?.getD undef = A63 at *
         generalize A.tmps[64]?.getD undef = A64 at *
         generalize A.tmps[65]?.getD undef = A65 at *
         generalize A.tmps[66]?.getD undef = A66 at *
         generalize A.tmps[67]?.getD undef = A67 at *
         generalize A.tmps[68]?.getD undef = A68 at *
         generalize A.tmps[69]?.getD undef = A69 at *
         generalize A.tmps[70]?.getD undef = A70 at *
         generalize A.tmps[71]?.getD undef = A71 at *
         generalize A.tmps[72]?.getD undef = A72 at *
         generalize A.tmps[73]?.getD undef = A73 at *
         generalize A.tmps[74]?.getD undef = A74 at *
         generalize A.tmps[75]?.getD undef = A75 at *
         go_wp2_with fail
         go_ret
         exact ⟨by rw [HF.out]; rfl, HX6.out.trans ea.ext⟩
     rw [yes_iff.2 hap] at KAP
     obtain ⟨f0, f1, f2, f3, f4, f5, f6, f7, f8⟩ := (HBC.out.ext X6.out).later9
     by_cases hin : inIs (fun s => s ∈ ar ++ own) y.l
     · rw [yes_iff.2 hin] at HIN
       have HN := hide (HNEXT.out (HQ.out.2 ⟨hok, hap, hin⟩))
       clear hok hap hin
       go_wp2_with fail
       clear hVf hVg p0 p1 q0 q1 s0 s1
       refine wp_region_facts_j (W := wz) (inF ar own [.pointer (some ⟨wo.heap.size, 1, none⟩), .bool true, .bool false, .bool false, .pointer (some ⟨wo.heap.size, 0, none⟩), .slice oa own.length oc, .slice aa ar.length ac, .bool true, .bool false, .bool false, .bool false, .pointer (some ⟨wr.heap.size, 5, none⟩), v5, undef, .slice aa ar.length ac, undef, .pointer (some ⟨wo.heap.size, 0, none⟩), .slice oa own.length oc] true) (InJ wz.heap.size ar own) (by kernel_rfl) (by kernel_rfl) ?_ (Ext.refl _) ⟨fun h => (by cases h), fun h => (by cases h), fun h => (by cases h), fun h => (by cases h), fun h => (by cases h), Nat.le_refl _⟩ ?_ ?_
       · simp [GuardsMet, inF]
       · refine ⟨?_, ?_, ?_, ?_, ?_, ?_, ?_, ?_, ?_, ?_, ?_, ?_, ?_, ?_, ?_, ?_, ?_, ?_, ?_, ?_, ?_, ?_, trivial⟩
         · refine StepJ.plain (S := [13, 15, 18]) (T := [68, 70, 73]) inJ_looks (fun i v w w' h hx => h) (by decide) (by decide) ?_
           intro A wa hxa hd h0
           obtain ⟨ea, rfl⟩ := Later.mk_ex hxa
           have r8 := rest_at h0 8 (by kernel_rfl)
           simp at r8
           clear hd h0
           go_simp
           first | exact ⟨_, rfl, Ext.refl _, rfl⟩ | exact ⟨Ext.refl _, rfl⟩ | exact rfl | exact ⟨_, rfl, rfl⟩ | (trace_state; fail)
         · refine StepJ.plain (S := [13, 15, 18]) (T := [68, 70, 73]) inJ_looks (fun i v w w' h hx => h) (by decide) (by decide) ?_
           intro A wa hxa hd h0
           obtain ⟨ea, rfl⟩ := Later.mk_ex hxa
           have q0 := depOn hd 0 55 (by kernel_rfl) rfl
           simp [inF] at q0
           clear hd h0
           go_simp
           first | exact ⟨_, rfl, Ext.refl _, rfl⟩ | exact ⟨Ext.refl _, rfl⟩ | exact rfl | exact ⟨_, rfl, rfl⟩ | (trace_state; fail)
         · refine StepJ.plain (S := [13, 15, 18]) (T := [68, 70, 73]) inJ_looks (fun i v w w' h hx => h) (by decide) (by decide) ?_
           intro A wa hxa hd h0
           obtain ⟨ea, rfl⟩ := Later.mk_ex hxa
           have q1 := depOn hd 1 56 (by kernel_rfl) rfl
           simp [inF] at q1
           clear hd h0
           go_simp
           first | exact ⟨_, rfl, Ext.refl _, rfl⟩ | exact ⟨Ext.refl _, rfl⟩ | exact rfl | exact ⟨_, rfl, rfl⟩ | (trace_state; fail)
         · refine StepJ.plain (S := [13, 15, 18]) (T := [68, 70, 73]) inJ_looks (fun i v w w' h hx => h) (by decide) (by decide) ?_
           intro A wa hxa hd h0
           obtain ⟨ea, rfl⟩ := Later.mk_ex hxa
           have q2 := depOn hd 2 57 (by kernel_rfl) rfl
           simp [inF] at q2
           clear hd h0
           go_simp
           first | exact ⟨_, rfl, Ext.refl _, rfl⟩ | exact ⟨Ext.refl _, rfl⟩ | exact rfl | exact ⟨_, rfl, rfl⟩ | (trace_state; fail)
         · refine StepJ.plain (S := [13, 15, 18]) (T := [68, 70, 73]) inJ_looks (fun i v w w' h hx => h) (by decide) (by decide) ?_
           intro A wa hxa hd h0
           obtain ⟨ea, rfl⟩ := Later.mk_ex hxa
           have r8 := rest_at h0 8 (by kernel_rfl)
           simp at r8
           clear hd h0
           go_simp
           first | exact ⟨_, rfl, Ext.refl _, rfl⟩ | exact ⟨Ext.refl _, rfl⟩ | exact rfl | exact ⟨_, rfl, rfl⟩ | (trace_state; fail)
         · refine StepJ.plain (S := [13, 15, 18]) (T := [68, 70, 73]) inJ_looks (fun i v w w' h hx => h) (by decide) (by decide) ?_
           intro A wa hxa hd h0
           obtain ⟨ea, rfl⟩ := Later.mk_ex hxa
           have q4 := depOn hd 4 59 (by kernel_rfl) rfl
           simp [inF] at q4
           clear hd h0
           go_simp
           first | exact ⟨_, rfl, Ext.refl _, rfl⟩ | exact ⟨Ext.refl _, rfl⟩ | exact rfl | exact ⟨_, rfl, rfl⟩ | (trace_state; fail)
         · refine StepJ.plain (S := [13, 15, 18]) (T := [68, 70, 73]) inJ_looks (fun i v w w' h hx => h) (by decide) (by decide) ?_
           intro A wa hxa hd h0
           obtain ⟨ea, rfl⟩ := Later.mk_ex hxa
           have r1 := rest_at h0 1 (by kernel_rfl)
           simp at r1
           clear hd h0
           go_simp
           first | exact ⟨_, rfl, Ext.refl _, rfl⟩ | exact ⟨Ext.refl _, rfl⟩ | exact rfl | exact ⟨_, rfl, rfl⟩ | (trace_state; fail)
         · refine StepJ.plain (S := [13, 15, 18]) (T := [68, 70, 73]) inJ_looks (fun i v w w' h hx => h) (by decide) (by decide) ?_
           intro A wa hxa hd h0
           obtain ⟨ea, rfl⟩ := Later.mk_ex hxa
           have q5 := depOn hd 5 60 (by kernel_rfl) rfl
           simp [inF] at q5
           have q6 := depOn hd 6 61 (by kernel_rfl) rfl
           simp [inF] at q6
           clear hd h0
           go_simp
           refine (KAP.out ea).mono ?_
           rintro e w2 ⟨rfl, hx⟩
           go_simp
           first | exact ⟨_, rfl, hx, rfl⟩ | exact ⟨hx, rfl⟩ | exact rfl | exact ⟨_, rfl, rfl⟩
         · refine StepJ.plain (S := [13, 15, 18]) (T := [68, 70, 73]) inJ_looks (fun i v w w' h hx => h) (by decide) (by decide) ?_
           intro A wa hxa hd h0
           obtain ⟨ea, rfl⟩ := Later.mk_ex hxa
           have q7 := depOn hd 7 62 (by kernel_rfl) rfl
           simp [inF] at q7
           clear hd h0
           go_simp
           first | exact ⟨_, rfl, Ext.refl _, rfl⟩ | exact ⟨Ext.refl _, rfl⟩ | exact rfl | exact ⟨_, rfl, rfl⟩ | (trace_state; fail)
         · refine StepJ.plain (S := [13, 15, 18]) (T := [68, 70, 73]) inJ_looks (fun i v w w' h hx => h) (by decide) (by decide) ?_
           intro A wa hxa hd h0
           obtain ⟨ea, rfl⟩ := Later.mk_ex hxa
           have q3 := depOn hd 3 58 (by kernel_rfl) rfl
           simp [inF] at q3
           have q8 := depOn hd 8 63 (by kernel_rfl) rfl
           simp [inF] at q8
           clear hd h0
           go_simp
           first | exact ⟨_, rfl, Ext.refl _, rfl⟩ | exact ⟨Ext.refl _, rfl⟩ | exact rfl | exact ⟨_, rfl, rfl⟩ | (trace_state; fail)
         · refine StepJ.plain (S := [13, 15, 18]) (T := [68, 70, 73]) inJ_looks (fun i v w w' h hx => h) (by decide) (by decide) ?_
           intro A wa hxa hd h0
           obtain ⟨ea, rfl⟩ := Later.mk_ex hxa
           have q9 := depOn hd 9 64 (by kernel_rfl) rfl
           simp [inF] at q9
           clear hd h0
           go_simp
           first | exact ⟨_, rfl, Ext.refl _, rfl⟩ | exact ⟨Ext.refl _, rfl⟩ | exact rfl | exact ⟨_, rfl, rfl⟩ | (trace_state; fail)
         · refine StepJ.plain (S := [13, 15, 18]) (T := [68, 70, 73]) inJ_looks (fun i v w w' h hx => h) (by decide) (by decide) ?_
           intro A wa hxa hd h0
           obtain ⟨ea, rfl⟩ := Later.mk_ex hxa
           have r6 := rest_at h0 6 (by kernel_rfl)
           simp at r6
           clear hd h0
           go_simp
           first | exact ⟨_, rfl, Ext.refl _, rfl⟩ | exact ⟨Ext.refl _, rfl⟩ | exact rfl | exact ⟨_, rfl, rfl⟩ | (trace_state; fail)
         · refine StepJ.plain (S := [13, 15, 18]) (T := [68, 70, 73]) inJ_looks (fun i v w w' h hx => h) (by decide) (by decide) ?_
           intro A wa hxa hd h0
           obtain ⟨ea, rfl⟩ := Later.mk_ex hxa
           have q11 := depOn hd 11 66 (by kernel_rfl) rfl
           simp [inF] at q11
           clear hd h0
           go_simp
           first | exact ⟨_, rfl, Ext.refl _, rfl⟩ | exact ⟨Ext.refl _, rfl⟩ | exact rfl | exact ⟨_, rfl, rfl⟩ | (trace_state; fail)
         · intro L A wa hxa hli haf hsz hd h0 hJ
           obtain ⟨ea, rfl⟩ := Later.mk_ex hxa
           have HJ := hide (inJ_13 (by rw [hsz]; show (68 : Nat) < 77; decide) hli hJ)
           have HX := hide ea.ext
           clear hd h0 hJ haf hli hsz
           go_simp
           first | exact ⟨_, rfl, HX.out.trans (Ext.new _ _), fun j u h => h, ⟨_, rfl⟩, HJ.out⟩ | exact ⟨_, rfl, HX.out.alloc _, ⟨_, rfl⟩, HJ.out⟩ | (trace_state; fail)
         · refine StepJ.plain (S := [13, 15, 18]) (T := [68, 70, 73]) inJ_looks (fun i v w w' h hx => h) (by decide) (by decide) ?_
           intro A wa hxa hd h0
           obtain ⟨ea, rfl⟩ := Later.mk_ex hxa
           have r1 := rest_at h0 1 (by kernel_rfl)
           simp at r1
           clear hd h0
           go_simp
           first | exact ⟨_, rfl, Ext.refl _, rfl⟩ | exact ⟨Ext.refl _, rfl⟩ | exact rfl | exact ⟨_, rfl, rfl⟩ | (trace_state; fail)
         · intro L A wa hxa hli haf hsz hd h0 hJ
           obtain ⟨ea, rfl⟩ := Later.mk_ex hxa
           obtain ⟨g13, q13⟩ := depOn hd 13 68 (by kernel_rfl) rfl
           have z13 := q13
           simp at q13
           have q14 := depOn hd 14 69 (by kernel_rfl) rfl
           simp [inF] at q14
           have h13 := haf_on haf 13 (by kernel_rfl)
           obtain ⟨g, hg, hrow⟩ := hJ.new h13 hli
           have hz13 : tau A 68 = .slice (some ⟨g13, 0, none⟩) 0 0 := z13
           rw [hg] at hz13
           obtain rfl : g = g13 := by cases hz13; rfl
           have hfl := (Flat.strs (HAR.out ea))
           refine oper_append_own2 (R := RStr) _ _ 38 rfl wz.heap.size 9 _ 1 16 infoT Tryz.underlying38 rfl (by decide) (by decide) [] ar (.slice (some ⟨g, 0, none⟩) 0 0) ?_ hrow aa ac (ar.map .string) ?_ hfl (str_fl ar) (by simp) (by omega) ea.ext.size ?_
           · simp [Act.eval, q13]
           · simp [Act.eval, q14]
           intro v8 w8 hown8 hg8 hlt8 hf8
           rw [List.nil_append] at hown8
           have HJ := inJ_15 (by rw [hsz]; show (70 : Nat) < 77; decide) hli h13 hJ hown8 hg8.size
           obtain ⟨a8, c8, rfl⟩ := hown8.form
           exact ⟨_, rfl, ea.ext.grown hg8 (fun r hr => (hlt8 r hr).1), fun j u h => h, ⟨_, _, rfl⟩, HJ⟩
         · refine StepJ.plain (S := [13, 15, 18]) (T := [68, 70, 73]) inJ_looks (fun i v w w' h hx => h) (by decide) (by decide) ?_
           intro A wa hxa hd h0
           obtain ⟨ea, rfl⟩ := Later.mk_ex hxa
           have r8 := rest_at h0 8 (by kernel_rfl)
           simp at r8
           clear hd h0
           go_simp
           first | exact ⟨_, rfl, Ext.refl _, rfl⟩ | exact ⟨Ext.refl _, rfl⟩ | exact rfl | exact ⟨_, rfl, rfl⟩ | (trace_state; fail)
         · refine StepJ.plain (S := [13, 15, 18]) (T := [68, 70, 73]) inJ_looks (fun i v w w' h hx => h) (by decide) (by decide) ?_
           intro A wa hxa hd h0
           obtain ⟨ea, rfl⟩ := Later.mk_ex hxa
           have q16 := depOn hd 16 71 (by kernel_rfl) rfl
           simp [inF] at q16
           clear hd h0
           go_simp
           first | exact ⟨_, rfl, Ext.refl _, rfl⟩ | exact ⟨Ext.refl _, rfl⟩ | exact rfl | exact ⟨_, rfl, rfl⟩ | (trace_state; fail)
         · intro L A wa hxa hli haf hsz hd h0 hJ
           obtain ⟨ea, rfl⟩ := Later.mk_ex hxa
           obtain ⟨a15, c15, q15⟩ := depOn hd 15 70 (by kernel_rfl) rfl
           have z15 := q15
           simp at q15
           have q17 := depOn hd 17 72 (by kernel_rfl) rfl
           simp [inF] at q17
           have h15 := haf_on haf 15 (by kernel_rfl)
           have hrow := hJ.row15 h15 hli
           have hz15 : tau A 70 = .slice a15 ar.length c15 := z15
           rw [hz15] at hrow
           have hfl := (Flat.strs (HOWN.out ea))
           refine oper_append_own2 (R := RStr) _ _ 38 rfl wz.heap.size 9 _ 1 16 infoT Tryz.underlying38 rfl (by decide) (by decide) ar own (.slice a15 ar.length c15) ?_ hrow oa oc (own.map .string) ?_ hfl (str_fl own) (by omega) (by omega) ea.ext.size ?_
           · simp [Act.eval, q15]
           · simp [Act.eval, q17]
           intro v8 w8 hown8 hg8 hlt8 hf8
           have HJ := inJ_18 (by rw [hsz]; show (73 : Nat) < 77; decide) h15 hJ hown8 hg8.size
           obtain ⟨a8, c8, rfl⟩ := hown8.form
           exact ⟨_, rfl, ea.ext.grown hg8 (fun r hr => (hlt8 r hr).1), fun j u h => h, ⟨_, _, by rw [List.length_append]⟩, HJ⟩
         · intro L A wa hxa hli haf hsz hd h0 hJ
           obtain ⟨ea, rfl⟩ := Later.mk_ex hxa
           have q12 := depOn hd 12 67 (by kernel_rfl) rfl
           simp [inF] at q12
           obtain ⟨a18, c18, q18⟩ := depOn hd 18 73 (by kernel_rfl) rfl
           have z18 := q18
           simp at q18
           have h18 := haf_on haf 18 (by kernel_rfl)
           have hrow := (hJ.row18 h18).str
           have hz18 : tau A 73 = .slice a18 (ar.length + own.length) c18 := z18
           rw [hz18] at hrow
           have KI := hide (HIN.out ea _ hrow)
           have HJL := hide (fun (w2 : World) (hx : Ext ea.w w2) => inJ_looks (own := own) L (fun j => L j || j == 19) (tau A) (tau (A.put (some 74) (.bool true))) ea.w w2 (fun s hs => by simp at hs; rcases hs with rfl | rfl | rfl <;> simp) (fun t ht => by simp at ht; rcases ht with rfl | rfl | rfl <;> exact tau_put (by decide)) hx hJ)
           have HX := hide ea.ext
           clear hd h0 hJ haf hli hsz hrow z18 hz18
           go_simp
           refine KI.out.mono ?_
           rintro e w2 ⟨rfl, hx⟩
           go_simp
           first | exact ⟨_, rfl, HX.out.trans hx, fun j u h => h, rfl, HJL.out w2 hx⟩ | exact ⟨_, rfl, HX.out.trans hx, rfl, HJL.out w2 hx⟩ | (trace_state; fail)
         · refine StepJ.plain (S := [13, 15, 18]) (T := [68, 70, 73]) inJ_looks (fun i v w w' h hx => h) (by decide) (by decide) ?_
           intro A wa hxa hd h0
           obtain ⟨ea, rfl⟩ := Later.mk_ex hxa
           have q19 := depOn hd 19 74 (by kernel_rfl) rfl
           simp [inF] at q19
           clear hd h0
           go_simp
           first | exact ⟨_, rfl, Ext.refl _, rfl⟩ | exact ⟨Ext.refl _, rfl⟩ | exact rfl | exact ⟨_, rfl, rfl⟩ | (trace_state; fail)
         · refine StepJ.plain (S := [13, 15, 18]) (T := [68, 70, 73]) inJ_looks (fun i v w w' h hx => h) (by decide) (by decide) ?_
           intro A wa hxa hd h0
           obtain ⟨ea, rfl⟩ := Later.mk_ex hxa
           have q10 := depOn hd 10 65 (by kernel_rfl) rfl
           simp [inF] at q10
           have q20 := depOn hd 20 75 (by kernel_rfl) rfl
           simp [inF] at q20
           clear hd h0
           go_simp
           first | exact ⟨_, rfl, Ext.refl _, rfl⟩ | exact ⟨Ext.refl _, rfl⟩ | exact rfl | exact ⟨_, rfl, rfl⟩ | (trace_state; fail)
       intro A wa hk hJ
       obtain ⟨hxa, hsz, hdf, hdn, hrs⟩ := hk
       obtain ⟨ea, rfl⟩ := Later.mk_ex hxa
       clear hJ
       have k76 : A.tmps.getD 76 undef = .bool (!true) := hdn 21 76 rfl rfl
       simp at k76
       have k0 := rest_at hrs 0 (by kernel_rfl)
       simp at k0
       have k1 := rest_at hrs 1 (by kernel_rfl)
       simp at k1
       have k2 := rest_at hrs 2 (by kernel_rfl)
       simp at k2
       have k3 := rest_at hrs 3 (by kernel_rfl)
       simp at k3
       have k4 := rest_at hrs 4 (by kernel_rfl)
       simp at k4
       have k5 := rest_at hrs 5 (by kernel_rfl)
       simp at k5
       have k6 := rest_at hrs 6 (by kernel_rfl)
       simp at k6
       have k7 := rest_at hrs 7 (by kernel_rfl)
       simp at k7
       have k8 := rest_at hrs 8 (by kernel_rfl)
       simp at k8
       clear hdn hrs
       rw [act_lit hsz hdf]
       simp [List.range, List.range.loop, k76, k0, k1, k2, k3, k4, k5, k6, k7, k8]
       clear k76 k0 k1 k2 k3 k4 k5 k6 k7 k8 hsz hdf
       generalize A.tmps[9]?.getD undef = A9 at *
       generalize A.tmps[10]?.getD undef = A10 at *
       generalize A.tmps[11]?.getD undef = A11 at *
       generalize A.tmps[12]?.getD undef = A12 at *
       generalize A.tmps[13]?.getD undef = A13 at *
       generalize A.tmps[14]?.getD undef = A14 at *
       generalize A.tmps[15]?.getD undef = A15 at *
       generalize A.tmps[16]?.getD undef = A16 at *
       generalize A.tmps[17]?.getD undef = A17 at *
       generalize A.tmps[18]?.getD undef = A18 at *
       generalize A.tmps[19]?.getD undef = A19 at *
       generalize A.tmps[20]?.getD undef = A20 at *
       generalize A.tmps[21]?.getD undef = A21 at *
       generalize A.tmps[22]?.getD undef = A22 at *
       generalize A.tmps[23]?.getD undef = A23 at *
       generalize A.tmps[24]?.getD undef = A24 at *
       generalize A.tmps[25]?.getD undef = A25 at *
       generalize A.tmps[26]?.getD undef = A26 at *
       generalize A.tmps[27]?.getD undef = A27 at *
       generalize A.tmps[28]?.getD undef = A28 at *
       generalize A.tmps[29]?.getD undef = A29 at *
       generalize A.tmps[30]?.getD undef = A30 at *
       generalize A.tmps[31]?.getD undef = A31 at *
       generalize A.tmps[32]?.getD undef = A32 at *
       generalize A.tmps[33]?.getD undef = A33 at *
       generalize A.tmps[34]?.getD undef = A34 at *
       generalize A.tmps[35]?.getD undef = A35 at *
       generalize A.tmps[36]?.getD undef = A36 at *
       generalize A.tmps[37]?.getD undef = A37 at *
       generalize A.tmps[38]?.getD undef = A38 at *
       generalize A.tmps[39]?.getD undef = A39 at *
       generalize A.tmps[40]?.getD undef = A40 at *
       generalize A.tmps[41]?.getD undef = A41 at *
       generalize A.tmps[42]?.getD undef = A42 at *
       generalize A.tmps[43]?.getD undef = A43 at *
       generalize A.tmps[44]?.getD undef = A44 at *
       generalize A.tmps[45]?.getD undef = A45 at *
       generalize A.tmps[46]?.getD undef = A46 at *
       generalize A.tmps[47]?.getD undef = A47 at *
       generalize A.tmps[48]?.getD undef = A48 at *
       generalize A.tmps[49]?.getD undef = A49 at *
       generalize A.tmps[50]?.getD undef = A50 at *
       generalize A.tmps[51]?.getD undef = A51 at *
       generalize A.tmps[52]?.getD undef = A52 at *
       generalize A.tmps[53]?.getD undef = A53 at *
       generalize A.tmps[54]?.getD undef = A54 at *
       generalize A.tmps[55]?.getD undef = A55 at *
       generalize A.tmps[56]?.getD undef = A56 at *
       generalize A.tmps[57]?.getD undef = A57 at *
       generalize A.tmps[58]?.getD undef = A58 at *
       generalize A.tmps[59]?.getD undef = A59 at *
       generalize A.tmps[60]?.getD undef = A60 at *
       generalize A.tmps[61]?.getD undef = A61 at *
       generalize A.tmps[62]?.getD undef = A62 at *
       generalize A.tmps[63]?.getD undef = A63 at *
       generalize A.tmps[64]?.getD undef = A64 at *
       generalize A.tmps[65]?.getD undef = A65 at *
       generalize A.tmps[66]?.getD undef = A66 at *
       generalize A.tmps[67]?.getD undef = A67 at *
       generalize A.tmps[68]?.getD undef = A68 at *
       generalize A.tmps[69]?.getD undef = A69 at *
       generalize A.tmps[70]?.getD undef = A70 at *
       generalize A.tmps[71]?.getD undef = A71 at *
       generalize A.tmps[72]?.getD undef = A72 at *
       generalize A.tmps[73]?.getD undef = A73 at *
       generalize A.tmps[74]?.getD undef = A74 at *
       generalize A.tmps[75]?.getD undef = A75 at *
       go_wp2_with fail
       go_roundw
       case rel => exact ⟨k + 1, by omega, by go_num, HN.out, HX6.out.trans ea.ext⟩
       case measure => simp [intOf]; omega
     · rw [yes_no.2 hin] at HIN
       have HF := hide (HFALSE.out fun h => hin (HQ.out.1 h).2.2)
       clear hok hap hin
       go_wp2_with fail
       clear hVf hVg p0 p1 q0 q1 s0 s1
       refine wp_region_facts_j (W := wz) (inF ar own [.pointer (some ⟨wo.heap.size, 1, none⟩), .bool true, .bool false, .bool false, .pointer (some ⟨wo.heap.size, 0, none⟩), .slice oa own.length oc, .slice aa ar.length ac, .bool true, .bool false, .bool false, .bool false, .pointer (some ⟨wr.heap.size, 5, none⟩), v5, undef, .slice aa ar.length ac, undef, .pointer (some ⟨wo.heap.size, 0, none⟩), .slice oa own.length oc] false) (InJ wz.heap.size ar own) (by kernel_rfl) (by kernel_rfl) ?_ (Ext.refl _) ⟨fun h => (by cases h), fun h => (by cases h), fun h => (by cases h), fun h => (by cases h), fun h => (by cases h), Nat.le_refl _⟩ ?_ ?_
       · simp [GuardsMet, inF]
       · refine ⟨?_, ?_, ?_, ?_, ?_, ?_, ?_, ?_, ?_, ?_, ?_, ?_, ?_, ?_, ?_, ?_, ?_, ?_, ?_, ?_, ?_, ?_, trivial⟩
         · refine StepJ.plain (S := [13, 15, 18]) (T := [68, 70, 73]) inJ_looks (fun i v w w' h hx => h) (by decide) (by decide) ?_
           intro A wa hxa hd h0
           obtain ⟨ea, rfl⟩ := Later.mk_ex hxa
           have r8 := rest_at h0 8 (by kernel_rfl)
           simp at r8
           clear hd h0
           go_simp
           first | exact ⟨_, rfl, Ext.refl _, rfl⟩ | exact ⟨Ext.refl _, rfl⟩ | exact rfl | exact ⟨_, rfl, rfl⟩ | (trace_state; fail)
         · refine StepJ.plain (S := [13, 15, 18]) (T := [68, 70, 73]) inJ_looks (fun i v w w' h hx => h) (by decide) (by decide) ?_
           intro A wa hxa hd h0
           obtain ⟨ea, rfl⟩ := Later.mk_ex hxa
           have q0 := depOn hd 0 55 (by kernel_rfl) rfl
           simp [inF] at q0
           clear hd h0
           go_simp
           first | exact ⟨_, rfl, Ext.refl _, rfl⟩ | exact ⟨Ext.refl _, rfl⟩ | exact rfl | exact ⟨_, rfl, rfl⟩ | (trace_state; fail)
         · refine StepJ.plain (S := [13, 15, 18]) (T := [68, 70, 73]) inJ_looks (fun i v w w' h hx => h) (by decide) (by decide) ?_
           intro A wa hxa hd h0
           obtain ⟨ea, rfl⟩ := Later.mk_ex hxa
           have q1 := depOn hd 1 56 (by kernel_rfl) rfl
           simp [inF] at q1
           clear hd h0
           go_simp
           first | exact ⟨_, rfl, Ext.refl _, rfl⟩ | exact ⟨Ext.refl _, rfl⟩ | exact rfl | exact ⟨_, rfl, rfl⟩ | (trace_state; fail)
         · refine StepJ.plain (S := [13, 15, 18]) (T := [68, 70, 73]) inJ_looks (fun i v w w' h hx => h) (by decide) (by decide) ?_
           intro A wa hxa hd h0
           obtain ⟨ea, rfl⟩ := Later.mk_ex hxa
           have q2 := depOn hd 2 57 (by kernel_rfl) rfl
           simp [inF] at q2
           clear hd h0
           go_simp
           first | exact ⟨_, rfl, Ext.refl _, rfl⟩ | exact ⟨Ext.refl _, rfl⟩ | exact rfl | exact ⟨_, rfl, rfl⟩ | (trace_state; fail)
         · refine StepJ.plain (S := [13, 15, 18]) (T := [68, 70, 73]) inJ_looks (fun i v w w' h hx => h) (by decide) (by decide) ?_
           intro A wa hxa hd h0
           obtain ⟨ea, rfl⟩ := Later.mk_ex hxa
           have r8 := rest_at h0 8 (by kernel_rfl)
           simp at r8
           clear hd h0
           go_simp
           first | exact ⟨_, rfl, Ext.refl _, rfl⟩ | exact ⟨Ext.refl _, rfl⟩ | exact rfl | exact ⟨_, rfl, rfl⟩ | (trace_state; fail)
         · refine StepJ.plain (S := [13, 15, 18]) (T := [68, 70, 73]) inJ_looks (fun i v w w' h hx => h) (by decide) (by decide) ?_
           intro A wa hxa hd h0
           obtain ⟨ea, rfl⟩ := Later.mk_ex hxa
           have q4 := depOn hd 4 59 (by kernel_rfl) rfl
           simp [inF] at q4
           clear hd h0
           go_simp
           first | exact ⟨_, rfl, Ext.refl _, rfl⟩ | exact ⟨Ext.refl _, rfl⟩ | exact rfl | exact ⟨_, rfl, rfl⟩ | (trace_state; fail)
         · refine StepJ.plain (S := [13, 15, 18]) (T := [68, 70, 73]) inJ_looks (fun i v w w' h hx => h) (by decide) (by decide) ?_
           intro A wa hxa hd h0
           obtain ⟨ea, rfl⟩ := Later.mk_ex hxa
           have r1 := rest_at h0 1 (by kernel_rfl)
           simp at r1
           clear hd h0
           go_simp
           first | exact ⟨_, rfl, Ext.refl _, rfl⟩ | exact ⟨Ext.refl _, rfl⟩ | exact rfl | exact ⟨_, rfl, rfl⟩ | (trace_state; fail)
         · refine StepJ.plain (S := [13, 15, 18]) (T := [68, 70, 73]) inJ_looks (fun i v w w' h hx => h) (by decide) (by decide) ?_
           intro A wa hxa hd h0
           obtain ⟨ea, rfl⟩ := Later.mk_ex hxa
           have q5 := depOn hd 5 60 (by kernel_rfl) rfl
           simp [inF] at q5
           have q6 := depOn hd 6 61 (by kernel_rfl) rfl
           simp [inF] at q6
           clear hd h0
           go_simp
           refine (KAP.out ea).mono ?_
           rintro e w2 ⟨rfl, hx⟩
           go_simp
           first | exact ⟨_, rfl, hx, rfl⟩ | exact ⟨hx, rfl⟩ | exact rfl | exact ⟨_, rfl, rfl⟩
         · refine StepJ.plain (S := [13, 15, 18]) (T := [68, 70, 73]) inJ_looks (fun i v w w' h hx => h) (by decide) (by decide) ?_
           intro A wa hxa hd h0
           obtain ⟨ea, rfl⟩ := Later.mk_ex hxa
           have q7 := depOn hd 7 62 (by kernel_rfl) rfl
           simp [inF] at q7
           clear hd h0
           go_simp
           first | exact ⟨_, rfl, Ext.refl _, rfl⟩ | exact ⟨Ext.refl _, rfl⟩ | exact rfl | exact ⟨_, rfl, rfl⟩ | (trace_state; fail)
         · refine StepJ.plain (S := [13, 15, 18]) (T := [68, 70, 73]) inJ_looks (fun i v w w' h hx => h) (by decide) (by decide) ?_
           intro A wa hxa hd h0
           obtain ⟨ea, rfl⟩ := Later.mk_ex hxa
           have q3 := depOn hd 3 58 (by kernel_rfl) rfl
           simp [inF] at q3
           have q8 := depOn hd 8 63 (by kernel_rfl) rfl
           simp [inF] at q8
           clear hd h0
           go_simp
           first | exact ⟨_, rfl, Ext.refl _, rfl⟩ | exact ⟨Ext.refl _, rfl⟩ | exact rfl | exact ⟨_, rfl, rfl⟩ | (trace_state; fail)
         · refine StepJ.plain (S := [13, 15, 18]) (T := [68, 70, 73]) inJ_looks (fun i v w w' h hx => h) (by decide) (by decide) ?_
           intro A wa hxa hd h0
           obtain ⟨ea, rfl⟩ := Later.mk_ex hxa
           have q9 := depOn hd 9 64 (by kernel_rfl) rfl
           simp [inF] at q9
           clear hd h0
           go_simp
           first | exact ⟨_, rfl, Ext.refl _, rfl⟩ | exact ⟨Ext.refl _, rfl⟩ | exact rfl | exact ⟨_, rfl, rfl⟩ | (trace_state; fail)
         · refine StepJ.plain (S := [13, 15, 18]) (T := [68, 70, 73]) inJ_looks (fun i v w w' h hx => h) (by decide) (by decide) ?_
           intro A wa hxa hd h0
           obtain ⟨ea, rfl⟩ := Later.mk_ex hxa
           have r6 := rest_at h0 6 (by kernel_rfl)
           simp at r6
           clear hd h0
           go_simp
           first | exact ⟨_, rfl, Ext.refl _, rfl⟩ | exact ⟨Ext.refl _, rfl⟩ | exact rfl | exact ⟨_, rfl, rfl⟩ | (trace_state; fail)
         · refine StepJ.plain (S := [13, 15, 18]) (T := [68, 70, 73]) inJ_looks (fun i v w w' h hx => h) (by decide) (by decide) ?_
           intro A wa hxa hd h0
           obtain ⟨ea, rfl⟩ := Later.mk_ex hxa
           have q11 := depOn hd 11 66 (by kernel_rfl) rfl
           simp [inF] at q11
           clear hd h0
           go_simp
           first | exact ⟨_, rfl, Ext.refl _, rfl⟩ | exact ⟨Ext.refl _, rfl⟩ | exact rfl | exact ⟨_, rfl, rfl⟩ | (trace_state; fail)
         · intro L A wa hxa hli haf hsz hd h0 hJ
           obtain ⟨ea, rfl⟩ := Later.mk_ex hxa
           have HJ := hide (inJ_13 (by rw [hsz]; show (68 : Nat) < 77; decide) hli hJ)
           have HX := hide ea.ext
           clear hd h0 hJ haf hli hsz
           go_simp
           first | exact ⟨_, rfl, HX.out.trans (Ext.new _ _), fun j u h => h, ⟨_, rfl⟩, HJ.out⟩ | exact ⟨_, rfl, HX.out.alloc _, ⟨_, rfl⟩, HJ.out⟩ | (trace_state; fail)
         · refine StepJ.plain (S := [13, 15, 18]) (T := [68, 70, 73]) inJ_looks (fun i v w w' h hx => h) (by decide) (by decide) ?_
           intro A wa hxa hd h0
           obtain ⟨ea, rfl⟩ := Later.mk_ex hxa
           have r1 := rest_at h0 1 (by kernel_rfl)
           simp at r1
           clear hd h0
           go_simp
           first | exact ⟨_, rfl, Ext.refl _, rfl⟩ | exact ⟨Ext.refl _, rfl⟩ | exact rfl | exact ⟨_, rfl, rfl⟩ | (trace_state; fail)
         · intro L A wa hxa hli haf hsz hd h0 hJ
           obtain ⟨ea, rfl⟩ := Later.mk_ex hxa
           obtain ⟨g13, q13⟩ := depOn hd 13 68 (by kernel_rfl) rfl
           have z13 := q13
           simp at q13
           have q14 := depOn hd 14 69 (by kernel_rfl) rfl
           simp [inF] at q14
           have h13 := haf_on haf 13 (by kernel_rfl)
           obtain ⟨g, hg, hrow⟩ := hJ.new h13 hli
           have hz13 : tau A 68 = .slice (some ⟨g13, 0, none⟩) 0 0 := z13
           rw [hg] at hz13
           obtain rfl : g = g13 := by cases hz13; rfl
           have hfl := (Flat.strs (HAR.out ea))
           refine oper_append_own2 (R := RStr) _ _ 38 rfl wz.heap.size 9 _ 1 16 infoT Tryz.underlying38 rfl (by decide) (by decide) [] ar (.slice (some ⟨g, 0, none⟩) 0 0) ?_ hrow aa ac (ar.map .string) ?_ hfl (str_fl ar) (by simp) (by omega) ea.ext.size ?_
           · simp [Act.eval, q13]
           · simp [Act.eval, q14]
           intro v8 w8 hown8 hg8 hlt8 hf8
           rw [List.nil_append] at hown8
           have HJ := inJ_15 (by rw [hsz]; show (70 : Nat) < 77; decide) hli h13 hJ hown8 hg8.size
           obtain ⟨a8, c8, rfl⟩ := hown8.form
           exact ⟨_, rfl, ea.ext.grown hg8 (fun r hr => (hlt8 r hr).1), fun j u h => h, ⟨_, _, rfl⟩, HJ⟩
         · refine StepJ.plain (S := [13, 15, 18]) (T := [68, 70, 73]) inJ_looks (fun i v w w' h hx => h) (by decide) (by decide) ?_
           intro A wa hxa hd h0
           obtain ⟨ea, rfl⟩ := Later.mk_ex hxa
           have r8 := rest_at h0 8 (by kernel_rfl)
           simp at r8
           clear hd h0
           go_simp
           first | exact ⟨_, rfl, Ext.refl _, rfl⟩ | exact ⟨Ext.refl _, rfl⟩ | exact rfl | exact ⟨_, rfl, rfl⟩ | (trace_state; fail)
         · refine StepJ.plain (S := [13, 15, 18]) (T := [68, 70, 73]) inJ_looks (fun i v w w' h hx => h) (by decide) (by decide) ?_
           intro A wa hxa hd h0
           obtain ⟨ea, rfl⟩ := Later.mk_ex hxa
           have q16 := depOn hd 16 71 (by kernel_rfl) rfl
           simp [inF] at q16
           clear hd h0
           go_simp
           first | exact ⟨_, rfl, Ext.refl _, rfl⟩ | exact ⟨Ext.refl _, rfl⟩ | exact rfl | exact ⟨_, rfl, rfl⟩ | (trace_state; fail)
         · intro L A wa hxa hli haf hsz hd h0 hJ
           obtain ⟨ea, rfl⟩ := Later.mk_ex hxa
           obtain ⟨a15, c15, q15⟩ := depOn hd 15 70 (by kernel_rfl) rfl
           have z15 := q15
           simp at q15
           have q17 := depOn hd 17 72 (by kernel_rfl) rfl
           simp [inF] at q17
           have h15 := haf_on haf 15 (by kernel_rfl)
           have hrow := hJ.row15 h15 hli
           have hz15 : tau A 70 = .slice a15 ar.length c15 := z15
           rw [hz15] at hrow
           have hfl := (Flat.strs (HOWN.out ea))
           refine oper_append_own2 (R := RStr) _ _ 38 rfl wz.heap.size 9 _ 1 16 infoT Tryz.underlying38 rfl (by decide) (by decide) ar own (.slice a15 ar.length c15) ?_ hrow oa oc (own.map .string) ?_ hfl (str_fl own) (by omega) (by omega) ea.ext.size ?_
           · simp [Act.eval, q15]
           · simp [Act.eval, q17]
           intro v8 w8 hown8 hg8 hlt8 hf8
           have HJ := inJ_18 (by rw [hsz]; show (73 : Nat) < 77; decide) h15 hJ hown8 hg8.size
           obtain ⟨a8, c8, rfl⟩ := hown8.form
           exact ⟨_, rfl, ea.ext.grown hg8 (fun r hr => (hlt8 r hr).1), fun j u h => h, ⟨_, _, by rw [List.length_append]⟩, HJ⟩
         · intro L A wa hxa hli haf hsz hd h0 hJ
           obtain ⟨ea, rfl⟩ := Later.mk_ex hxa
           have q12 := depOn hd 12 67 (by kernel_rfl) rfl
           simp [inF] at q12
           obtain ⟨a18, c18, q18⟩ := depOn hd 18 73 (by kernel_rfl) rfl
           have z18 := q18
           simp at q18
           have h18 := haf_on haf 18 (by kernel_rfl)
           have hrow := (hJ.row18 h18).str
           have hz18 : tau A 73 = .slice a18 (ar.length + own.length) c18 := z18
           rw [hz18] at hrow
           have KI := hide (HIN.out ea _ hrow)
           have HJL := hide (fun (w2 : World) (hx : Ext ea.w w2) => inJ_looks (own := own) L (fun j => L j || j == 19) (tau A) (tau (A.put (some 74) (.bool false))) ea.w w2 (fun s hs => by simp at hs; rcases hs with rfl | rfl | rfl <;> simp) (fun t ht => by simp at ht; rcases ht with rfl | rfl | rfl <;> exact tau_put (by decide)) hx hJ)
           have HX := hide ea.ext
           clear hd h0 hJ haf hli hsz hrow z18 hz18
           go_simp
           refine KI.out.mono ?_
           rintro e w2 ⟨rfl, hx⟩
           go_simp
           first | exact ⟨_, rfl, HX.out.trans hx, fun j u h => h, rfl, HJL.out w2 hx⟩ | exact ⟨_, rfl, HX.out.trans hx, rfl, HJL.out w2 hx⟩ | (trace_state; fail)
         · refine StepJ.plain (S := [13, 15, 18]) (T := [68, 70, 73]) inJ_looks (fun i v w w' h hx => h) (by decide) (by decide) ?_
           intro A wa hxa hd h0
           obtain ⟨ea, rfl⟩ := Later.mk_ex hxa
           have q19 := depOn hd 19 74 (by kernel_rfl) rfl
           simp [inF] at q19
           clear hd h0
           go_simp
           first | exact ⟨_, rfl, Ext.refl _, rfl⟩ | exact ⟨Ext.refl _, rfl⟩ | exact rfl | exact ⟨_, rfl, rfl⟩ | (trace_state; fail)
         · refine StepJ.plain (S := [13, 15, 18]) (T := [68, 70, 73]) inJ_looks (fun i v w w' h hx => h) (by decide) (by decide) ?_
           intro A wa hxa hd h0
           obtain ⟨ea, rfl⟩ := Later.mk_ex hxa
           have q10 := depOn hd 10 65 (by kernel_rfl) rfl
           simp [inF] at q10
           have q20 := depOn hd 20 75 (by kernel_rfl) rfl
           simp [inF] at q20
           clear hd h0
           go_simp
           first | exact ⟨_, rfl, Ext.refl _, rfl⟩ | exact ⟨Ext.refl _, rfl⟩ | exact rfl | exact ⟨_, rfl, rfl⟩ | (trace_state; fail)
       intro A wa hk hJ
       obtain ⟨hxa, hsz, hdf, hdn, hrs⟩ := hk
       obtain ⟨ea, rfl⟩ := Later.mk_ex hxa
       clear hJ
       have k76 : A.tmps.getD 76 undef = .bool (!false) := hdn 21 76 rfl rfl
       simp at k76
       have k0 := rest_at hrs 0 (by kernel_rfl)
       simp at k0
       have k1 := rest_at hrs 1 (by kernel_rfl)
       simp at k1
       have k2 := rest_at hrs 2 (by kernel_rfl)
       simp at k2
       have k3 := rest_at hrs 3 (by kernel_rfl)
       simp at k3
       have k4 := rest_at hrs 4 (by kernel_rfl)
       simp at k4
       have k5 := rest_at hrs 5 (by kernel_rfl)
       simp at k5
       have k6 := rest_at hrs 6 (by kernel_rfl)
       simp at k6
       have k7 := rest_at hrs 7 (by kernel_rfl)
       simp at k7
       have k8 := rest_at hrs 8 (by kernel_rfl)
       simp at k8
       clear hdn hrs
       rw [act_lit hsz hdf]
       simp [List.range, List.range.loop, k76, k0, k1, k2, k3, k4, k5, k6, k7, k8]
       clear k76 k0 k1 k2 k3 k4 k5 k6 k7 k8 hsz hdf
       generalize A.tmps[9]?.getD undef = A9 at *
       generalize A.tmps[10]?.getD undef = A10 at *
       generalize A.tmps[11]?.getD undef = A11 at *
       generalize A.tmps[12]?.getD undef = A12 at *
       generalize A.tmps[13]?.getD undef = A13 at *
       generalize A.tmps[14]?.getD undef = A14 at *
       generalize A.tmps[15]?.getD undef = A15 at *
       generalize A.tmps[16]?.getD undef = A16 at *
       generalize A.tmps[17]?.getD undef = A17 at *
       generalize A.tmps[18]?.getD undef = A18 at *
       generalize A.tmps[19]?.getD undef = A19 at *
       generalize A.tmps[20]?.getD undef = A20 at *
       generalize A.tmps[21]?.getD undef = A21 at *
       generalize A.tmps[22]?.getD undef = A22 at *
       generalize A.tmps[23]?.getD undef = A23 at *
       generalize A.tmps[24]?.getD undef = A24 at *
       generalize A.tmps[25]?.getD undef = A25 at *
       generalize A.tmps[26]?.getD undef = A26 at *
       generalize A.tmps[27]?.getD undef = A27 at *
       generalize A.tmps[28]?.getD undef = A28 at *
       generalize A.tmps[29]?.getD undef = A29 at *
       generalize A.tmps[30]?.getD undef = A30 at *
       generalize A.tmps[31]?.getD undef = A31 at *
       generalize A.tmps[32]?.getD undef = A32 at *
       generalize A.tmps[33]?.getD undef = A33 at *
       generalize A.tmps[34]?.getD undef = A34 at *
       generalize A.tmps[35]?.getD undef = A35 at *
       generalize A.tmps[36]?.getD undef = A36 at *
       generalize A.tmps[37]?.getD undef = A37 at *
       generalize A.tmps[38]?.getD undef = A38 at *
       generalize A.tmps[39]?.getD undef = A39 at *
       generalize A.tmps[40]?.getD undef = A40 at *
       generalize A.tmps[41]?.getD undef = A41 at *
       generalize A.tmps[42]?.getD undef = A42 at *
       generalize A.tmps[43]?.getD undef = A43 at *
       generalize A.tmps[44]?.getD undef = A44 at *
       generalize A.tmps[45]?.getD undef = A45 at *
       generalize A.tmps[46]?.getD undef = A46 at *
       generalize A.tmps[47]?.getD undef = A47 at *
       generalize A.tmps[48]?.getD undef = A48 at *
       generalize A.tmps[49]?.getD undef = A49 at *
       generalize A.tmps[50]?.getD undef = A50 at *
       generalize A.tmps[51]?.getD undef = A51 at *
       generalize A.tmps[52]?.getD undef = A52 at *
       generalize A.tmps[53]?.getD undef = A53 at *
       generalize A.tmps[54]?.getD undef = A54 at *
       generalize A.tmps[55]?.getD undef = A55 at *
       generalize A.tmps[56]?.getD undef = A56 at *
       generalize A.tmps[57]?.getD undef = A57 at *
       generalize A.tmps[58]?.getD undef = A58 at *
       generalize A.tmps[59]?.getD undef = A59 at *
       generalize A.tmps[60]?.getD undef = A60 at *
       generalize A.tmps[61]?.getD undef = A61 at *
       generalize A.tmps[62]?.getD undef = A62 at *
       generalize A.tmps[63]?.getD undef = A63 at *
       generalize A.tmps[64]?.getD undef = A64 at *
       generalize A.tmps[65]?.getD undef = A65 at *
       generalize A.tmps[66]?.getD undef = A66 at *
       generalize A.tmps[67]?.getD undef = A67 at *
       generalize A.tmps[68]?.getD undef = A68 at *
       generalize A.tmps[69]?.getD undef = A69 at *
       generalize A.tmps[70]?.getD undef = A70 at *
       generalize A.tmps[71]?.getD undef = A71 at *
       generalize A.tmps[72]?.getD undef = A72 at *
       generalize A.tmps[73]?.getD undef = A73 at *
       generalize A.tmps[74]?.getD undef = A74 at *
       generalize A.tmps[75]?.getD undef = A75 at *
       go_wp2_with fail
       go_ret
       exact ⟨by rw [HF.out]; rfl, HX6.out.trans ea.ext⟩
   · have hkl : k = l.length := by omega
     subst hkl
     have HF := hide (show yes (inIs (fun s => s ∈ ar) l) = true from yes_iff.2 (inIs_iff.2 fun x hx => by
       obtain ⟨j, hj, rfl⟩ := List.getElem_of_mem hx
       exact HP.out j hj hj))
     go_wp2_with fail
     go_ret
     exact ⟨by rw [HF.out]; rfl, hx⟩
theorem ownN_len (m : Mdl) : (ownN m).length ≤ sizeM m := by
 have hme : sizeM m = 1 + msize sizeB m.params + msize sizeP m.ports + msize sizeI m.items := rfl
 have hpl := length_le_msize sizeB m.params sizeB_pos
 have hql := length_le_msize sizeP m.ports sizeP_pos
 have htl := tns_len m.items
 unfold ownN
 simp only [List.length_append, List.length_map]
 omega
theorem inner_size {m : Mdl} (h : sizeM m ≤ 10000) : (ownN m).length + (msize sizeI m.items + 1) * (msize sizeI m.items + 1) ≤ 400000000 := by
 have h1 := ownN_len m
 have hme : sizeM m = 1 + msize sizeB m.params + msize sizeP m.ports + msize sizeI m.items := rfl
 have h2 : (msize sizeI m.items + 1) * (msize sizeI m.items + 1) ≤ 10000 * 10000 := Nat.mul_le_mul (by omega) (by omega)
 omega
theorem rightM_okN {m : Mdl} : yes (rightM m) = (yes (okN m (ownN m)) && yes (inIs (fun s => s ∈ ownN m) m.items)) := by
 rw [← yes_and]
 exact yes_congr ⟨fun h => ⟨⟨h.1, h.2.1⟩, h.2.2⟩, fun h => ⟨h.1.1, h.1.2, h.2⟩⟩
set_option maxRecDepth 20000 in
set_option maxHeartbeats 4000000 in
theorem rright_any (B : Nat) (m : Mdl) (w : World) (cs : List Value) (hR : RM w B m cs) (hB : B ≤ w.heap.size) (hsz : sizeM m ≤ 10000) :
   Calls Tryz.prog 39 #[.agg cs.toArray] w fun e w' => e = .returned (.bool (yes (rightM m))) ∧ Ext w w' := by
 have HR := hide hR
 obtain ⟨v1, v2, v3, rfl, hp, hq, hi⟩ := hR
 have o3 := hi.oneCell
 have HI := hide hi
 obtain ⟨pa, pcap, rfl, -, -⟩ := hp
 obtain ⟨qa, qcap, rfl, -, -⟩ := hq
 have hme : sizeM m = 1 + msize sizeB m.params + msize sizeP m.ports + msize sizeI m.items := rfl
 obtain ⟨W1, hW1, hx1, hb1⟩ := box4 w (.string m.name) (.slice pa m.params.length pcap) (.slice qa m.ports.length qcap) v3 33
 have hV1 := hW1.symm
 obtain ⟨x0, x1, x2, x3⟩ := hb1.get4
 have GA := hide (rTold_any B m W1 _ (HR.out.ext hx1 hB) (Nat.le_trans hB hx1.size) (by omega))
 have R := hide (rightM_okN (m := m))
 have hin := inner_size hsz
 have HBX := hide hb1
 have HX1 := hide hx1
 clear hW1 hx1 hb1 hi
 go_enter Tryz.func39, Tryz.ntmps39
 go_wp2_with fail
 go_at_call 79
 refine GA.out.mono ?_
 rintro _ w3 ⟨v3', rfl, hs3, hx3⟩
 obtain ⟨Wb, Wc, hVb, ⟨p0, p1⟩, ⟨q0, q1⟩, hVc, hbc, hxc⟩ := varScp w3 v3' (.bool (yes (okN m (ownN m))))
 have ov3 : v3'.oneCell' = true := by obtain ⟨a, c, rfl, -⟩ := hs3; rfl
 have hx4 := (HX1.out.trans hx3).trans hxc
 have HX4 := hide hx4
 clear x0 x1 x2 x3
 obtain ⟨x0, x1, x2, x3⟩ := (HBX.out.ext (hx3.trans hxc)).get4
 obtain ⟨y0, y1⟩ := hbc.get2
 have KI := hide (rinner_lt B _ m.items Wc v3 v3' (ownN m) (HI.out.extRI hx4 hB) (Nat.le_trans hB hx4.size) (hs3.ext hxc) hin (by omega) (Nat.lt_succ_self _))
 generalize yes (okN m (ownN m)) = b1 at *
 generalize yes (inIs (fun s => s ∈ ownN m) m.items) = b2 at *
 clear hx3 hxc hx4 hbc hs3 hin hsz hme hB
 cases b1
 · go_wp2_with fail
   go_ret
   exact ⟨by rw [R.out]; rfl, HX4.out⟩
 · go_wp2_with fail
   go_at_call 80
   refine KI.out.mono ?_
   rintro _ w5 ⟨rfl, hx5⟩
   go_wp2_with fail
   go_ret
   exact ⟨by rw [R.out, Bool.true_and]; rfl, HX4.out.trans hx5⟩
set_option maxRecDepth 20000 in
set_option maxHeartbeats 2000000 in
theorem rnext_any (B : Nat) (f : List Mdl) (out : List ByteArray) (w : World) (vf vo : Value) (hS : Sl (RM w B) w B 4 f vf) (hB : B ≤ w.heap.size) (hO : SStr w out vo) (hsz : msize sizeM f ≤ 10000000) (hlo : out.length ≤ 1000000) :
   Calls Tryz.prog 81 #[.agg #[vf], vo] w fun e w' => Ext w w' ∧ ((∃ i, ∃ h : i < f.length, readyM out f[i] ∧ (∀ j, ∀ h' : j < f.length, j < i → ¬ readyM out f[j]) ∧ e = .returned (.int .i64 (i : Nat))) ∨ ((∀ x, x ∈ f → ¬ readyM out x) ∧ e = .returned (.int .i64 (-1)))) := by
 have hln := length_le_msize sizeM f sizeM_pos
 have HS := hide hS
 obtain ⟨a, cap, rfl, hcap, hrow⟩ := hS
 have HROW := hide hrow
 have HO := hide hO
 obtain ⟨W1, hW1, hx1, hb1⟩ := box1 w (.slice a f.length cap) 24
 have hV1 := hW1.symm
 have BX := hide hb1
 have X1 := hide hx1
 clear hcap hrow hW1 hx1 hb1 hO
 go_enter Tryz.func81, Tryz.ntmps81
 go_wp2_with fail
 clear hV1
 go_loopw [5] (fun i wr => ∃ k : Nat, k ≤ f.length ∧ i = .int .i64 k ∧ (∀ j, ∀ h : j < f.length, j < k → ¬ readyM out f[j]) ∧ Ext W1 wr) (fun i _ => f.length - (intOf i).toNat)
 case atStart => exact ⟨0, Nat.zero_le _, rfl, fun j h hj => absurd hj (by omega), Ext.refl _⟩
 case round =>
   obtain ⟨k, hk, rfl, hpre, hx⟩ := hrel
   have HP := hide hpre
   have hfb := (BX.out.ext hx).get1
   clear hpre
   by_cases hlt : k < f.length
   · have hsk := msize_mem sizeM f f[k] (List.getElem_mem hlt)
     have HNEXT := hide (show ¬ readyM out f[k] → ∀ j, ∀ h : j < f.length, j < k + 1 → ¬ readyM out f[j] from fun hin j h hj => if e : j = k then by subst e; exact hin else HP.out j h (by omega))
     have HYES := hide (show readyM out f[k] → ∃ i, ∃ h : i < f.length, readyM out f[i] ∧ (∀ j, ∀ h' : j < f.length, j < i → ¬ readyM out f[j]) ∧ ((k : Nat) : Int) = (i : Nat) from fun h => ⟨k, hlt, h, HP.out, rfl⟩)
     obtain ⟨b, o, v0, v1, v2, v3, rfl, hbB, hR, hC, o0, o1, o2, o3⟩ := HROW.out.open4 hlt
     have hxw := X1.out.trans hx
     obtain ⟨d0, d1, d2, d3⟩ := (hC.ext hxw).get4
     have HRM := hide hR
     obtain ⟨v1', v2', v3', hcs, -, -, -⟩ := hR
     simp only [List.cons.injEq, and_true] at hcs
     obtain ⟨rfl, rfl, rfl, rfl⟩ := hcs
     obtain ⟨Wb, Wc, hVb, ⟨p0, p1, p2, p3⟩, ⟨q0, q1, q2, q3⟩, hVc, hbc, hxc, -⟩ := varM wr (.string f[k].name) v1 v2 v3
     obtain ⟨e0, e1, e2, e3⟩ := hbc.get4
     have HXC := hide (hx.trans hxc)
     have HXW := hide (hxw.trans hxc)
     generalize f[k] = y at *
     have KA := hide (refAmong_any out y.name Wc vo (HO.out.ext HXW.out) (by omega))
     have KU := hide (rUses_any B y Wc [.string y.name, v1, v2, v3] (HRM.out.ext HXW.out hB) (Nat.le_trans hB HXW.out.size) (by omega))
     have hul : (usesM y).length ≤ sizeM y := by
       have h1 := addAll_le (ofIs y.items) []
       have h2 := ofIs_len y.items
       have hme : sizeM y = 1 + msize sizeB y.params + msize sizeP y.ports + msize sizeI y.items := rfl
       unfold usesM
       simp at h1
       omega
     clear hC hx hxw hbc hxc
     by_cases hin : y.name ∈ out
     · rw [yes_iff.2 hin] at KA
       have HN := hide (HNEXT.out fun h => h.1 hin)
       clear hin
       go_wp2_with (go_at_call 26; refine KA.out.mono ?_; rintro _ _ ⟨rfl, rfl⟩)
       go_roundw
       case rel => exact ⟨k + 1, by omega, by go_num, HN.out, HXC.out⟩
       case measure => simp [intOf]; omega
     · rw [yes_no.2 hin] at KA
       have HNI := hide hin
       clear hin
       go_wp2_with (go_at_call 26; refine KA.out.mono ?_; rintro _ Wc ⟨rfl, rfl⟩)
       go_at_call 17
       refine KU.out.mono ?_
       rintro _ w2 ⟨u2, rfl, hs2, hx2⟩
       have HX2 := hide (HXC.out.trans hx2)
       have KB := hide (rbehind_any (usesM y) out w2 u2 vo hs2 (HO.out.ext (HXW.out.trans hx2)) (by omega) (by omega))
       clear hs2 hx2 KU hVb hVc p0 p1 p2 p3 q0 q1 q2 q3 d0 d1 d2 d3 e0 e1 e2 e3
       by_cases hall : ∀ s, s ∈ usesM y → s ∈ out
       · rw [yes_iff.2 hall] at KB
         have HY := hide (HYES.out ⟨HNI.out, hall⟩)
         have HXZ := hide (X1.out.trans HX2.out)
         clear hall
         go_wp2_with (go_at_call 40; refine KB.out.mono ?_; rintro _ _ ⟨rfl, rfl⟩)
         go_ret
         obtain ⟨i, h, h1, h2, h3⟩ := HY.out
         exact ⟨HXZ.out, .inl ⟨i, h, h1, h2, by rw [← h3]; rfl⟩⟩
       · rw [yes_no.2 hall] at KB
         have HN := hide (HNEXT.out fun h => hall h.2)
         clear hall
         go_wp2_with (go_at_call 40; refine KB.out.mono ?_; rintro _ _ ⟨rfl, rfl⟩)
         go_roundw
         case rel => exact ⟨k + 1, by omega, by go_num, HN.out, HX2.out⟩
         case measure => simp [intOf]; omega
   · have hkl : k = f.length := by omega
     subst hkl
     have HF := hide (show ∀ x, x ∈ f → ¬ readyM out x from fun x hx => by
       obtain ⟨j, hj, rfl⟩ := List.getElem_of_mem hx
       exact HP.out j hj hj)
     have HXZ := hide (X1.out.trans hx)
     clear hx
     go_wp2_with fail
     go_ret
     exact ⟨HXZ.out, .inr ⟨HF.out, rfl⟩⟩
def lenV : Value → Nat
 | .slice _ n _ => n
 | _ => 0
set_option maxRecDepth 20000 in
set_option maxHeartbeats 2000000 in
theorem rorder_any (B : Nat) (f : List Mdl) (w : World) (vf : Value) (hS : Sl (RM w B) w B 4 f vf) (hB : B ≤ w.heap.size) (hsz : msize sizeM f ≤ 1000000) :
   Calls Tryz.prog 41 #[.agg #[vf]] w fun e w' => ∃ v, e = .returned v ∧ SStr w' (orderF f) v ∧ Ext w w' := by
 have hln := length_le_msize sizeM f sizeM_pos
 have HS := hide hS
 obtain ⟨a, cap, rfl, hcap, hrow⟩ := hS
 have HROW := hide hrow
 obtain ⟨ti, hti, htz, hts, htb⟩ := info_parts infoT
 obtain ⟨W1, hW1, hx1, hb1⟩ := box1 w (.slice a f.length cap) 24
 have hV1 := hW1.symm
 have BX := hide hb1
 have X1 := hide hx1
 clear hcap hrow hW1 hx1 hb1
 go_enter Tryz.func41, Tryz.ntmps41
 go_wp2_with fail
 clear hV1
 go_loopw [3] (fun vr wr => ∃ out : List ByteArray, Ordered f out ∧ orderN f (f.length - out.length) out = orderF f ∧ (∃ va vc, vr = .slice va out.length vc) ∧ wr.ownsRow W1.heap.size 9 1 vr out.length (out.map .string) ∧ Ext W1 wr) (fun vr _ => f.length - lenV vr)
 case atStart => exact ⟨[], ordered_nil f, by simp [orderF], ⟨_, _, rfl⟩, World.ownsRow_nil _ _ _ _, Ext.refl _⟩
 case round =>
   obtain ⟨out, hord, hon, ⟨va, vc, rfl⟩, how, hx⟩ := hrel
   have hle := hord.le
   have HORD := hide hord
   have HON := hide hon
   have HOW := hide how
   have hfb := (BX.out.ext hx).get1
   have HX := hide hx
   have KN := hide (rnext_any B f out wr _ (.slice va out.length vc) (HS.out.extRM (X1.out.trans hx) hB) (Nat.le_trans hB (X1.out.trans hx).size) (SStr.of_own how rfl rfl) (by omega) (by omega))
   clear hord hon how hx
   go_wp2_with fail
   go_at_call 81
   refine KN.out.mono ?_
   rintro _ w2 ⟨hx2, hcase⟩
   rcases hcase with ⟨i, hi, hr, hnr, rfl⟩ | ⟨hno, rfl⟩
   · have hnx := next_at hi hr hnr
     have HNX := hide (HORD.out.step hnx)
     have HST := hide (order_step HORD.out hnx)
     have hlt2 := (HORD.out.step hnx).le
     rw [List.length_append] at hlt2
     have HXX := hide (HX.out.trans hx2)
     have hfb2 := (BX.out.ext HXX.out).get1
     obtain ⟨b, o, v0, v1, v2, v3, rfl, hbB, hR, hC, o0, o1, o2, o3⟩ := HROW.out.open4 hi
     obtain ⟨v1', v2', v3', hcs, -, -, -⟩ := hR
     simp only [List.cons.injEq, and_true] at hcs
     obtain ⟨rfl, rfl, rfl, rfl⟩ := hcs
     obtain ⟨d0, -, -, -⟩ := (hC.ext (X1.out.trans HXX.out)).get4
     obtain ⟨W3, hW3, hx3, hb3⟩ := box1 w2 (.string f[i].name) 9
     have hV3 := hW3.symm
     have HO3 := hide (row_kept_ext HOW.out (hx2.trans hx3))
     have HF3 := hide (show Flat W3 1 (some ⟨w2.heap.size, 0, none⟩) 1 [.string f[i].name] from ⟨rfl, (by intro u hu; simp at hu; subst hu; rfl), fun _ => ⟨_, _, rfl, hb3.cells⟩⟩)
     have HX3 := hide (HXX.out.trans hx3)
     have hbw3 : W1.heap.size ≤ W3.heap.size := HX3.out.size
     clear hC hx2 hW3 hx3 hb3 hnx hr hnr KN hfb
     generalize f[i].name = nm at *
     go_wp2_with (first
       | (at_builtin; refine wpList_append_flat rfl _ _ 38 rfl W1.heap.size 9 ti _ 1 16 Tryz.underlying38 hti htz hts htb rfl (by decide) (by decide) (.slice va out.length vc) out.length (out.map .string) rfl HO3.out (some ⟨w2.heap.size, 0, none⟩) 1 1 [.string nm] rfl HF3.out (by omega) (by omega) hbw3 ?_; intro v5 w5 hown5 hg5 hf5
          have hx5 := HX3.out.grown hg5 (fun r hr => (HO3.out.lt r hr).1)
          obtain ⟨a5, c5, rfl⟩ := row_shape hown5
          have H5 := hide (And.intro hown5 hx5)
          clear hown5 hg5 hf5 hx5 hV3))
     go_roundw
     case rel => exact ⟨out ++ [nm], HNX.out, by rw [← HST.out]; exact HON.out, ⟨a5, c5, by simp⟩, by simpa using H5.out.1, H5.out.2⟩
     case measure => simp [lenV]; simp at hlt2; omega
   · have hnx := next_no hno
     have HOF := hide (show out = orderF f from by rw [← HON.out, order_fuel _ hnx])
     have HFIN := hide (And.intro (SStr.of_own (row_kept_ext HOW.out hx2) rfl rfl) (X1.out.trans (HX.out.trans hx2)))
     clear hx2 hno hnx KN
     go_wp2_with fail
     go_ret
     exact ⟨_, rfl, by rw [← HOF.out]; exact HFIN.out.1, HFIN.out.2⟩
def RItemOk (B : Nat) (x : Itm) : Prop := ∀ (w : World) (cs : List Value), RI w B x cs → B ≤ w.heap.size →
 Calls Tryz.prog 135 #[.agg cs.toArray] w fun e w' => e = .returned (.bool (yes (MayI x))) ∧ Ext w w'
def RItemsOk (B : Nat) (l : List Itm) : Prop := ∀ (w : World) (v : Value), Sl (RI w B) w B 9 l v → B ≤ w.heap.size →
 Calls Tryz.prog 115 #[v] w fun e w' => e = .returned (.bool (yes (∀ y, y ∈ l → MayI y))) ∧ Ext w w'
theorem boxE (w : World) (l : List Value) (t : TypeId) : ∃ W1 : World, w.alloc (.cells l.toArray t) = W1 ∧ Ext w W1 ∧ ∀ (e : Later W1) (i : Nat), i < l.length → e.w.cell? ⟨w.heap.size, i, none⟩ = l[i]? :=
 ⟨_, rfl, Ext.new _ _, fun e i hi => by
   have h := ((Blk.new w t l).ext e.ext).cell i
   simpa [List.getElem?_eq_getElem hi] using h⟩
theorem boxE9 (w : World) (v0 v1 v2 v3 v4 v5 v6 v7 v8 : Value) (t : TypeId) : ∃ W1 : World, w.alloc (.cells #[v0, v1, v2, v3, v4, v5, v6, v7, v8] t) = W1 ∧ Ext w W1 ∧ (∀ e : Later W1, e.w.cell? ⟨w.heap.size, 0, none⟩ = some v0) ∧ (∀ e : Later W1, e.w.cell? ⟨w.heap.size, 1, none⟩ = some v1) ∧ (∀ e : Later W1, e.w.cell? ⟨w.heap.size, 2, none⟩ = some v2) ∧ (∀ e : Later W1, e.w.cell? ⟨w.heap.size, 3, none⟩ = some v3) ∧ (∀ e : Later W1, e.w.cell? ⟨w.heap.size, 4, none⟩ = some v4) ∧ (∀ e : Later W1, e.w.cell? ⟨w.heap.size, 5, none⟩ = some v5) ∧ (∀ e : Later W1, e.w.cell? ⟨w.heap.size, 6, none⟩ = some v6) ∧ (∀ e : Later W1, e.w.cell? ⟨w.heap.size, 7, none⟩ = some v7) ∧ (∀ e : Later W1, e.w.cell? ⟨w.heap.size, 8, none⟩ = some v8) := by
 obtain ⟨W1, h, hx, hc⟩ := boxE w [v0, v1, v2, v3, v4, v5, v6, v7, v8] t
 exact ⟨W1, h, hx, fun e => hc e 0 (show 0 < 9 by decide), fun e => hc e 1 (show 1 < 9 by decide), fun e => hc e 2 (show 2 < 9 by decide), fun e => hc e 3 (show 3 < 9 by decide), fun e => hc e 4 (show 4 < 9 by decide), fun e => hc e 5 (show 5 < 9 by decide), fun e => hc e 6 (show 6 < 9 by decide), fun e => hc e 7 (show 7 < 9 by decide), fun e => hc e 8 (show 8 < 9 by decide)⟩
def cntL : List Value := [.int .i64 (-1), .int .i64 1, .int .i64 1, .int .i64 2, .int .i64 2, .int .i64 0, .int .i64 0, .int .i64 0, .int .i64 1, .int .i64 2, .int .i64 1]
theorem boxE11 (w : World) : ∃ W1 : World, w.alloc (.cells #[.int .i64 (-1), .int .i64 1, .int .i64 1, .int .i64 2, .int .i64 2, .int .i64 0, .int .i64 0, .int .i64 0, .int .i64 1, .int .i64 2, .int .i64 1] 3) = W1 ∧ Ext w W1 ∧ ∀ (e : Later W1) (i : Nat), i < 11 → e.w.cell? ⟨w.heap.size, i, none⟩ = cntL[i]? :=
 boxE w cntL 3
theorem cntL_at {op : Int} {on cnt : Nat} (h : op = on) (hc : cnt = countX op) (h1 : 1 ≤ on) (h2 : on ≤ 10) : cntL[on]? = some (.int .i64 cnt) := by
 subst hc; subst h
 rcases (by omega : on = 1 ∨ on = 2 ∨ on = 3 ∨ on = 4 ∨ on = 5 ∨ on = 6 ∨ on = 7 ∨ on = 8 ∨ on = 9 ∨ on = 10) with rfl | rfl | rfl | rfl | rfl | rfl | rfl | rfl | rfl | rfl <;> rfl
theorem ownI_only {x : Itm} (h : ownI x) : onlyP x := by
 obtain ⟨-, -, h1, h2, -, -, h3⟩ := h
 exact ⟨h1, h2, h3⟩
theorem ownI_of {x : Itm} (h1 : 1 ≤ x.op) (h2 : x.op ≤ 10) (ho : onlyP x) (hx : x.x.length = countX x.op) (ht : x.op = 4 → isTargets x.x) : ownI x :=
 ⟨h1, h2, ho.1, ho.2.1, hx, ht, ho.2.2⟩
theorem yesI_own {x : Itm} (h : ownI x) : yes (MayI x) = (yes (MayXs x.x) && (yes (MayAll x.s) && (yes (∀ y, y ∈ x.l → MayI y) && (yes (∀ y, y ∈ x.els → MayI y) && (yes (∀ y, y ∈ x.params → MayB y) && yes (∀ y, y ∈ x.binds → MayB y)))))) := by
 rw [← yes_and, ← yes_and, ← yes_and, ← yes_and, ← yes_and]
 exact yes_congr (MayI_iff.trans ⟨fun g => g.2, fun g => ⟨h, g⟩⟩)
theorem sixB (b1 b2 b3 b4 b5 b6 : Bool) : b1 = false ∨ (b1 = true ∧ b2 = false) ∨ (b1 = true ∧ b2 = true ∧ b3 = false) ∨ (b1 = true ∧ b2 = true ∧ b3 = true ∧ b4 = false) ∨ (b1 = true ∧ b2 = true ∧ b3 = true ∧ b4 = true ∧ b5 = false) ∨ (b1 = true ∧ b2 = true ∧ b3 = true ∧ b4 = true ∧ b5 = true) := by
 cases b1 <;> cases b2 <;> cases b3 <;> cases b4 <;> cases b5 <;> simp
end Go.Proofs.YtjoglnjpgkobeaaGreatDoor
