import Derived.Test.YtjoglnjpgkobeaaGreatDoorProg
import Derived.Test.YtjoglnjpgkobeaaGreatDoorS35
import Derived.Test.YtjoglnjpgkobeaaGreatDoorS37
import Derived.Test.YtjoglnjpgkobeaaGreatDoorS33
set_option linter.all false
set_option linter.unusedVariables false
set_option linter.unusedSimpArgs false
namespace Go.Proofs.YtjoglnjpgkobeaaGreatDoor
open Go Go.RowKit
attribute [local go_sem] run_store_one
set_option maxRecDepth 20000 in
set_option maxHeartbeats 16000000 in
theorem rcheck_any (B : Nat) (f : List Mdl) (w : World) (vf : Value) (hS : Sl (RM w B) w B 4 f vf) (hB : B≤w.heap.size) (hsz : msize sizeM f≤10000) (hvx : ∀ m,m ∈ f→VM m) :
   Calls Tryz.prog 11 #[.agg #[vf]] w fun e w' => e = .returned (.int .i64 (checkN f))∧Ext w w':=by
 have hln:=length_le_msize sizeM f sizeM_pos
 have HS:=hide hS
 obtain ⟨fa,fcap,rfl,hfc,hrow⟩:=hS
 obtain ⟨W1,e1,hV1,hx1,hs1,c0⟩:=boxL1 w (.slice fa f.length fcap) 24
 have HX1:=hide hx1
 have G1:=hide (show ECalls Tryz.prog 37 #[.agg #[.slice fa f.length fcap]] W1 (.int .i64 (checkF f)) from fun w' hw => refCheck_any B f w' _ (HS.out.extRM (HX1.out.trans hw) hB) (Nat.le_trans hB (HX1.out.trans hw).size) (by omega) hvx)
 by_cases hc0 : checkF f = 0
 rotate_left
 · have hN : checkN f = checkF f:=by unfold checkN; rw [if_neg hc0]
   rw [hN]
   generalize checkF f = c at *
   have hd1 : (c == 0) = false:=beq_eq_false_iff_ne.2 hc0
   have hd2 : (c != 0) = true:=bne_iff_ne.2 hc0
   have hd3 : decide (c = 0) = false:=decide_eq_false hc0
   clear hvx hrow hx1 hc0 hN
   go_enter Tryz.func11,Tryz.ntmps11
   go_wp2_with (go_at_call 37; with_reducible refine (G1.out.at_ _).mono ?_; rintro _ _ ⟨rfl,e,rfl⟩)
   go_ret
   exact ⟨rfl,HX1.out.trans (Later.ext _)⟩
 have HN:=hide (show checkN f = namesOk f by unfold checkN; rw [if_pos hc0])
 rw [hc0] at G1
 have KN:=hide (fun (e : Later W1) => rnames_any B f e.w (.slice fa f.length fcap) (HS.out.extRM (HX1.out.trans e.ext) hB) (Nat.le_trans hB (HX1.out.trans e.ext).size) (by omega))
 have HROW:=hide hrow
 clear hvx hrow hx1 hc0
 go_enter Tryz.func11,Tryz.ntmps11
 go_wp2_with (first
   | (go_at_call 37; with_reducible refine (G1.out.at_ _).mono ?_; rintro _ _ ⟨rfl,e,rfl⟩)
   | (go_at_call 38; with_reducible refine (KN.out _).mono ?_; rintro _ w9 ⟨vn,rfl,hown9,hx9⟩))
 obtain ⟨W9,hW9⟩ : ∃ W9,W9 = w9:=⟨_,rfl⟩
 have hx19 : Ext W1 W9:=by rw [hW9]; exact (Later.ext _).trans hx9
 have hsn : SStr W9 (namesF f) vn:=by rw [hW9]; exact SStr.of_row hown9
 obtain ⟨e9,he9⟩:=Later.mk_ex (W:=W9) (w:=w9) (by rw [hW9]; exact Ext.refl _)
 subst he9
 have HX9:=hide (HX1.out.trans hx19)
 have c0:=cellL c0 hx19
 clear hx9 hown9 hW9 G1 KN hV1
 have HSN:=hide hsn
 obtain ⟨na,cl,rfl,hcl,hrn⟩:=hsn
 have HRN:=hide hrn
 have HCL:=hide hcl
 clear hrn hcl hx19
 obtain ⟨n,hn⟩ : ∃ n,n = (namesF f).length:=⟨_,rfl⟩
 have hnf : n = f.length:=by rw [hn]; unfold namesF; simp
 have ut : Tryz.prog.underlying 38 = some (.slice (Tryz.prog.elem 38)):=by kernel_rfl
 have sz1 : ∀ w : World,(sizeOf (Tryz.prog.elem 38)).run Tryz.prog w = .ok 1 w:=fun _ => by kernel_rfl
 have HUT:=hide ut
 have HS1:=hide sz1
 clear ut sz1
 go_wp2_with fail
 go_loopw [5] (fun i wr => ∃ k : Nat,k≤f.length∧i = .int .i64 k∧((namesF (f.take k)).Nodup∧∀ m,m ∈ f.take k→rightM m)∧∃ e : Later W9,wr = e.w) (fun i _ => f.length - (intOf i).toNat)
 case atStart => exact ⟨0,Nat.zero_le _,rfl,⟨by simp [namesF],fun m hm => by simp at hm⟩,_,rfl⟩
 case round =>
   obtain ⟨k,hk,rfl,hpre,ea,rfl⟩:=hrel
   by_cases hlt : k < f.length
   · have hltn : k < (namesF f).length:=by omega
     obtain ⟨bl,ol,rfl,hcell⟩:=HRN.out k hltn
     have hcells:=cellAt hcell
     have hkc : k≤cl:=by have:=HCL.out; omega
     have hvs : Go.sliced (some ⟨bl,ol,none⟩) 0 k cl 1 = .slice (some ⟨bl,ol,none⟩) k cl:=by simp [Go.sliced]; exact fun _ => rfl
     have hss : SStr W9 ((namesF f).take k) (.slice (some ⟨bl,ol,none⟩) k cl):=by rw [← hvs]; exact HSN.out.take hltn
     have hnm : (namesF f)[k] = f[k].name:=by simp [namesF]
     rw [hnm] at hcells
     have htk : (namesF f).take k = namesF (f.take k):=by simp [namesF]
     rw [htk] at hss
     have KA:=fun w' (hw : Ext W9 w') => refAmong_any (namesF (f.take k)) f[k].name w' _ (hss.ext hw) (by simp [namesF]; omega)
     have KA:=ECalls.still KA
     have hsk:=msize_mem sizeM f f[k] (List.getElem_mem hlt)
     obtain ⟨mb,mo,v0,v1,v2,v3,hfa,hbB,hR,hC,o0,o1,o2,o3⟩:=HROW.out.open4 hlt
     obtain rfl:=hfa
     have HC:=hide (fun e : Later W9 => (hC.ext (HX9.out.trans e.ext)).get4)
     have d0:=fun e => (HC.out e).1
     have d1:=fun e => (HC.out e).2.1
     have d2:=fun e => (HC.out e).2.2.1
     have d3:=fun e => (HC.out e).2.2.2
     have KR:=hide (show ECalls Tryz.prog 39 #[.agg #[v0,v1,v2,v3]] W9 (.bool (yes (rightM f[k]))) from fun w' hw => rright_any B f[k] w' [v0,v1,v2,v3] (hR.ext (HX9.out.trans hw) hB) (Nat.le_trans hB (HX9.out.trans hw).size) (by omega))
     obtain ⟨v1',v2',v3',hcs,-,-,-⟩:=hR
     simp only [List.cons.injEq,and_true] at hcs
     obtain ⟨rfl,rfl,rfl,rfl⟩:=hcs
     have hk0 : (0 : Int)≤(k : Int):=by omega
     have hk1 : (k : Int) < ((namesF f).length : Int):=by omega
     have hk2 : (k : Int) < (f.length : Int):=by omega
     have HPRE:=hide hpre
     have HSTEP:=hide (names_step hlt)
     have HTAKE:=hide (show (∀ m,m ∈ f.take k→rightM m)→rightM f[k]→∀ m,m ∈ f.take (k + 1)→rightM m from fun h1 h2 => all_take hlt h1 h2)
     have HB1:=hide (show f[k].name ∈ namesF (f.take k)→checkN f = 70 from fun h => by
       rw [HN.out]; exact ok_70 fun g => (names_step hlt).1 (names_sub g.1) |>.2 h)
     have HB2:=hide (show ¬ rightM f[k]→checkN f = 70 from fun h => by
       rw [HN.out]; exact ok_70 fun g => h (g.2 _ (List.getElem_mem hlt)))
     rw [← hn] at hk1 ⊢
     by_cases hin : f[k].name ∈ namesF (f.take k)
     · rw [yes_iff.2 hin] at KA
       have HF:=hide (HB1.out hin)
       have KA:=hide KA
       clear hin hpre hC HB1 HB2 HSTEP HTAKE HPRE KR hsk hcell hvs hss hnm htk
       generalize f[k].name = nm at *
       generalize f.length = fn at *
       go_wp2_with fail
       refine wp_region_facts_n (W:=W9) (eqF [.slice (some ⟨bl,ol,none⟩) n cl,.int .i64 (k : Nat),.slice (some ⟨bl,ol,none⟩) k cl,.slice (some ⟨bl,ol,none⟩) n cl,.int .i64 (k : Nat),.pointer (some ⟨bl,ol + k,none⟩),.string nm,.bool true,.bool true,undef,undef,undef,undef,undef,undef,undef,.bool true]) (fun i => match i with | 9 | 10 | 11 | 12 | 13 | 14 | 15 => false | _ => true) (by kernel_rfl) (by kernel_rfl) ?_ (Later.ext _) (fun i v w w' h hx => eqF_ext h hx) ?_ ?_
       · simp [GuardsSay,eqF] <;> (intro h; cases h)
       · refine ⟨?_,?_,?_,?_,?_,?_,?_,?_,?_,?_,?_,?_,?_,?_,?_,?_,?_,trivial⟩
         · intro A wa hxa hd h0
           obtain ⟨ea,rfl⟩:=Later.mk_ex hxa
           have r4:=rest_at h0 4 (by kernel_rfl)
           simp at r4
           clear hd h0
           go_simp
           first | exact ⟨_,rfl,Ext.refl _,rfl⟩ | exact ⟨Ext.refl _,rfl⟩ | exact rfl | exact ⟨_,rfl,rfl⟩ | exact Ext.refl _ | (trace_state; fail)
         · intro A wa hxa hd h0
           obtain ⟨ea,rfl⟩:=Later.mk_ex hxa
           have r5:=rest_at h0 5 (by kernel_rfl)
           simp at r5
           clear hd h0
           go_simp
           first | exact ⟨_,rfl,Ext.refl _,rfl⟩ | exact ⟨Ext.refl _,rfl⟩ | exact rfl | exact ⟨_,rfl,rfl⟩ | exact Ext.refl _ | (trace_state; fail)
         · intro A wa hxa hd h0
           obtain ⟨ea,rfl⟩:=Later.mk_ex hxa
           have q0:=depOn hd 0 21 (by kernel_rfl) rfl
           simp [eqF] at q0
           have q1:=depOn hd 1 22 (by kernel_rfl) rfl
           simp [eqF] at q1
           clear hd h0
           go_simp
           first | exact ⟨_,rfl,Ext.refl _,rfl⟩ | exact ⟨Ext.refl _,rfl⟩ | exact rfl | exact ⟨_,rfl,rfl⟩ | exact Ext.refl _ | (trace_state; fail)
         · intro A wa hxa hd h0
           obtain ⟨ea,rfl⟩:=Later.mk_ex hxa
           have r4:=rest_at h0 4 (by kernel_rfl)
           simp at r4
           clear hd h0
           go_simp
           first | exact ⟨_,rfl,Ext.refl _,rfl⟩ | exact ⟨Ext.refl _,rfl⟩ | exact rfl | exact ⟨_,rfl,rfl⟩ | exact Ext.refl _ | (trace_state; fail)
         · intro A wa hxa hd h0
           obtain ⟨ea,rfl⟩:=Later.mk_ex hxa
           have r5:=rest_at h0 5 (by kernel_rfl)
           simp at r5
           clear hd h0
           go_simp
           first | exact ⟨_,rfl,Ext.refl _,rfl⟩ | exact ⟨Ext.refl _,rfl⟩ | exact rfl | exact ⟨_,rfl,rfl⟩ | exact Ext.refl _ | (trace_state; fail)
         · intro A wa hxa hd h0
           obtain ⟨ea,rfl⟩:=Later.mk_ex hxa
           have q3:=depOn hd 3 24 (by kernel_rfl) rfl
           simp [eqF] at q3
           have q4:=depOn hd 4 25 (by kernel_rfl) rfl
           simp [eqF] at q4
           clear hd h0
           go_simp
           first | exact ⟨_,rfl,Ext.refl _,rfl⟩ | exact ⟨Ext.refl _,rfl⟩ | exact rfl | exact ⟨_,rfl,rfl⟩ | exact Ext.refl _ | (trace_state; fail)
         · intro A wa hxa hd h0
           obtain ⟨ea,rfl⟩:=Later.mk_ex hxa
           have q5:=depOn hd 5 26 (by kernel_rfl) rfl
           simp [eqF] at q5
           clear hd h0
           go_simp
           first | exact ⟨_,rfl,Ext.refl _,rfl⟩ | exact ⟨Ext.refl _,rfl⟩ | exact rfl | exact ⟨_,rfl,rfl⟩ | exact Ext.refl _ | (trace_state; fail)
         · intro A wa hxa hd h0
           obtain ⟨ea,rfl⟩:=Later.mk_ex hxa
           have q2:=depOn hd 2 23 (by kernel_rfl) rfl
           simp [eqF] at q2
           have q6:=depOn hd 6 27 (by kernel_rfl) rfl
           simp [eqF] at q6
           clear hd h0
           go_simp
           refine (KA.out ea.w ea.ext).mono ?_
           rintro e w2 ⟨rfl,hx⟩
           go_simp
           first | exact ⟨_,rfl,hx,rfl⟩ | exact ⟨hx,rfl⟩ | exact rfl | exact ⟨_,rfl,rfl⟩ | (trace_state; fail)
         · intro A wa hxa hd h0
           obtain ⟨ea,rfl⟩:=Later.mk_ex hxa
           have q7:=depOn hd 7 28 (by kernel_rfl) rfl
           simp [eqF] at q7
           clear hd h0
           go_simp
           first | exact ⟨_,rfl,Ext.refl _,rfl⟩ | exact ⟨Ext.refl _,rfl⟩ | exact rfl | exact ⟨_,rfl,rfl⟩ | exact Ext.refl _ | (trace_state; fail)
         · exact fun w => rfl
         · exact fun w => rfl
         · exact fun w => rfl
         · exact fun w => rfl
         · exact fun w => rfl
         · exact fun w => rfl
         · exact fun w => rfl
         · intro A wa hxa hd h0
           obtain ⟨ea,rfl⟩:=Later.mk_ex hxa
           have q8:=depOn hd 8 29 (by kernel_rfl) rfl
           simp [eqF] at q8
           have q15:=depOn hd 15 36 (by kernel_rfl) rfl
           simp [eqF] at q15
           clear hd h0
           go_simp
           first | exact ⟨_,rfl,Ext.refl _,rfl⟩ | exact ⟨Ext.refl _,rfl⟩ | exact rfl | exact ⟨_,rfl,rfl⟩ | exact Ext.refl _ | (trace_state; fail)
       · intro A wa hk
         obtain ⟨hxa,hsz,hdf,hdn,hrs⟩:=hk
         obtain ⟨ea,rfl⟩:=Later.mk_ex hxa
         have k0:=rest_at hrs 0 (by kernel_rfl)
         simp at k0
         have k1:=rest_at hrs 1 (by kernel_rfl)
         simp at k1
         have k2:=rest_at hrs 2 (by kernel_rfl)
         simp at k2
         have k3:=rest_at hrs 3 (by kernel_rfl)
         simp at k3
         have k4:=rest_at hrs 4 (by kernel_rfl)
         simp at k4
         have k5:=rest_at hrs 5 (by kernel_rfl)
         simp at k5
         have k6:=rest_at hrs 6 (by kernel_rfl)
         simp at k6
         have k37 : A.tmps.getD 37 undef = .bool true:=hdn 16 37 rfl rfl
         clear hdn hrs
         rw [act_lit hsz hdf]
         simp [List.range,List.range.loop] at k0 k1 k2 k3 k4 k5 k6 k37
         simp [List.range,List.range.loop,k0,k1,k2,k3,k4,k5,k6,k37]
         clear k0 k1 k2 k3 k4 k5 k6 k37 hsz hdf
         generalize A.tmps[7]?.getD undef = A7 at *
         generalize A.tmps[8]?.getD undef = A8 at *
         generalize A.tmps[9]?.getD undef = A9 at *
         generalize A.tmps[10]?.getD undef = A10 at *
         generalize A.tmps[11]?.getD undef = A11 at *
         generalize A.tmps[12]?.getD undef = A12 at *
         generalize A.tmps[13]?.getD undef = A13 at *
         generalize A.tmps[14]?.getD undef = A14 at *
         generalize A.tmps[15]?.getD undef = A15 at *
         generalize A.tmps[16]?.getD undef = A16 at *
         generalize A.tmps[17]?.getD undef = A17 at *
         generalize A.tmps[18]?.getD undef = A18 at *
         generalize A.tmps[19]?.getD undef = A19 at *
         generalize A.tmps[20]?.getD undef = A20 at *
         generalize A.tmps[21]?.getD undef = A21 at *
         generalize A.tmps[22]?.getD undef = A22 at *
         generalize A.tmps[23]?.getD undef = A23 at *
         generalize A.tmps[24]?.getD undef = A24 at *
         generalize A.tmps[25]?.getD undef = A25 at *
         generalize A.tmps[26]?.getD undef = A26 at *
         generalize A.tmps[27]?.getD undef = A27 at *
         generalize A.tmps[28]?.getD undef = A28 at *
         generalize A.tmps[29]?.getD undef = A29 at *
         generalize A.tmps[30]?.getD undef = A30 at *
         generalize A.tmps[31]?.getD undef = A31 at *
         generalize A.tmps[32]?.getD undef = A32 at *
         generalize A.tmps[33]?.getD undef = A33 at *
         generalize A.tmps[34]?.getD undef = A34 at *
         generalize A.tmps[35]?.getD undef = A35 at *
         generalize A.tmps[36]?.getD undef = A36 at *
         generalize A.tmps[38]?.getD undef = A38 at *
         generalize A.tmps[39]?.getD undef = A39 at *
         generalize A.tmps[40]?.getD undef = A40 at *
         generalize A.tmps[41]?.getD undef = A41 at *
         generalize A.tmps[42]?.getD undef = A42 at *
         generalize A.tmps[43]?.getD undef = A43 at *
         generalize A.tmps[44]?.getD undef = A44 at *
         generalize A.tmps[45]?.getD undef = A45 at *
         generalize A.tmps[46]?.getD undef = A46 at *
         generalize A.tmps[47]?.getD undef = A47 at *
         generalize A.tmps[48]?.getD undef = A48 at *
         generalize A.tmps[49]?.getD undef = A49 at *
         generalize A.tmps[50]?.getD undef = A50 at *
         generalize A.tmps[51]?.getD undef = A51 at *
         generalize A.tmps[52]?.getD undef = A52 at *
         generalize A.tmps[53]?.getD undef = A53 at *
         generalize A.tmps[54]?.getD undef = A54 at *
         generalize A.tmps[55]?.getD undef = A55 at *
         generalize A.tmps[56]?.getD undef = A56 at *
         generalize A.tmps[57]?.getD undef = A57 at *
         generalize A.tmps[58]?.getD undef = A58 at *
         generalize A.tmps[59]?.getD undef = A59 at *
         go_wp2_with fail
         go_ret
         exact ⟨by rw [HF.out]; rfl,HX9.out.trans ea.ext⟩
     · rw [yes_no.2 hin] at KA
       have KA:=hide KA
       by_cases hr : rightM f[k]
       · rw [yes_iff.2 hr] at KR
         have KR:=hide KR
         have HNX:=hide (show (namesF (f.take (k + 1))).Nodup∧∀ m,m ∈ f.take (k + 1)→rightM m from ⟨HSTEP.out.2 ⟨HPRE.out.1,hin⟩,HTAKE.out HPRE.out.2 hr⟩)
         clear hin hr hpre hC HB1 HB2 HSTEP HTAKE HPRE hsk hcell hvs hss hnm htk
         generalize f[k].name = nm at *
         generalize hfn : f.length = fn at *
         go_wp2_with fail
         refine wp_region_facts_n (W:=W9) (eqF [.slice (some ⟨bl,ol,none⟩) n cl,.int .i64 (k : Nat),.slice (some ⟨bl,ol,none⟩) k cl,.slice (some ⟨bl,ol,none⟩) n cl,.int .i64 (k : Nat),.pointer (some ⟨bl,ol + k,none⟩),.string nm,.bool false,.bool false,.pointer (some ⟨w.heap.size,0,none⟩),.slice (some ⟨mb,mo,none⟩) fn fcap,.int .i64 (k : Nat),.pointer (some ⟨mb,mo + k * 4,none⟩),.agg #[.string nm,v1,v2,v3],.bool true,.bool false,.bool false]) (fun i => match i with  | _ => true) (by kernel_rfl) (by kernel_rfl) ?_ (Later.ext _) (fun i v w w' h hx => eqF_ext h hx) ?_ ?_
         · simp [GuardsSay,eqF] <;> (intro h; cases h)
         · refine ⟨?_,?_,?_,?_,?_,?_,?_,?_,?_,?_,?_,?_,?_,?_,?_,?_,?_,trivial⟩
           · intro A wa hxa hd h0
             obtain ⟨ea,rfl⟩:=Later.mk_ex hxa
             have r4:=rest_at h0 4 (by kernel_rfl)
             simp at r4
             clear hd h0
             go_simp
             first | exact ⟨_,rfl,Ext.refl _,rfl⟩ | exact ⟨Ext.refl _,rfl⟩ | exact rfl | exact ⟨_,rfl,rfl⟩ | exact Ext.refl _ | (trace_state; fail)
           · intro A wa hxa hd h0
             obtain ⟨ea,rfl⟩:=Later.mk_ex hxa
             have r5:=rest_at h0 5 (by kernel_rfl)
             simp at r5
             clear hd h0
             go_simp
             first | exact ⟨_,rfl,Ext.refl _,rfl⟩ | exact ⟨Ext.refl _,rfl⟩ | exact rfl | exact ⟨_,rfl,rfl⟩ | exact Ext.refl _ | (trace_state; fail)
           · intro A wa hxa hd h0
             obtain ⟨ea,rfl⟩:=Later.mk_ex hxa
             have q0:=depOn hd 0 21 (by kernel_rfl) rfl
             simp [eqF] at q0
             have q1:=depOn hd 1 22 (by kernel_rfl) rfl
             simp [eqF] at q1
             clear hd h0
             go_simp
             first | exact ⟨_,rfl,Ext.refl _,rfl⟩ | exact ⟨Ext.refl _,rfl⟩ | exact rfl | exact ⟨_,rfl,rfl⟩ | exact Ext.refl _ | (trace_state; fail)
           · intro A wa hxa hd h0
             obtain ⟨ea,rfl⟩:=Later.mk_ex hxa
             have r4:=rest_at h0 4 (by kernel_rfl)
             simp at r4
             clear hd h0
             go_simp
             first | exact ⟨_,rfl,Ext.refl _,rfl⟩ | exact ⟨Ext.refl _,rfl⟩ | exact rfl | exact ⟨_,rfl,rfl⟩ | exact Ext.refl _ | (trace_state; fail)
           · intro A wa hxa hd h0
             obtain ⟨ea,rfl⟩:=Later.mk_ex hxa
             have r5:=rest_at h0 5 (by kernel_rfl)
             simp at r5
             clear hd h0
             go_simp
             first | exact ⟨_,rfl,Ext.refl _,rfl⟩ | exact ⟨Ext.refl _,rfl⟩ | exact rfl | exact ⟨_,rfl,rfl⟩ | exact Ext.refl _ | (trace_state; fail)
           · intro A wa hxa hd h0
             obtain ⟨ea,rfl⟩:=Later.mk_ex hxa
             have q3:=depOn hd 3 24 (by kernel_rfl) rfl
             simp [eqF] at q3
             have q4:=depOn hd 4 25 (by kernel_rfl) rfl
             simp [eqF] at q4
             clear hd h0
             go_simp
             first | exact ⟨_,rfl,Ext.refl _,rfl⟩ | exact ⟨Ext.refl _,rfl⟩ | exact rfl | exact ⟨_,rfl,rfl⟩ | exact Ext.refl _ | (trace_state; fail)
           · intro A wa hxa hd h0
             obtain ⟨ea,rfl⟩:=Later.mk_ex hxa
             have q5:=depOn hd 5 26 (by kernel_rfl) rfl
             simp [eqF] at q5
             clear hd h0
             go_simp
             first | exact ⟨_,rfl,Ext.refl _,rfl⟩ | exact ⟨Ext.refl _,rfl⟩ | exact rfl | exact ⟨_,rfl,rfl⟩ | exact Ext.refl _ | (trace_state; fail)
           · intro A wa hxa hd h0
             obtain ⟨ea,rfl⟩:=Later.mk_ex hxa
             have q2:=depOn hd 2 23 (by kernel_rfl) rfl
             simp [eqF] at q2
             have q6:=depOn hd 6 27 (by kernel_rfl) rfl
             simp [eqF] at q6
             clear hd h0
             go_simp
             refine (KA.out ea.w ea.ext).mono ?_
             rintro e w2 ⟨rfl,hx⟩
             go_simp
             first | exact ⟨_,rfl,hx,rfl⟩ | exact ⟨hx,rfl⟩ | exact rfl | exact ⟨_,rfl,rfl⟩ | (trace_state; fail)
           · intro A wa hxa hd h0
             obtain ⟨ea,rfl⟩:=Later.mk_ex hxa
             have q7:=depOn hd 7 28 (by kernel_rfl) rfl
             simp [eqF] at q7
             clear hd h0
             go_simp
             first | exact ⟨_,rfl,Ext.refl _,rfl⟩ | exact ⟨Ext.refl _,rfl⟩ | exact rfl | exact ⟨_,rfl,rfl⟩ | exact Ext.refl _ | (trace_state; fail)
           · intro A wa hxa hd h0
             obtain ⟨ea,rfl⟩:=Later.mk_ex hxa
             have r1:=rest_at h0 1 (by kernel_rfl)
             simp at r1
             clear hd h0
             go_simp
             first | exact ⟨_,rfl,Ext.refl _,rfl⟩ | exact ⟨Ext.refl _,rfl⟩ | exact rfl | exact ⟨_,rfl,rfl⟩ | exact Ext.refl _ | (trace_state; fail)
           · intro A wa hxa hd h0
             obtain ⟨ea,rfl⟩:=Later.mk_ex hxa
             have q9:=depOn hd 9 30 (by kernel_rfl) rfl
             simp [eqF] at q9
             clear hd h0
             go_simp
             first | exact ⟨_,rfl,Ext.refl _,rfl⟩ | exact ⟨Ext.refl _,rfl⟩ | exact rfl | exact ⟨_,rfl,rfl⟩ | exact Ext.refl _ | (trace_state; fail)
           · intro A wa hxa hd h0
             obtain ⟨ea,rfl⟩:=Later.mk_ex hxa
             have r5:=rest_at h0 5 (by kernel_rfl)
             simp at r5
             clear hd h0
             go_simp
             first | exact ⟨_,rfl,Ext.refl _,rfl⟩ | exact ⟨Ext.refl _,rfl⟩ | exact rfl | exact ⟨_,rfl,rfl⟩ | exact Ext.refl _ | (trace_state; fail)
           · intro A wa hxa hd h0
             obtain ⟨ea,rfl⟩:=Later.mk_ex hxa
             have q10:=depOn hd 10 31 (by kernel_rfl) rfl
             simp [eqF] at q10
             have q11:=depOn hd 11 32 (by kernel_rfl) rfl
             simp [eqF] at q11
             clear hd h0
             go_simp
             first | exact ⟨_,rfl,Ext.refl _,rfl⟩ | exact ⟨Ext.refl _,rfl⟩ | exact rfl | exact ⟨_,rfl,rfl⟩ | exact Ext.refl _ | (trace_state; fail)
           · intro A wa hxa hd h0
             obtain ⟨ea,rfl⟩:=Later.mk_ex hxa
             have q12:=depOn hd 12 33 (by kernel_rfl) rfl
             simp [eqF] at q12
             clear hd h0
             go_simp
             first | exact ⟨_,rfl,Ext.refl _,rfl⟩ | exact ⟨Ext.refl _,rfl⟩ | exact rfl | exact ⟨_,rfl,rfl⟩ | exact Ext.refl _ | (trace_state; fail)
           · intro A wa hxa hd h0
             obtain ⟨ea,rfl⟩:=Later.mk_ex hxa
             have q13:=depOn hd 13 34 (by kernel_rfl) rfl
             simp [eqF] at q13
             clear hd h0
             go_simp
             refine (KR.out ea.w ea.ext).mono ?_
             rintro e w2 ⟨rfl,hx⟩
             go_simp
             first | exact ⟨_,rfl,hx,rfl⟩ | exact ⟨hx,rfl⟩ | exact rfl | exact ⟨_,rfl,rfl⟩ | (trace_state; fail)
           · intro A wa hxa hd h0
             obtain ⟨ea,rfl⟩:=Later.mk_ex hxa
             have q14:=depOn hd 14 35 (by kernel_rfl) rfl
             simp [eqF] at q14
             clear hd h0
             go_simp
             first | exact ⟨_,rfl,Ext.refl _,rfl⟩ | exact ⟨Ext.refl _,rfl⟩ | exact rfl | exact ⟨_,rfl,rfl⟩ | exact Ext.refl _ | (trace_state; fail)
           · intro A wa hxa hd h0
             obtain ⟨ea,rfl⟩:=Later.mk_ex hxa
             have q8:=depOn hd 8 29 (by kernel_rfl) rfl
             simp [eqF] at q8
             have q15:=depOn hd 15 36 (by kernel_rfl) rfl
             simp [eqF] at q15
             clear hd h0
             go_simp
             first | exact ⟨_,rfl,Ext.refl _,rfl⟩ | exact ⟨Ext.refl _,rfl⟩ | exact rfl | exact ⟨_,rfl,rfl⟩ | exact Ext.refl _ | (trace_state; fail)
         · intro A wa hk
           obtain ⟨hxa,hsz,hdf,hdn,hrs⟩:=hk
           obtain ⟨ea,rfl⟩:=Later.mk_ex hxa
           have k0:=rest_at hrs 0 (by kernel_rfl)
           simp at k0
           have k1:=rest_at hrs 1 (by kernel_rfl)
           simp at k1
           have k2:=rest_at hrs 2 (by kernel_rfl)
           simp at k2
           have k3:=rest_at hrs 3 (by kernel_rfl)
           simp at k3
           have k4:=rest_at hrs 4 (by kernel_rfl)
           simp at k4
           have k5:=rest_at hrs 5 (by kernel_rfl)
           simp at k5
           have k6:=rest_at hrs 6 (by kernel_rfl)
           simp at k6
           have k7:=rest_at hrs 7 (by kernel_rfl)
           simp at k7
           have k8:=rest_at hrs 8 (by kernel_rfl)
           simp at k8
           have k9:=rest_at hrs 9 (by kernel_rfl)
           simp at k9
           have k10:=rest_at hrs 10 (by kernel_rfl)
           simp at k10
           have k11:=rest_at hrs 11 (by kernel_rfl)
           simp at k11
           have k12:=rest_at hrs 12 (by kernel_rfl)
           simp at k12
           have k13:=rest_at hrs 13 (by kernel_rfl)
           simp at k13
           have k38:=rest_at hrs 38 (by kernel_rfl)
           simp at k38
           have k39:=rest_at hrs 39 (by kernel_rfl)
           simp at k39
           have k40:=rest_at hrs 40 (by kernel_rfl)
           simp at k40
           have k41:=rest_at hrs 41 (by kernel_rfl)
           simp at k41
           have k42:=rest_at hrs 42 (by kernel_rfl)
           simp at k42
           have k43:=rest_at hrs 43 (by kernel_rfl)
           simp at k43
           have k44:=rest_at hrs 44 (by kernel_rfl)
           simp at k44
           have k45:=rest_at hrs 45 (by kernel_rfl)
           simp at k45
           have k46:=rest_at hrs 46 (by kernel_rfl)
           simp at k46
           have k47:=rest_at hrs 47 (by kernel_rfl)
           simp at k47
           have k48:=rest_at hrs 48 (by kernel_rfl)
           simp at k48
           have k49:=rest_at hrs 49 (by kernel_rfl)
           simp at k49
           have k50:=rest_at hrs 50 (by kernel_rfl)
           simp at k50
           have k51:=rest_at hrs 51 (by kernel_rfl)
           simp at k51
           have k52:=rest_at hrs 52 (by kernel_rfl)
           simp at k52
           have k53:=rest_at hrs 53 (by kernel_rfl)
           simp at k53
           have k54:=rest_at hrs 54 (by kernel_rfl)
           simp at k54
           have k55:=rest_at hrs 55 (by kernel_rfl)
           simp at k55
           have k56:=rest_at hrs 56 (by kernel_rfl)
           simp at k56
           have k57:=rest_at hrs 57 (by kernel_rfl)
           simp at k57
           have k58:=rest_at hrs 58 (by kernel_rfl)
           simp at k58
           have k59:=rest_at hrs 59 (by kernel_rfl)
           simp at k59
           have k37 : A.tmps.getD 37 undef = .bool false:=hdn 16 37 rfl rfl
           clear hdn hrs
           rw [act_lit hsz hdf]
           simp [List.range,List.range.loop] at k0 k1 k2 k3 k4 k5 k6 k7 k8 k9 k10 k11 k12 k13 k38 k39 k40 k41 k42 k43 k44 k45 k46 k47 k48 k49 k50 k51 k52 k53 k54 k55 k56 k57 k58 k59 k37
           simp [List.range,List.range.loop,k0,k1,k2,k3,k4,k5,k6,k7,k8,k9,k10,k11,k12,k13,k38,k39,k40,k41,k42,k43,k44,k45,k46,k47,k48,k49,k50,k51,k52,k53,k54,k55,k56,k57,k58,k59,k37]
           clear k0 k1 k2 k3 k4 k5 k6 k7 k8 k9 k10 k11 k12 k13 k38 k39 k40 k41 k42 k43 k44 k45 k46 k47 k48 k49 k50 k51 k52 k53 k54 k55 k56 k57 k58 k59 k37 hsz hdf
           generalize A.tmps[14]?.getD undef = A14 at *
           generalize A.tmps[15]?.getD undef = A15 at *
           generalize A.tmps[16]?.getD undef = A16 at *
           generalize A.tmps[17]?.getD undef = A17 at *
           generalize A.tmps[18]?.getD undef = A18 at *
           generalize A.tmps[19]?.getD undef = A19 at *
           generalize A.tmps[20]?.getD undef = A20 at *
           generalize A.tmps[21]?.getD undef = A21 at *
           generalize A.tmps[22]?.getD undef = A22 at *
           generalize A.tmps[23]?.getD undef = A23 at *
           generalize A.tmps[24]?.getD undef = A24 at *
           generalize A.tmps[25]?.getD undef = A25 at *
           generalize A.tmps[26]?.getD undef = A26 at *
           generalize A.tmps[27]?.getD undef = A27 at *
           generalize A.tmps[28]?.getD undef = A28 at *
           generalize A.tmps[29]?.getD undef = A29 at *
           generalize A.tmps[30]?.getD undef = A30 at *
           generalize A.tmps[31]?.getD undef = A31 at *
           generalize A.tmps[32]?.getD undef = A32 at *
           generalize A.tmps[33]?.getD undef = A33 at *
           generalize A.tmps[34]?.getD undef = A34 at *
           generalize A.tmps[35]?.getD undef = A35 at *
           generalize A.tmps[36]?.getD undef = A36 at *
           go_wp2_with fail
           go_roundw
           case rel => exact ⟨k + 1,by omega,by go_num,HNX.out,_,rfl⟩
           case measure => simp [intOf]; omega
       · rw [yes_no.2 hr] at KR
         have KR:=hide KR
         have HF:=hide (HB2.out hr)
         clear hin hr hpre hC HB1 HB2 HSTEP HTAKE HPRE hsk hcell hvs hss hnm htk
         generalize f[k].name = nm at *
         generalize f.length = fn at *
         go_wp2_with fail
         refine wp_region_facts_n (W:=W9) (eqF [.slice (some ⟨bl,ol,none⟩) n cl,.int .i64 (k : Nat),.slice (some ⟨bl,ol,none⟩) k cl,.slice (some ⟨bl,ol,none⟩) n cl,.int .i64 (k : Nat),.pointer (some ⟨bl,ol + k,none⟩),.string nm,.bool false,.bool false,.pointer (some ⟨w.heap.size,0,none⟩),.slice (some ⟨mb,mo,none⟩) fn fcap,.int .i64 (k : Nat),.pointer (some ⟨mb,mo + k * 4,none⟩),.agg #[.string nm,v1,v2,v3],.bool false,.bool true,.bool true]) (fun i => match i with  | _ => true) (by kernel_rfl) (by kernel_rfl) ?_ (Later.ext _) (fun i v w w' h hx => eqF_ext h hx) ?_ ?_
         · simp [GuardsSay,eqF] <;> (intro h; cases h)
         · refine ⟨?_,?_,?_,?_,?_,?_,?_,?_,?_,?_,?_,?_,?_,?_,?_,?_,?_,trivial⟩
           · intro A wa hxa hd h0
             obtain ⟨ea,rfl⟩:=Later.mk_ex hxa
             have r4:=rest_at h0 4 (by kernel_rfl)
             simp at r4
             clear hd h0
             go_simp
             first | exact ⟨_,rfl,Ext.refl _,rfl⟩ | exact ⟨Ext.refl _,rfl⟩ | exact rfl | exact ⟨_,rfl,rfl⟩ | exact Ext.refl _ | (trace_state; fail)
           · intro A wa hxa hd h0
             obtain ⟨ea,rfl⟩:=Later.mk_ex hxa
             have r5:=rest_at h0 5 (by kernel_rfl)
             simp at r5
             clear hd h0
             go_simp
             first | exact ⟨_,rfl,Ext.refl _,rfl⟩ | exact ⟨Ext.refl _,rfl⟩ | exact rfl | exact ⟨_,rfl,rfl⟩ | exact Ext.refl _ | (trace_state; fail)
           · intro A wa hxa hd h0
             obtain ⟨ea,rfl⟩:=Later.mk_ex hxa
             have q0:=depOn hd 0 21 (by kernel_rfl) rfl
             simp [eqF] at q0
             have q1:=depOn hd 1 22 (by kernel_rfl) rfl
             simp [eqF] at q1
             clear hd h0
             go_simp
             first | exact ⟨_,rfl,Ext.refl _,rfl⟩ | exact ⟨Ext.refl _,rfl⟩ | exact rfl | exact ⟨_,rfl,rfl⟩ | exact Ext.refl _ | (trace_state; fail)
           · intro A wa hxa hd h0
             obtain ⟨ea,rfl⟩:=Later.mk_ex hxa
             have r4:=rest_at h0 4 (by kernel_rfl)
             simp at r4
             clear hd h0
             go_simp
             first | exact ⟨_,rfl,Ext.refl _,rfl⟩ | exact ⟨Ext.refl _,rfl⟩ | exact rfl | exact ⟨_,rfl,rfl⟩ | exact Ext.refl _ | (trace_state; fail)
           · intro A wa hxa hd h0
             obtain ⟨ea,rfl⟩:=Later.mk_ex hxa
             have r5:=rest_at h0 5 (by kernel_rfl)
             simp at r5
             clear hd h0
             go_simp
             first | exact ⟨_,rfl,Ext.refl _,rfl⟩ | exact ⟨Ext.refl _,rfl⟩ | exact rfl | exact ⟨_,rfl,rfl⟩ | exact Ext.refl _ | (trace_state; fail)
           · intro A wa hxa hd h0
             obtain ⟨ea,rfl⟩:=Later.mk_ex hxa
             have q3:=depOn hd 3 24 (by kernel_rfl) rfl
             simp [eqF] at q3
             have q4:=depOn hd 4 25 (by kernel_rfl) rfl
             simp [eqF] at q4
             clear hd h0
             go_simp
             first | exact ⟨_,rfl,Ext.refl _,rfl⟩ | exact ⟨Ext.refl _,rfl⟩ | exact rfl | exact ⟨_,rfl,rfl⟩ | exact Ext.refl _ | (trace_state; fail)
           · intro A wa hxa hd h0
             obtain ⟨ea,rfl⟩:=Later.mk_ex hxa
             have q5:=depOn hd 5 26 (by kernel_rfl) rfl
             simp [eqF] at q5
             clear hd h0
             go_simp
             first | exact ⟨_,rfl,Ext.refl _,rfl⟩ | exact ⟨Ext.refl _,rfl⟩ | exact rfl | exact ⟨_,rfl,rfl⟩ | exact Ext.refl _ | (trace_state; fail)
           · intro A wa hxa hd h0
             obtain ⟨ea,rfl⟩:=Later.mk_ex hxa
             have q2:=depOn hd 2 23 (by kernel_rfl) rfl
             simp [eqF] at q2
             have q6:=depOn hd 6 27 (by kernel_rfl) rfl
             simp [eqF] at q6
             clear hd h0
             go_simp
             refine (KA.out ea.w ea.ext).mono ?_
             rintro e w2 ⟨rfl,hx⟩
             go_simp
             first | exact ⟨_,rfl,hx,rfl⟩ | exact ⟨hx,rfl⟩ | exact rfl | exact ⟨_,rfl,rfl⟩ | (trace_state; fail)
           · intro A wa hxa hd h0
             obtain ⟨ea,rfl⟩:=Later.mk_ex hxa
             have q7:=depOn hd 7 28 (by kernel_rfl) rfl
             simp [eqF] at q7
             clear hd h0
             go_simp
             first | exact ⟨_,rfl,Ext.refl _,rfl⟩ | exact ⟨Ext.refl _,rfl⟩ | exact rfl | exact ⟨_,rfl,rfl⟩ | exact Ext.refl _ | (trace_state; fail)
           · intro A wa hxa hd h0
             obtain ⟨ea,rfl⟩:=Later.mk_ex hxa
             have r1:=rest_at h0 1 (by kernel_rfl)
             simp at r1
             clear hd h0
             go_simp
             first | exact ⟨_,rfl,Ext.refl _,rfl⟩ | exact ⟨Ext.refl _,rfl⟩ | exact rfl | exact ⟨_,rfl,rfl⟩ | exact Ext.refl _ | (trace_state; fail)
           · intro A wa hxa hd h0
             obtain ⟨ea,rfl⟩:=Later.mk_ex hxa
             have q9:=depOn hd 9 30 (by kernel_rfl) rfl
             simp [eqF] at q9
             clear hd h0
             go_simp
             first | exact ⟨_,rfl,Ext.refl _,rfl⟩ | exact ⟨Ext.refl _,rfl⟩ | exact rfl | exact ⟨_,rfl,rfl⟩ | exact Ext.refl _ | (trace_state; fail)
           · intro A wa hxa hd h0
             obtain ⟨ea,rfl⟩:=Later.mk_ex hxa
             have r5:=rest_at h0 5 (by kernel_rfl)
             simp at r5
             clear hd h0
             go_simp
             first | exact ⟨_,rfl,Ext.refl _,rfl⟩ | exact ⟨Ext.refl _,rfl⟩ | exact rfl | exact ⟨_,rfl,rfl⟩ | exact Ext.refl _ | (trace_state; fail)
           · intro A wa hxa hd h0
             obtain ⟨ea,rfl⟩:=Later.mk_ex hxa
             have q10:=depOn hd 10 31 (by kernel_rfl) rfl
             simp [eqF] at q10
             have q11:=depOn hd 11 32 (by kernel_rfl) rfl
             simp [eqF] at q11
             clear hd h0
             go_simp
             first | exact ⟨_,rfl,Ext.refl _,rfl⟩ | exact ⟨Ext.refl _,rfl⟩ | exact rfl | exact ⟨_,rfl,rfl⟩ | exact Ext.refl _ | (trace_state; fail)
           · intro A wa hxa hd h0
             obtain ⟨ea,rfl⟩:=Later.mk_ex hxa
             have q12:=depOn hd 12 33 (by kernel_rfl) rfl
             simp [eqF] at q12
             clear hd h0
             go_simp
             first | exact ⟨_,rfl,Ext.refl _,rfl⟩ | exact ⟨Ext.refl _,rfl⟩ | exact rfl | exact ⟨_,rfl,rfl⟩ | exact Ext.refl _ | (trace_state; fail)
           · intro A wa hxa hd h0
             obtain ⟨ea,rfl⟩:=Later.mk_ex hxa
             have q13:=depOn hd 13 34 (by kernel_rfl) rfl
             simp [eqF] at q13
             clear hd h0
             go_simp
             refine (KR.out ea.w ea.ext).mono ?_
             rintro e w2 ⟨rfl,hx⟩
             go_simp
             first | exact ⟨_,rfl,hx,rfl⟩ | exact ⟨hx,rfl⟩ | exact rfl | exact ⟨_,rfl,rfl⟩ | (trace_state; fail)
           · intro A wa hxa hd h0
             obtain ⟨ea,rfl⟩:=Later.mk_ex hxa
             have q14:=depOn hd 14 35 (by kernel_rfl) rfl
             simp [eqF] at q14
             clear hd h0
             go_simp
             first | exact ⟨_,rfl,Ext.refl _,rfl⟩ | exact ⟨Ext.refl _,rfl⟩ | exact rfl | exact ⟨_,rfl,rfl⟩ | exact Ext.refl _ | (trace_state; fail)
           · intro A wa hxa hd h0
             obtain ⟨ea,rfl⟩:=Later.mk_ex hxa
             have q8:=depOn hd 8 29 (by kernel_rfl) rfl
             simp [eqF] at q8
             have q15:=depOn hd 15 36 (by kernel_rfl) rfl
             simp [eqF] at q15
             clear hd h0
             go_simp
             first | exact ⟨_,rfl,Ext.refl _,rfl⟩ | exact ⟨Ext.refl _,rfl⟩ | exact rfl | exact ⟨_,rfl,rfl⟩ | exact Ext.refl _ | (trace_state; fail)
         · intro A wa hk
           obtain ⟨hxa,hsz,hdf,hdn,hrs⟩:=hk
           obtain ⟨ea,rfl⟩:=Later.mk_ex hxa
           have k0:=rest_at hrs 0 (by kernel_rfl)
           simp at k0
           have k1:=rest_at hrs 1 (by kernel_rfl)
           simp at k1
           have k2:=rest_at hrs 2 (by kernel_rfl)
           simp at k2
           have k3:=rest_at hrs 3 (by kernel_rfl)
           simp at k3
           have k4:=rest_at hrs 4 (by kernel_rfl)
           simp at k4
           have k5:=rest_at hrs 5 (by kernel_rfl)
           simp at k5
           have k6:=rest_at hrs 6 (by kernel_rfl)
           simp at k6
           have k37 : A.tmps.getD 37 undef = .bool true:=hdn 16 37 rfl rfl
           clear hdn hrs
           rw [act_lit hsz hdf]
           simp [List.range,List.range.loop] at k0 k1 k2 k3 k4 k5 k6 k37
           simp [List.range,List.range.loop,k0,k1,k2,k3,k4,k5,k6,k37]
           clear k0 k1 k2 k3 k4 k5 k6 k37 hsz hdf
           generalize A.tmps[7]?.getD undef = A7 at *
           generalize A.tmps[8]?.getD undef = A8 at *
           generalize A.tmps[9]?.getD undef = A9 at *
           generalize A.tmps[10]?.getD undef = A10 at *
           generalize A.tmps[11]?.getD undef = A11 at *
           generalize A.tmps[12]?.getD undef = A12 at *
           generalize A.tmps[13]?.getD undef = A13 at *
           generalize A.tmps[14]?.getD undef = A14 at *
           generalize A.tmps[15]?.getD undef = A15 at *
           generalize A.tmps[16]?.getD undef = A16 at *
           generalize A.tmps[17]?.getD undef = A17 at *
           generalize A.tmps[18]?.getD undef = A18 at *
           generalize A.tmps[19]?.getD undef = A19 at *
           generalize A.tmps[20]?.getD undef = A20 at *
           generalize A.tmps[21]?.getD undef = A21 at *
           generalize A.tmps[22]?.getD undef = A22 at *
           generalize A.tmps[23]?.getD undef = A23 at *
           generalize A.tmps[24]?.getD undef = A24 at *
           generalize A.tmps[25]?.getD undef = A25 at *
           generalize A.tmps[26]?.getD undef = A26 at *
           generalize A.tmps[27]?.getD undef = A27 at *
           generalize A.tmps[28]?.getD undef = A28 at *
           generalize A.tmps[29]?.getD undef = A29 at *
           generalize A.tmps[30]?.getD undef = A30 at *
           generalize A.tmps[31]?.getD undef = A31 at *
           generalize A.tmps[32]?.getD undef = A32 at *
           generalize A.tmps[33]?.getD undef = A33 at *
           generalize A.tmps[34]?.getD undef = A34 at *
           generalize A.tmps[35]?.getD undef = A35 at *
           generalize A.tmps[36]?.getD undef = A36 at *
           generalize A.tmps[38]?.getD undef = A38 at *
           generalize A.tmps[39]?.getD undef = A39 at *
           generalize A.tmps[40]?.getD undef = A40 at *
           generalize A.tmps[41]?.getD undef = A41 at *
           generalize A.tmps[42]?.getD undef = A42 at *
           generalize A.tmps[43]?.getD undef = A43 at *
           generalize A.tmps[44]?.getD undef = A44 at *
           generalize A.tmps[45]?.getD undef = A45 at *
           generalize A.tmps[46]?.getD undef = A46 at *
           generalize A.tmps[47]?.getD undef = A47 at *
           generalize A.tmps[48]?.getD undef = A48 at *
           generalize A.tmps[49]?.getD undef = A49 at *
           generalize A.tmps[50]?.getD undef = A50 at *
           generalize A.tmps[51]?.getD undef = A51 at *
           generalize A.tmps[52]?.getD undef = A52 at *
           generalize A.tmps[53]?.getD undef = A53 at *
           generalize A.tmps[54]?.getD undef = A54 at *
           generalize A.tmps[55]?.getD undef = A55 at *
           generalize A.tmps[56]?.getD undef = A56 at *
           generalize A.tmps[57]?.getD undef = A57 at *
           generalize A.tmps[58]?.getD undef = A58 at *
           generalize A.tmps[59]?.getD undef = A59 at *
           go_wp2_with fail
           go_ret
           exact ⟨by rw [HF.out]; rfl,HX9.out.trans ea.ext⟩
   · have hkl : k = f.length:=by omega
     subst hkl
     rw [List.take_length] at hpre
     have ALL:=hide hpre
     clear hpre
     go_wp2_with fail
     go_loopw [6] (fun i wr => ∃ k : Nat,k≤f.length∧i = .int .i64 k∧(∀ m,m ∈ f.take k→∀ s,s ∈ usesM m→s ∈ namesF f)∧∃ e : Later W9,wr = e.w) (fun i _ => f.length - (intOf i).toNat)
     case atStart => exact ⟨0,Nat.zero_le _,rfl,fun m hm => by simp at hm,_,rfl⟩
     case round =>
       obtain ⟨k,hk,rfl,hus,eb,rfl⟩:=hrel
       by_cases hlt : k < f.length
       · have hsk:=msize_mem sizeM f f[k] (List.getElem_mem hlt)
         obtain ⟨mb,mo,v0,v1,v2,v3,hfa,hbB,hR,hC,o0,o1,o2,o3⟩:=HROW.out.open4 hlt
         obtain rfl:=hfa
         have HC:=hide (fun e : Later W9 => (hC.ext (HX9.out.trans e.ext)).get4)
         have d0:=fun e => (HC.out e).1
         have d1:=fun e => (HC.out e).2.1
         have d2:=fun e => (HC.out e).2.2.1
         have d3:=fun e => (HC.out e).2.2.2
         have KU:=hide (fun e : Later W9 => rUses_any B f[k] e.w [v0,v1,v2,v3] (hR.ext (HX9.out.trans e.ext) hB) (Nat.le_trans hB (HX9.out.trans e.ext).size) (by omega))
         obtain ⟨v1',v2',v3',hcs,-,-,-⟩:=hR
         simp only [List.cons.injEq,and_true] at hcs
         obtain ⟨rfl,rfl,rfl,rfl⟩:=hcs
         have hul:=uses_len f[k] (by
           have h2 : sizeM f[k] = 1 + (msize sizeB f[k].params + msize sizeP f[k].ports + msize sizeI f[k].items):=by unfold sizeM; omega
           omega)
         have hmem:=List.getElem_mem hlt
         have KB:=hide (fun (w2 : World) (u2 : Value) (hs2 : SStr w2 (usesM f[k]) u2) (hx : Ext W9 w2) => rbehind_any (usesM f[k]) (namesF f) w2 u2 _ hs2 (HSN.out.ext hx) (by omega) (by rw [← hn]; omega))
         by_cases hall : ∀ s,s ∈ usesM f[k]→s ∈ namesF f
         · have SUS:=hide (show ∀ m,m ∈ f.take (k + 1)→∀ s,s ∈ usesM m→s ∈ namesF f from fun m hm s hs => by
             rw [List.take_succ_eq_append_getElem hlt] at hm
             rcases List.mem_append.1 hm with h | h
             · exact hus m h s hs
             · rw [List.mem_singleton.1 h] at hs
               exact hall s hs)
           rw [yes_iff.2 hall] at KB
           clear hall hmem hus hC
           generalize f[k] = x at *
           go_wp2_with fail
           go_at_call 17
           refine (KU.out _).mono ?_
           rintro _ w2 ⟨u2,rfl,hs2,hx2⟩
           have HX2:=hide (eb.ext.trans hx2)
           have KB2:=hide (KB.out w2 u2 hs2 HX2.out)
           clear hs2 hx2 KU KB
           go_wp2_with (go_at_call 40; refine KB2.out.mono ?_; rintro _ _ ⟨rfl,rfl⟩)
           go_roundw
           case rel => exact ⟨k + 1,by omega,by go_num,SUS.out,Later.mk_ex HX2.out⟩
           case measure => simp [intOf]; omega
         · have FIN:=hide (show checkN f = 71 from by rw [HN.out]; exact ok_71 ALL.out (fun h => hall fun s hs => h _ hmem s hs))
           rw [yes_no.2 hall] at KB
           clear hall hmem hus hC
           generalize f[k] = x at *
           go_wp2_with fail
           go_at_call 17
           refine (KU.out _).mono ?_
           rintro _ w2 ⟨u2,rfl,hs2,hx2⟩
           have HX2:=hide (eb.ext.trans hx2)
           have KB2:=hide (KB.out w2 u2 hs2 HX2.out)
           clear hs2 hx2 KU KB
           go_wp2_with (go_at_call 40; refine KB2.out.mono ?_; rintro _ _ ⟨rfl,rfl⟩)
           go_ret
           exact ⟨by rw [FIN.out]; rfl,HX9.out.trans HX2.out⟩
       · have hkl : k = f.length:=by omega
         subst hkl
         rw [List.take_length] at hus
         have FIN:=hide (show checkN f = _ from HN.out.trans (ok_end ALL.out hus))
         have KO:=hide (rorder_any B f eb.w _ (HS.out.extRM (HX9.out.trans eb.ext) hB) (Nat.le_trans hB (HX9.out.trans eb.ext).size) (by omega))
         have hol:=(orderF_end f).1.le
         clear hus
         go_wp2_with fail
         go_at_call 41
         refine KO.out.mono ?_
         rintro _ w2 ⟨u2,rfl,hs2,hx2⟩
         have HX2:=hide (HX9.out.trans (eb.ext.trans hx2))
         obtain ⟨oa,oc,rfl,-,-⟩:=hs2
         clear hx2 KO
         by_cases hlt2 : (orderF f).length < f.length
         · have FN2:=hide (show checkN f = 72 by rw [FIN.out,if_pos hlt2])
           have hl3 : ((orderF f).length : Int) < (n : Int):=by omega
           rw [← hn]
           clear FIN hlt2 hol
           generalize (orderF f).length = ol at *
           go_wp2_with fail
           go_ret
           exact ⟨by rw [FN2.out]; rfl,HX2.out⟩
         · have FN2:=hide (show checkN f = 0 by rw [FIN.out,if_neg hlt2])
           have hl3 : ¬ ((orderF f).length : Int) < (n : Int):=by omega
           rw [← hn]
           clear FIN hlt2 hol
           generalize (orderF f).length = ol at *
           go_wp2_with fail
           go_ret
           exact ⟨by rw [FN2.out]; rfl,HX2.out⟩
end Go.Proofs.YtjoglnjpgkobeaaGreatDoor
