import Derived.Test.YtjoglnjpgkobeaaGreatDoorProg
import Derived.Test.YtjoglnjpgkobeaaGreatDoorS35
import Derived.Test.YtjoglnjpgkobeaaGreatDoorS36
import Derived.Test.YtjoglnjpgkobeaaGreatDoorS7
import Derived.Test.YtjoglnjpgkobeaaGreatDoorS24
set_option linter.all false
set_option linter.unusedVariables false
set_option linter.unusedSimpArgs false
namespace Go.Proofs.YtjoglnjpgkobeaaGreatDoor
open Go Go.RowKit
attribute [local go_sem] run_store_one
set_option maxRecDepth 20000 in
set_option maxHeartbeats 8000000 in
theorem refitem_6 (B : Nat) (x : Itm) (hl : RItemsOk B x.l) (he : RItemsOk B x.els) (hvx : VI x) (hlen : sizeI x≤100000000) (hc : x.op = 4∧onlyP x∧x.x.length = countX x.op∧isTargets x.x) : RItemOk B x:=by
 intro w cs hR hB
 obtain ⟨v3,v4,v5,v6,v7,v8,rfl,hX,hSS,hL,hE,hP,hBb⟩:=RI_iff.1 hR
 have hse:=sizeI_eq x
 obtain ⟨hz1,hz2,hv3,hv4,-,-,hv7,hv8⟩:=VI_iff.1 hvx
 have hbd : 1≤x.op∧x.op≤10:=by rw [hc.1]; decide
 have GO:=fun w' (hw : Ext w w') => refonly_any B x w' _ (hR.ext hw hB) (Nat.le_trans hB hw.size) hz1 hz2 hlen hbd.1 hbd.2
 have GT:=fun w' (hw : Ext w w') => reftarget_any B x.x w' v3 (hX.extRX hw hB) (by have:=length_le_msize sizeX x.x sizeX_pos; omega)
 have GT:=ECalls.still GT
 have G1 : ECalls Tryz.prog 134 #[v3] w (.bool (yes (MayXs x.x))):=fun w' hw => refmayL_of B x.x (fun y hy w1 cs1 h1 h2 => refMayX_any B y w1 cs1 h1 h2 (by have:=msize_mem sizeX x.x y hy; omega) (hv3 y hy)) w' v3 (hX.extRX hw hB) (Nat.le_trans hB hw.size) (by have:=length_le_msize sizeX x.x sizeX_pos; omega)
 have G2 : ECalls Tryz.prog 140 #[v4] w (.bool (yes (MayAll x.s))):=fun w' hw => refMayAll_any B x.s hv4 (by omega) w' v4 (hSS.extRS hw hB) (Nat.le_trans hB hw.size)
 have G3 : ECalls Tryz.prog 115 #[v5] w (.bool (yes (∀ y,y ∈ x.l→MayI y))):=fun w' hw => hl w' v5 (hL.extRI hw hB) (Nat.le_trans hB hw.size)
 have G4 : ECalls Tryz.prog 115 #[v6] w (.bool (yes (∀ y,y ∈ x.els→MayI y))):=fun w' hw => he w' v6 (hE.extRI hw hB) (Nat.le_trans hB hw.size)
 have G5 : ECalls Tryz.prog 114 #[v7] w (.bool (yes (∀ y,y ∈ x.params→MayB y))):=fun w' hw => refbinds_any B x.params w' v7 (hP.extRB hw hB) (Nat.le_trans hB hw.size) hv7 (by omega)
 have G6 : ECalls Tryz.prog 114 #[v8] w (.bool (yes (∀ y,y ∈ x.binds→MayB y))):=fun w' hw => refbinds_any B x.binds w' v8 (hBb.extRB hw hB) (Nat.le_trans hB hw.size) hv8 (by omega)
 obtain ⟨a3,c3x,rfl,-,-⟩:=hX
 obtain ⟨a4,c4x,rfl,-,-⟩:=hSS
 obtain ⟨a5,c5x,rfl,-,-⟩:=hL
 obtain ⟨a6,c6x,rfl,-,-⟩:=hE
 obtain ⟨a7,c7x,rfl,-,-⟩:=hP
 obtain ⟨a8,c8x,rfl,-,-⟩:=hBb
 have GO : ECalls Tryz.prog 138 _ w (.bool (yes (onlyP x))):=GO
 clear hR hse hz1 hz2 hv3 hv4 hv7 hv8 hl he hvx hlen hB
 have hown : ownI x:=ownI_of hbd.1 hbd.2 hc.2.1 hc.2.2.1 (fun _ => hc.2.2.2)
 have R:=hide (yesI_own hown)
 clear hown
 have ho:=yes_iff.2 hc.2.1
 rw [ho] at GO
 have ht:=yes_iff.2 hc.2.2.2
 rw [ht] at GT
 generalize x.name = nm at *
 generalize x.of = of at *
 generalize yes (MayXs x.x) = b1 at *
 generalize yes (MayAll x.s) = b2 at *
 generalize yes (∀ y,y ∈ x.l→MayI y) = b3 at *
 generalize yes (∀ y,y ∈ x.els→MayI y) = b4 at *
 generalize yes (∀ y,y ∈ x.params→MayB y) = b5 at *
 generalize yes (∀ y,y ∈ x.binds→MayB y) = b6 at *
 generalize yes (MayI x) = r at *
 have hn : x.x.length = 2:=by rw [hc.2.2.1,hc.1]; rfl
 have hop:=hc.1
 clear hc ho ht
 rw [hop] at GO ⊢
 clear hop
 generalize x.x.length = xl at *
 subst hn
 generalize x.s.length = ns at *
 generalize x.l.length = nl at *
 generalize x.els.length = nels at *
 generalize x.params.length = nparams at *
 generalize x.binds.length = nbinds at *
 obtain ⟨W1,hV1,hx1,c0,c1,c2,c3,c4,c5,c6,c7,c8⟩:=boxE9 w (.int .i64 4) (.string nm) (.string of) (.slice a3 2 c3x) (.slice a4 ns c4x) (.slice a5 nl c5x) (.slice a6 nels c6x) (.slice a7 nparams c7x) (.slice a8 nbinds c8x) 53
 obtain ⟨W2,hV2,hx2,hcn⟩:=boxE11 W1
 have hx:=hx1.trans hx2
 have c0:=cellL c0 hx2
 have c1:=cellL c1 hx2
 have c2:=cellL c2 hx2
 have c3:=cellL c3 hx2
 have c4:=cellL c4 hx2
 have c5:=cellL c5 hx2
 have c6:=cellL c6 hx2
 have c7:=cellL c7 hx2
 have c8:=cellL c8 hx2
 have cn:=fun e : Later W2 => (hcn e 4 (by decide)).trans (show cntL[4]? = some (.int .i64 2) from rfl)
 clear hcn
 have GO:=hide (GO.later hx)
 have GT:=hide (GT.later hx)
 have G1:=hide (G1.later hx)
 have G2:=hide (G2.later hx)
 have G3:=hide (G3.later hx)
 have G4:=hide (G4.later hx)
 have G5:=hide (G5.later hx)
 have G6:=hide (G6.later hx)
 have HX:=hide hx
 clear hx hx1 hx2
 go_enter Tryz.func135,Tryz.ntmps135
 go_wp2_with fail
 refine wp_region_facts_n (W:=W2) (eqF [.pointer (some ⟨w.heap.size,0,none⟩),.int .i64 4,.bool false,.bool false,.pointer (some ⟨w.heap.size,0,none⟩),.int .i64 4,.bool false,.bool false,.bool false,.agg #[.int .i64 4,.string nm,.string of,.slice a3 2 c3x,.slice a4 ns c4x,.slice a5 nl c5x,.slice a6 nels c6x,.slice a7 nparams c7x,.slice a8 nbinds c8x],.bool true,.bool false,.bool false,.bool false,.pointer (some ⟨w.heap.size,3,none⟩),.slice a3 2 c3x,.int .i64 2,.slice (some ⟨W1.heap.size,0,none⟩) 11 11,.pointer (some ⟨w.heap.size,0,none⟩),.int .i64 4,.pointer (some ⟨W1.heap.size,4,none⟩),.int .i64 2,.bool false,.bool false,.bool false,.pointer (some ⟨w.heap.size,0,none⟩),.int .i64 4,.bool true,.bool true,.pointer (some ⟨w.heap.size,3,none⟩),.slice a3 2 c3x,.bool true,.bool false,.bool false,.bool false]) (fun i => match i with  | _ => true) (by kernel_rfl) (by kernel_rfl) ?_ (Ext.refl _) (fun i v w w' h hx => eqF_ext h hx) ?_ ?_
 · simp [GuardsSay,eqF] <;> (intro h; cases h)
 · refine ⟨?_,?_,?_,?_,?_,?_,?_,?_,?_,?_,?_,?_,?_,?_,?_,?_,?_,?_,?_,?_,?_,?_,?_,?_,?_,?_,?_,?_,?_,?_,?_,?_,?_,?_,?_,trivial⟩
   · intro A wa hxa hd h0
     obtain ⟨ea,rfl⟩:=Later.mk_ex hxa
     have r1:=rest_at h0 1 (by kernel_rfl)
     simp at r1
     clear hd h0
     go_simp
     first | exact ⟨_,rfl,Ext.refl _,rfl⟩ | exact ⟨Ext.refl _,rfl⟩ | exact rfl | exact ⟨_,rfl,rfl⟩ | exact Ext.refl _ | (trace_state; fail)
   · intro A wa hxa hd h0
     obtain ⟨ea,rfl⟩:=Later.mk_ex hxa
     have q0:=depOn hd 0 5 (by kernel_rfl) rfl
     simp [eqF] at q0
     clear hd h0
     go_simp
     first | exact ⟨_,rfl,Ext.refl _,rfl⟩ | exact ⟨Ext.refl _,rfl⟩ | exact rfl | exact ⟨_,rfl,rfl⟩ | exact Ext.refl _ | (trace_state; fail)
   · intro A wa hxa hd h0
     obtain ⟨ea,rfl⟩:=Later.mk_ex hxa
     have q1:=depOn hd 1 6 (by kernel_rfl) rfl
     simp [eqF] at q1
     clear hd h0
     go_simp
     first | exact ⟨_,rfl,Ext.refl _,rfl⟩ | exact ⟨Ext.refl _,rfl⟩ | exact rfl | exact ⟨_,rfl,rfl⟩ | exact Ext.refl _ | (trace_state; fail)
   · intro A wa hxa hd h0
     obtain ⟨ea,rfl⟩:=Later.mk_ex hxa
     have q2:=depOn hd 2 7 (by kernel_rfl) rfl
     simp [eqF] at q2
     clear hd h0
     go_simp
     first | exact ⟨_,rfl,Ext.refl _,rfl⟩ | exact ⟨Ext.refl _,rfl⟩ | exact rfl | exact ⟨_,rfl,rfl⟩ | exact Ext.refl _ | (trace_state; fail)
   · intro A wa hxa hd h0
     obtain ⟨ea,rfl⟩:=Later.mk_ex hxa
     have r1:=rest_at h0 1 (by kernel_rfl)
     simp at r1
     clear hd h0
     go_simp
     first | exact ⟨_,rfl,Ext.refl _,rfl⟩ | exact ⟨Ext.refl _,rfl⟩ | exact rfl | exact ⟨_,rfl,rfl⟩ | exact Ext.refl _ | (trace_state; fail)
   · intro A wa hxa hd h0
     obtain ⟨ea,rfl⟩:=Later.mk_ex hxa
     have q4:=depOn hd 4 9 (by kernel_rfl) rfl
     simp [eqF] at q4
     clear hd h0
     go_simp
     first | exact ⟨_,rfl,Ext.refl _,rfl⟩ | exact ⟨Ext.refl _,rfl⟩ | exact rfl | exact ⟨_,rfl,rfl⟩ | exact Ext.refl _ | (trace_state; fail)
   · intro A wa hxa hd h0
     obtain ⟨ea,rfl⟩:=Later.mk_ex hxa
     have q5:=depOn hd 5 10 (by kernel_rfl) rfl
     simp [eqF] at q5
     clear hd h0
     go_simp
     first | exact ⟨_,rfl,Ext.refl _,rfl⟩ | exact ⟨Ext.refl _,rfl⟩ | exact rfl | exact ⟨_,rfl,rfl⟩ | exact Ext.refl _ | (trace_state; fail)
   · intro A wa hxa hd h0
     obtain ⟨ea,rfl⟩:=Later.mk_ex hxa
     have q3:=depOn hd 3 8 (by kernel_rfl) rfl
     simp [eqF] at q3
     have q6:=depOn hd 6 11 (by kernel_rfl) rfl
     simp [eqF] at q6
     clear hd h0
     go_simp
     first | exact ⟨_,rfl,Ext.refl _,rfl⟩ | exact ⟨Ext.refl _,rfl⟩ | exact rfl | exact ⟨_,rfl,rfl⟩ | exact Ext.refl _ | (trace_state; fail)
   · intro A wa hxa hd h0
     obtain ⟨ea,rfl⟩:=Later.mk_ex hxa
     have q7:=depOn hd 7 12 (by kernel_rfl) rfl
     simp [eqF] at q7
     clear hd h0
     go_simp
     first | exact ⟨_,rfl,Ext.refl _,rfl⟩ | exact ⟨Ext.refl _,rfl⟩ | exact rfl | exact ⟨_,rfl,rfl⟩ | exact Ext.refl _ | (trace_state; fail)
   · intro A wa hxa hd h0
     obtain ⟨ea,rfl⟩:=Later.mk_ex hxa
     have r1:=rest_at h0 1 (by kernel_rfl)
     simp at r1
     clear hd h0
     go_simp
     first | exact ⟨_,rfl,Ext.refl _,rfl⟩ | exact ⟨Ext.refl _,rfl⟩ | exact rfl | exact ⟨_,rfl,rfl⟩ | exact Ext.refl _ | (trace_state; fail)
   · intro A wa hxa hd h0
     obtain ⟨ea,rfl⟩:=Later.mk_ex hxa
     have q9:=depOn hd 9 14 (by kernel_rfl) rfl
     simp [eqF] at q9
     clear hd h0
     go_simp
     refine (GO.out ea.w ea.ext).mono ?_
     rintro e w2 ⟨rfl,hx⟩
     go_simp
     first | exact ⟨_,rfl,hx,rfl⟩ | exact ⟨hx,rfl⟩ | exact rfl | exact ⟨_,rfl,rfl⟩ | (trace_state; fail)
   · intro A wa hxa hd h0
     obtain ⟨ea,rfl⟩:=Later.mk_ex hxa
     have q10:=depOn hd 10 15 (by kernel_rfl) rfl
     simp [eqF] at q10
     clear hd h0
     go_simp
     first | exact ⟨_,rfl,Ext.refl _,rfl⟩ | exact ⟨Ext.refl _,rfl⟩ | exact rfl | exact ⟨_,rfl,rfl⟩ | exact Ext.refl _ | (trace_state; fail)
   · intro A wa hxa hd h0
     obtain ⟨ea,rfl⟩:=Later.mk_ex hxa
     have q8:=depOn hd 8 13 (by kernel_rfl) rfl
     simp [eqF] at q8
     have q11:=depOn hd 11 16 (by kernel_rfl) rfl
     simp [eqF] at q11
     clear hd h0
     go_simp
     first | exact ⟨_,rfl,Ext.refl _,rfl⟩ | exact ⟨Ext.refl _,rfl⟩ | exact rfl | exact ⟨_,rfl,rfl⟩ | exact Ext.refl _ | (trace_state; fail)
   · intro A wa hxa hd h0
     obtain ⟨ea,rfl⟩:=Later.mk_ex hxa
     have q12:=depOn hd 12 17 (by kernel_rfl) rfl
     simp [eqF] at q12
     clear hd h0
     go_simp
     first | exact ⟨_,rfl,Ext.refl _,rfl⟩ | exact ⟨Ext.refl _,rfl⟩ | exact rfl | exact ⟨_,rfl,rfl⟩ | exact Ext.refl _ | (trace_state; fail)
   · intro A wa hxa hd h0
     obtain ⟨ea,rfl⟩:=Later.mk_ex hxa
     have r1:=rest_at h0 1 (by kernel_rfl)
     simp at r1
     clear hd h0
     go_simp
     first | exact ⟨_,rfl,Ext.refl _,rfl⟩ | exact ⟨Ext.refl _,rfl⟩ | exact rfl | exact ⟨_,rfl,rfl⟩ | exact Ext.refl _ | (trace_state; fail)
   · intro A wa hxa hd h0
     obtain ⟨ea,rfl⟩:=Later.mk_ex hxa
     have q14:=depOn hd 14 19 (by kernel_rfl) rfl
     simp [eqF] at q14
     clear hd h0
     go_simp
     first | exact ⟨_,rfl,Ext.refl _,rfl⟩ | exact ⟨Ext.refl _,rfl⟩ | exact rfl | exact ⟨_,rfl,rfl⟩ | exact Ext.refl _ | (trace_state; fail)
   · intro A wa hxa hd h0
     obtain ⟨ea,rfl⟩:=Later.mk_ex hxa
     have q15:=depOn hd 15 20 (by kernel_rfl) rfl
     simp [eqF] at q15
     clear hd h0
     go_simp
     first | exact ⟨_,rfl,Ext.refl _,rfl⟩ | exact ⟨Ext.refl _,rfl⟩ | exact rfl | exact ⟨_,rfl,rfl⟩ | exact Ext.refl _ | (trace_state; fail)
   · intro A wa hxa hd h0
     obtain ⟨ea,rfl⟩:=Later.mk_ex hxa
     have r3:=rest_at h0 3 (by kernel_rfl)
     simp at r3
     clear hd h0
     go_simp
     first | exact ⟨_,rfl,Ext.refl _,rfl⟩ | exact ⟨Ext.refl _,rfl⟩ | exact rfl | exact ⟨_,rfl,rfl⟩ | exact Ext.refl _ | (trace_state; fail)
   · intro A wa hxa hd h0
     obtain ⟨ea,rfl⟩:=Later.mk_ex hxa
     have r1:=rest_at h0 1 (by kernel_rfl)
     simp at r1
     clear hd h0
     go_simp
     first | exact ⟨_,rfl,Ext.refl _,rfl⟩ | exact ⟨Ext.refl _,rfl⟩ | exact rfl | exact ⟨_,rfl,rfl⟩ | exact Ext.refl _ | (trace_state; fail)
   · intro A wa hxa hd h0
     obtain ⟨ea,rfl⟩:=Later.mk_ex hxa
     have q18:=depOn hd 18 23 (by kernel_rfl) rfl
     simp [eqF] at q18
     clear hd h0
     go_simp
     first | exact ⟨_,rfl,Ext.refl _,rfl⟩ | exact ⟨Ext.refl _,rfl⟩ | exact rfl | exact ⟨_,rfl,rfl⟩ | exact Ext.refl _ | (trace_state; fail)
   · intro A wa hxa hd h0
     obtain ⟨ea,rfl⟩:=Later.mk_ex hxa
     have q17:=depOn hd 17 22 (by kernel_rfl) rfl
     simp [eqF] at q17
     have q19:=depOn hd 19 24 (by kernel_rfl) rfl
     simp [eqF] at q19
     clear hd h0
     go_simp
     first | exact ⟨_,rfl,Ext.refl _,rfl⟩ | exact ⟨Ext.refl _,rfl⟩ | exact rfl | exact ⟨_,rfl,rfl⟩ | exact Ext.refl _ | (trace_state; fail)
   · intro A wa hxa hd h0
     obtain ⟨ea,rfl⟩:=Later.mk_ex hxa
     have q20:=depOn hd 20 25 (by kernel_rfl) rfl
     simp [eqF] at q20
     clear hd h0
     go_simp
     first | exact ⟨_,rfl,Ext.refl _,rfl⟩ | exact ⟨Ext.refl _,rfl⟩ | exact rfl | exact ⟨_,rfl,rfl⟩ | exact Ext.refl _ | (trace_state; fail)
   · intro A wa hxa hd h0
     obtain ⟨ea,rfl⟩:=Later.mk_ex hxa
     have q16:=depOn hd 16 21 (by kernel_rfl) rfl
     simp [eqF] at q16
     have q21:=depOn hd 21 26 (by kernel_rfl) rfl
     simp [eqF] at q21
     clear hd h0
     go_simp
     first | exact ⟨_,rfl,Ext.refl _,rfl⟩ | exact ⟨Ext.refl _,rfl⟩ | exact rfl | exact ⟨_,rfl,rfl⟩ | exact Ext.refl _ | (trace_state; fail)
   · intro A wa hxa hd h0
     obtain ⟨ea,rfl⟩:=Later.mk_ex hxa
     have q13:=depOn hd 13 18 (by kernel_rfl) rfl
     simp [eqF] at q13
     have q22:=depOn hd 22 27 (by kernel_rfl) rfl
     simp [eqF] at q22
     clear hd h0
     go_simp
     first | exact ⟨_,rfl,Ext.refl _,rfl⟩ | exact ⟨Ext.refl _,rfl⟩ | exact rfl | exact ⟨_,rfl,rfl⟩ | exact Ext.refl _ | (trace_state; fail)
   · intro A wa hxa hd h0
     obtain ⟨ea,rfl⟩:=Later.mk_ex hxa
     have q23:=depOn hd 23 28 (by kernel_rfl) rfl
     simp [eqF] at q23
     clear hd h0
     go_simp
     first | exact ⟨_,rfl,Ext.refl _,rfl⟩ | exact ⟨Ext.refl _,rfl⟩ | exact rfl | exact ⟨_,rfl,rfl⟩ | exact Ext.refl _ | (trace_state; fail)
   · intro A wa hxa hd h0
     obtain ⟨ea,rfl⟩:=Later.mk_ex hxa
     have r1:=rest_at h0 1 (by kernel_rfl)
     simp at r1
     clear hd h0
     go_simp
     first | exact ⟨_,rfl,Ext.refl _,rfl⟩ | exact ⟨Ext.refl _,rfl⟩ | exact rfl | exact ⟨_,rfl,rfl⟩ | exact Ext.refl _ | (trace_state; fail)
   · intro A wa hxa hd h0
     obtain ⟨ea,rfl⟩:=Later.mk_ex hxa
     have q25:=depOn hd 25 30 (by kernel_rfl) rfl
     simp [eqF] at q25
     clear hd h0
     go_simp
     first | exact ⟨_,rfl,Ext.refl _,rfl⟩ | exact ⟨Ext.refl _,rfl⟩ | exact rfl | exact ⟨_,rfl,rfl⟩ | exact Ext.refl _ | (trace_state; fail)
   · intro A wa hxa hd h0
     obtain ⟨ea,rfl⟩:=Later.mk_ex hxa
     have q26:=depOn hd 26 31 (by kernel_rfl) rfl
     simp [eqF] at q26
     clear hd h0
     go_simp
     first | exact ⟨_,rfl,Ext.refl _,rfl⟩ | exact ⟨Ext.refl _,rfl⟩ | exact rfl | exact ⟨_,rfl,rfl⟩ | exact Ext.refl _ | (trace_state; fail)
   · intro A wa hxa hd h0
     obtain ⟨ea,rfl⟩:=Later.mk_ex hxa
     have q27:=depOn hd 27 32 (by kernel_rfl) rfl
     simp [eqF] at q27
     clear hd h0
     go_simp
     first | exact ⟨_,rfl,Ext.refl _,rfl⟩ | exact ⟨Ext.refl _,rfl⟩ | exact rfl | exact ⟨_,rfl,rfl⟩ | exact Ext.refl _ | (trace_state; fail)
   · intro A wa hxa hd h0
     obtain ⟨ea,rfl⟩:=Later.mk_ex hxa
     have r1:=rest_at h0 1 (by kernel_rfl)
     simp at r1
     clear hd h0
     go_simp
     first | exact ⟨_,rfl,Ext.refl _,rfl⟩ | exact ⟨Ext.refl _,rfl⟩ | exact rfl | exact ⟨_,rfl,rfl⟩ | exact Ext.refl _ | (trace_state; fail)
   · intro A wa hxa hd h0
     obtain ⟨ea,rfl⟩:=Later.mk_ex hxa
     have q29:=depOn hd 29 34 (by kernel_rfl) rfl
     simp [eqF] at q29
     clear hd h0
     go_simp
     first | exact ⟨_,rfl,Ext.refl _,rfl⟩ | exact ⟨Ext.refl _,rfl⟩ | exact rfl | exact ⟨_,rfl,rfl⟩ | exact Ext.refl _ | (trace_state; fail)
   · intro A wa hxa hd h0
     obtain ⟨ea,rfl⟩:=Later.mk_ex hxa
     have q30:=depOn hd 30 35 (by kernel_rfl) rfl
     simp [eqF] at q30
     clear hd h0
     go_simp
     refine (GT.out ea.w ea.ext).mono ?_
     rintro e w2 ⟨rfl,hx⟩
     go_simp
     first | exact ⟨_,rfl,hx,rfl⟩ | exact ⟨hx,rfl⟩ | exact rfl | exact ⟨_,rfl,rfl⟩ | (trace_state; fail)
   · intro A wa hxa hd h0
     obtain ⟨ea,rfl⟩:=Later.mk_ex hxa
     have q31:=depOn hd 31 36 (by kernel_rfl) rfl
     simp [eqF] at q31
     clear hd h0
     go_simp
     first | exact ⟨_,rfl,Ext.refl _,rfl⟩ | exact ⟨Ext.refl _,rfl⟩ | exact rfl | exact ⟨_,rfl,rfl⟩ | exact Ext.refl _ | (trace_state; fail)
   · intro A wa hxa hd h0
     obtain ⟨ea,rfl⟩:=Later.mk_ex hxa
     have q28:=depOn hd 28 33 (by kernel_rfl) rfl
     simp [eqF] at q28
     have q32:=depOn hd 32 37 (by kernel_rfl) rfl
     simp [eqF] at q32
     clear hd h0
     go_simp
     first | exact ⟨_,rfl,Ext.refl _,rfl⟩ | exact ⟨Ext.refl _,rfl⟩ | exact rfl | exact ⟨_,rfl,rfl⟩ | exact Ext.refl _ | (trace_state; fail)
   · intro A wa hxa hd h0
     obtain ⟨ea,rfl⟩:=Later.mk_ex hxa
     have q24:=depOn hd 24 29 (by kernel_rfl) rfl
     simp [eqF] at q24
     have q33:=depOn hd 33 38 (by kernel_rfl) rfl
     simp [eqF] at q33
     clear hd h0
     go_simp
     first | exact ⟨_,rfl,Ext.refl _,rfl⟩ | exact ⟨Ext.refl _,rfl⟩ | exact rfl | exact ⟨_,rfl,rfl⟩ | exact Ext.refl _ | (trace_state; fail)
 · intro A wa hk
   obtain ⟨hxa,hsz,hdf,hdn,hrs⟩:=hk
   obtain ⟨ea,rfl⟩:=Later.mk_ex hxa
   have k0:=rest_at hrs 0 (by kernel_rfl)
   simp at k0
   have k1:=rest_at hrs 1 (by kernel_rfl)
   simp at k1
   have k2:=rest_at hrs 2 (by kernel_rfl)
   simp at k2
   have k3:=rest_at hrs 3 (by kernel_rfl)
   simp at k3
   have k39 : A.tmps.getD 39 undef = .bool false:=hdn 34 39 rfl rfl
   clear hdn hrs
   rw [act_lit hsz hdf]
   simp [List.range,List.range.loop] at k0 k1 k2 k3 k39
   simp [List.range,List.range.loop,k0,k1,k2,k3,k39]
   clear k0 k1 k2 k3 k39 hsz hdf
   generalize A.tmps[4]?.getD undef = A4 at *
   generalize A.tmps[5]?.getD undef = A5 at *
   generalize A.tmps[6]?.getD undef = A6 at *
   generalize A.tmps[7]?.getD undef = A7 at *
   generalize A.tmps[8]?.getD undef = A8 at *
   generalize A.tmps[9]?.getD undef = A9 at *
   generalize A.tmps[10]?.getD undef = A10 at *
   generalize A.tmps[11]?.getD undef = A11 at *
   generalize A.tmps[12]?.getD undef = A12 at *
   generalize A.tmps[13]?.getD undef = A13 at *
   generalize A.tmps[14]?.getD undef = A14 at *
   generalize A.tmps[15]?.getD undef = A15 at *
   generalize A.tmps[16]?.getD undef = A16 at *
   generalize A.tmps[17]?.getD undef = A17 at *
   generalize A.tmps[18]?.getD undef = A18 at *
   generalize A.tmps[19]?.getD undef = A19 at *
   generalize A.tmps[20]?.getD undef = A20 at *
   generalize A.tmps[21]?.getD undef = A21 at *
   generalize A.tmps[22]?.getD undef = A22 at *
   generalize A.tmps[23]?.getD undef = A23 at *
   generalize A.tmps[24]?.getD undef = A24 at *
   generalize A.tmps[25]?.getD undef = A25 at *
   generalize A.tmps[26]?.getD undef = A26 at *
   generalize A.tmps[27]?.getD undef = A27 at *
   generalize A.tmps[28]?.getD undef = A28 at *
   generalize A.tmps[29]?.getD undef = A29 at *
   generalize A.tmps[30]?.getD undef = A30 at *
   generalize A.tmps[31]?.getD undef = A31 at *
   generalize A.tmps[32]?.getD undef = A32 at *
   generalize A.tmps[33]?.getD undef = A33 at *
   generalize A.tmps[34]?.getD undef = A34 at *
   generalize A.tmps[35]?.getD undef = A35 at *
   generalize A.tmps[36]?.getD undef = A36 at *
   generalize A.tmps[37]?.getD undef = A37 at *
   generalize A.tmps[38]?.getD undef = A38 at *
   generalize A.tmps[40]?.getD undef = A40 at *
   generalize A.tmps[41]?.getD undef = A41 at *
   generalize A.tmps[42]?.getD undef = A42 at *
   generalize A.tmps[43]?.getD undef = A43 at *
   generalize A.tmps[44]?.getD undef = A44 at *
   generalize A.tmps[45]?.getD undef = A45 at *
   generalize A.tmps[46]?.getD undef = A46 at *
   generalize A.tmps[47]?.getD undef = A47 at *
   generalize A.tmps[48]?.getD undef = A48 at *
   generalize A.tmps[49]?.getD undef = A49 at *
   generalize A.tmps[50]?.getD undef = A50 at *
   generalize A.tmps[51]?.getD undef = A51 at *
   generalize A.tmps[52]?.getD undef = A52 at *
   generalize A.tmps[53]?.getD undef = A53 at *
   generalize A.tmps[54]?.getD undef = A54 at *
   generalize A.tmps[55]?.getD undef = A55 at *
   generalize A.tmps[56]?.getD undef = A56 at *
   generalize A.tmps[57]?.getD undef = A57 at *
   generalize A.tmps[58]?.getD undef = A58 at *
   generalize A.tmps[59]?.getD undef = A59 at *
   generalize A.tmps[60]?.getD undef = A60 at *
   generalize A.tmps[61]?.getD undef = A61 at *
   generalize A.tmps[62]?.getD undef = A62 at *
   generalize A.tmps[63]?.getD undef = A63 at *
   generalize A.tmps[64]?.getD undef = A64 at *
   generalize A.tmps[65]?.getD undef = A65 at *
   generalize A.tmps[66]?.getD undef = A66 at *
   generalize A.tmps[67]?.getD undef = A67 at *
   clear GO GT
   rcases sixB b1 b2 b3 b4 b5 b6 with rfl | ⟨rfl,rfl⟩ | ⟨rfl,rfl,rfl⟩ | ⟨rfl,rfl,rfl,rfl⟩ | ⟨rfl,rfl,rfl,rfl,rfl⟩ | ⟨rfl,rfl,rfl,rfl,rfl⟩
   all_goals
     go_wp2_with (first
       | (go_at_call 134; with_reducible refine (G1.out.at_ _).mono ?_; rintro _ _ ⟨rfl,e,rfl⟩)
       | (go_at_call 140; with_reducible refine (G2.out.at_ _).mono ?_; rintro _ _ ⟨rfl,e,rfl⟩)
       | (go_at_call 115; with_reducible refine (G3.out.at_ _).mono ?_; rintro _ _ ⟨rfl,e,rfl⟩)
       | (go_at_call 115; with_reducible refine (G4.out.at_ _).mono ?_; rintro _ _ ⟨rfl,e,rfl⟩)
       | (go_at_call 114; with_reducible refine (G5.out.at_ _).mono ?_; rintro _ _ ⟨rfl,e,rfl⟩)
       | (go_at_call 114; with_reducible refine (G6.out.at_ _).mono ?_; rintro _ _ ⟨rfl,e,rfl⟩))
   all_goals
     go_ret
     refine ⟨?_,HX.out.trans (Later.ext _)⟩
     rw [R.out]
     first | rfl | (trace_state; fail)
set_option maxRecDepth 20000 in
set_option maxHeartbeats 8000000 in
theorem refitem_7 (B : Nat) (x : Itm) (hl : RItemsOk B x.l) (he : RItemsOk B x.els) (hvx : VI x) (hlen : sizeI x≤100000000) (hc : 1≤x.op∧x.op≤10∧x.op≠4∧onlyP x∧x.x.length = countX x.op) : RItemOk B x:=by
 intro w cs hR hB
 obtain ⟨v3,v4,v5,v6,v7,v8,rfl,hX,hSS,hL,hE,hP,hBb⟩:=RI_iff.1 hR
 have hse:=sizeI_eq x
 obtain ⟨hz1,hz2,hv3,hv4,-,-,hv7,hv8⟩:=VI_iff.1 hvx
 have hbd : 1≤x.op∧x.op≤10:=⟨hc.1,hc.2.1⟩
 have GO:=fun w' (hw : Ext w w') => refonly_any B x w' _ (hR.ext hw hB) (Nat.le_trans hB hw.size) hz1 hz2 hlen hbd.1 hbd.2
 have GT:=fun w' (hw : Ext w w') => reftarget_any B x.x w' v3 (hX.extRX hw hB) (by have:=length_le_msize sizeX x.x sizeX_pos; omega)
 have GT:=ECalls.still GT
 have G1 : ECalls Tryz.prog 134 #[v3] w (.bool (yes (MayXs x.x))):=fun w' hw => refmayL_of B x.x (fun y hy w1 cs1 h1 h2 => refMayX_any B y w1 cs1 h1 h2 (by have:=msize_mem sizeX x.x y hy; omega) (hv3 y hy)) w' v3 (hX.extRX hw hB) (Nat.le_trans hB hw.size) (by have:=length_le_msize sizeX x.x sizeX_pos; omega)
 have G2 : ECalls Tryz.prog 140 #[v4] w (.bool (yes (MayAll x.s))):=fun w' hw => refMayAll_any B x.s hv4 (by omega) w' v4 (hSS.extRS hw hB) (Nat.le_trans hB hw.size)
 have G3 : ECalls Tryz.prog 115 #[v5] w (.bool (yes (∀ y,y ∈ x.l→MayI y))):=fun w' hw => hl w' v5 (hL.extRI hw hB) (Nat.le_trans hB hw.size)
 have G4 : ECalls Tryz.prog 115 #[v6] w (.bool (yes (∀ y,y ∈ x.els→MayI y))):=fun w' hw => he w' v6 (hE.extRI hw hB) (Nat.le_trans hB hw.size)
 have G5 : ECalls Tryz.prog 114 #[v7] w (.bool (yes (∀ y,y ∈ x.params→MayB y))):=fun w' hw => refbinds_any B x.params w' v7 (hP.extRB hw hB) (Nat.le_trans hB hw.size) hv7 (by omega)
 have G6 : ECalls Tryz.prog 114 #[v8] w (.bool (yes (∀ y,y ∈ x.binds→MayB y))):=fun w' hw => refbinds_any B x.binds w' v8 (hBb.extRB hw hB) (Nat.le_trans hB hw.size) hv8 (by omega)
 obtain ⟨a3,c3x,rfl,-,-⟩:=hX
 obtain ⟨a4,c4x,rfl,-,-⟩:=hSS
 obtain ⟨a5,c5x,rfl,-,-⟩:=hL
 obtain ⟨a6,c6x,rfl,-,-⟩:=hE
 obtain ⟨a7,c7x,rfl,-,-⟩:=hP
 obtain ⟨a8,c8x,rfl,-,-⟩:=hBb
 have GO : ECalls Tryz.prog 138 _ w (.bool (yes (onlyP x))):=GO
 clear hR hse hz1 hz2 hv3 hv4 hv7 hv8 hl he hvx hlen hB
 have hown : ownI x:=ownI_of hc.1 hc.2.1 hc.2.2.2.1 hc.2.2.2.2 (fun h => absurd h hc.2.2.1)
 have R:=hide (yesI_own hown)
 clear hown
 have ho:=yes_iff.2 hc.2.2.2.1
 rw [ho] at GO
 generalize x.name = nm at *
 generalize x.of = of at *
 generalize yes (MayXs x.x) = b1 at *
 generalize yes (MayAll x.s) = b2 at *
 generalize yes (∀ y,y ∈ x.l→MayI y) = b3 at *
 generalize yes (∀ y,y ∈ x.els→MayI y) = b4 at *
 generalize yes (∀ y,y ∈ x.params→MayB y) = b5 at *
 generalize yes (∀ y,y ∈ x.binds→MayB y) = b6 at *
 generalize yes (MayI x) = r at *
 obtain ⟨on,hon⟩ : ∃ on : Nat,x.op = on:=⟨x.op.toNat,by have:=hc.1; omega⟩
 have hon1 : 1≤on∧on≤10∧on≠4:=by have:=hc.1; have:=hc.2.1; have:=hc.2.2.1; omega
 obtain ⟨cnt,hcnt⟩ : ∃ cnt : Nat,cnt = countX x.op:=⟨_,rfl⟩
 have hxl : x.x.length = cnt:=by rw [hcnt]; exact hc.2.2.2.2
 have hcc : cntL[on]? = some (.int .i64 cnt):=cntL_at hon hcnt (by omega) (by omega)
 clear hc hcnt ho
 rw [hon] at GO ⊢
 clear hon
 generalize x.x.length = xl at *
 subst hxl
 generalize x.s.length = ns at *
 generalize x.l.length = nl at *
 generalize x.els.length = nels at *
 generalize x.params.length = nparams at *
 generalize x.binds.length = nbinds at *
 have hd1 : decide ((on : Int) < 1) = false:=decide_eq_false (by omega)
 have hd2 : decide (10 < (on : Int)) = false:=decide_eq_false (by omega)
 have hi0 : (0 : Int)≤(on : Int):=by omega
 have hi1 : (on : Int) < 11:=by omega
 have hd3 : decide ((on : Int) = 4) = false:=decide_eq_false (by omega)
 have hd4 : ((on : Int) == 4) = false:=beq_eq_false_iff_ne.2 (by omega)
 obtain ⟨W1,hV1,hx1,c0,c1,c2,c3,c4,c5,c6,c7,c8⟩:=boxE9 w (.int .i64 on) (.string nm) (.string of) (.slice a3 xl c3x) (.slice a4 ns c4x) (.slice a5 nl c5x) (.slice a6 nels c6x) (.slice a7 nparams c7x) (.slice a8 nbinds c8x) 53
 obtain ⟨W2,hV2,hx2,hcn⟩:=boxE11 W1
 have hx:=hx1.trans hx2
 have c0:=cellL c0 hx2
 have c1:=cellL c1 hx2
 have c2:=cellL c2 hx2
 have c3:=cellL c3 hx2
 have c4:=cellL c4 hx2
 have c5:=cellL c5 hx2
 have c6:=cellL c6 hx2
 have c7:=cellL c7 hx2
 have c8:=cellL c8 hx2
 have cn:=fun e : Later W2 => (hcn e on (by omega)).trans hcc
 clear hcn
 have GO:=hide (GO.later hx)
 have GT:=hide (GT.later hx)
 have G1:=hide (G1.later hx)
 have G2:=hide (G2.later hx)
 have G3:=hide (G3.later hx)
 have G4:=hide (G4.later hx)
 have G5:=hide (G5.later hx)
 have G6:=hide (G6.later hx)
 have HX:=hide hx
 clear hx hx1 hx2
 go_enter Tryz.func135,Tryz.ntmps135
 go_wp2_with fail
 refine wp_region_facts_n (W:=W2) (eqF [.pointer (some ⟨w.heap.size,0,none⟩),.int .i64 (on : Nat),.bool false,.bool false,.pointer (some ⟨w.heap.size,0,none⟩),.int .i64 (on : Nat),.bool false,.bool false,.bool false,.agg #[.int .i64 (on : Nat),.string nm,.string of,.slice a3 xl c3x,.slice a4 ns c4x,.slice a5 nl c5x,.slice a6 nels c6x,.slice a7 nparams c7x,.slice a8 nbinds c8x],.bool true,.bool false,.bool false,.bool false,.pointer (some ⟨w.heap.size,3,none⟩),.slice a3 xl c3x,.int .i64 (xl : Nat),.slice (some ⟨W1.heap.size,0,none⟩) 11 11,.pointer (some ⟨w.heap.size,0,none⟩),.int .i64 (on : Nat),.pointer (some ⟨W1.heap.size,on,none⟩),.int .i64 (xl : Nat),.bool false,.bool false,.bool false,.pointer (some ⟨w.heap.size,0,none⟩),.int .i64 (on : Nat),.bool false,.bool false,undef,undef,undef,undef,.bool false,.bool false]) (fun i => match i with | 29 | 30 | 31 | 32 => false | _ => true) (by kernel_rfl) (by kernel_rfl) ?_ (Ext.refl _) (fun i v w w' h hx => eqF_ext h hx) ?_ ?_
 · simp [GuardsSay,eqF] <;> (intro h; cases h)
 · refine ⟨?_,?_,?_,?_,?_,?_,?_,?_,?_,?_,?_,?_,?_,?_,?_,?_,?_,?_,?_,?_,?_,?_,?_,?_,?_,?_,?_,?_,?_,?_,?_,?_,?_,?_,?_,trivial⟩
   · intro A wa hxa hd h0
     obtain ⟨ea,rfl⟩:=Later.mk_ex hxa
     have r1:=rest_at h0 1 (by kernel_rfl)
     simp at r1
     clear hd h0
     go_simp
     first | exact ⟨_,rfl,Ext.refl _,rfl⟩ | exact ⟨Ext.refl _,rfl⟩ | exact rfl | exact ⟨_,rfl,rfl⟩ | exact Ext.refl _ | (trace_state; fail)
   · intro A wa hxa hd h0
     obtain ⟨ea,rfl⟩:=Later.mk_ex hxa
     have q0:=depOn hd 0 5 (by kernel_rfl) rfl
     simp [eqF] at q0
     clear hd h0
     go_simp
     first | exact ⟨_,rfl,Ext.refl _,rfl⟩ | exact ⟨Ext.refl _,rfl⟩ | exact rfl | exact ⟨_,rfl,rfl⟩ | exact Ext.refl _ | (trace_state; fail)
   · intro A wa hxa hd h0
     obtain ⟨ea,rfl⟩:=Later.mk_ex hxa
     have q1:=depOn hd 1 6 (by kernel_rfl) rfl
     simp [eqF] at q1
     clear hd h0
     go_simp
     first | exact ⟨_,rfl,Ext.refl _,rfl⟩ | exact ⟨Ext.refl _,rfl⟩ | exact rfl | exact ⟨_,rfl,rfl⟩ | exact Ext.refl _ | (trace_state; fail)
   · intro A wa hxa hd h0
     obtain ⟨ea,rfl⟩:=Later.mk_ex hxa
     have q2:=depOn hd 2 7 (by kernel_rfl) rfl
     simp [eqF] at q2
     clear hd h0
     go_simp
     first | exact ⟨_,rfl,Ext.refl _,rfl⟩ | exact ⟨Ext.refl _,rfl⟩ | exact rfl | exact ⟨_,rfl,rfl⟩ | exact Ext.refl _ | (trace_state; fail)
   · intro A wa hxa hd h0
     obtain ⟨ea,rfl⟩:=Later.mk_ex hxa
     have r1:=rest_at h0 1 (by kernel_rfl)
     simp at r1
     clear hd h0
     go_simp
     first | exact ⟨_,rfl,Ext.refl _,rfl⟩ | exact ⟨Ext.refl _,rfl⟩ | exact rfl | exact ⟨_,rfl,rfl⟩ | exact Ext.refl _ | (trace_state; fail)
   · intro A wa hxa hd h0
     obtain ⟨ea,rfl⟩:=Later.mk_ex hxa
     have q4:=depOn hd 4 9 (by kernel_rfl) rfl
     simp [eqF] at q4
     clear hd h0
     go_simp
     first | exact ⟨_,rfl,Ext.refl _,rfl⟩ | exact ⟨Ext.refl _,rfl⟩ | exact rfl | exact ⟨_,rfl,rfl⟩ | exact Ext.refl _ | (trace_state; fail)
   · intro A wa hxa hd h0
     obtain ⟨ea,rfl⟩:=Later.mk_ex hxa
     have q5:=depOn hd 5 10 (by kernel_rfl) rfl
     simp [eqF] at q5
     clear hd h0
     go_simp
     first | exact ⟨_,rfl,Ext.refl _,rfl⟩ | exact ⟨Ext.refl _,rfl⟩ | exact rfl | exact ⟨_,rfl,rfl⟩ | exact Ext.refl _ | (trace_state; fail)
   · intro A wa hxa hd h0
     obtain ⟨ea,rfl⟩:=Later.mk_ex hxa
     have q3:=depOn hd 3 8 (by kernel_rfl) rfl
     simp [eqF] at q3
     have q6:=depOn hd 6 11 (by kernel_rfl) rfl
     simp [eqF] at q6
     clear hd h0
     go_simp
     first | exact ⟨_,rfl,Ext.refl _,rfl⟩ | exact ⟨Ext.refl _,rfl⟩ | exact rfl | exact ⟨_,rfl,rfl⟩ | exact Ext.refl _ | (trace_state; fail)
   · intro A wa hxa hd h0
     obtain ⟨ea,rfl⟩:=Later.mk_ex hxa
     have q7:=depOn hd 7 12 (by kernel_rfl) rfl
     simp [eqF] at q7
     clear hd h0
     go_simp
     first | exact ⟨_,rfl,Ext.refl _,rfl⟩ | exact ⟨Ext.refl _,rfl⟩ | exact rfl | exact ⟨_,rfl,rfl⟩ | exact Ext.refl _ | (trace_state; fail)
   · intro A wa hxa hd h0
     obtain ⟨ea,rfl⟩:=Later.mk_ex hxa
     have r1:=rest_at h0 1 (by kernel_rfl)
     simp at r1
     clear hd h0
     go_simp
     first | exact ⟨_,rfl,Ext.refl _,rfl⟩ | exact ⟨Ext.refl _,rfl⟩ | exact rfl | exact ⟨_,rfl,rfl⟩ | exact Ext.refl _ | (trace_state; fail)
   · intro A wa hxa hd h0
     obtain ⟨ea,rfl⟩:=Later.mk_ex hxa
     have q9:=depOn hd 9 14 (by kernel_rfl) rfl
     simp [eqF] at q9
     clear hd h0
     go_simp
     refine (GO.out ea.w ea.ext).mono ?_
     rintro e w2 ⟨rfl,hx⟩
     go_simp
     first | exact ⟨_,rfl,hx,rfl⟩ | exact ⟨hx,rfl⟩ | exact rfl | exact ⟨_,rfl,rfl⟩ | (trace_state; fail)
   · intro A wa hxa hd h0
     obtain ⟨ea,rfl⟩:=Later.mk_ex hxa
     have q10:=depOn hd 10 15 (by kernel_rfl) rfl
     simp [eqF] at q10
     clear hd h0
     go_simp
     first | exact ⟨_,rfl,Ext.refl _,rfl⟩ | exact ⟨Ext.refl _,rfl⟩ | exact rfl | exact ⟨_,rfl,rfl⟩ | exact Ext.refl _ | (trace_state; fail)
   · intro A wa hxa hd h0
     obtain ⟨ea,rfl⟩:=Later.mk_ex hxa
     have q8:=depOn hd 8 13 (by kernel_rfl) rfl
     simp [eqF] at q8
     have q11:=depOn hd 11 16 (by kernel_rfl) rfl
     simp [eqF] at q11
     clear hd h0
     go_simp
     first | exact ⟨_,rfl,Ext.refl _,rfl⟩ | exact ⟨Ext.refl _,rfl⟩ | exact rfl | exact ⟨_,rfl,rfl⟩ | exact Ext.refl _ | (trace_state; fail)
   · intro A wa hxa hd h0
     obtain ⟨ea,rfl⟩:=Later.mk_ex hxa
     have q12:=depOn hd 12 17 (by kernel_rfl) rfl
     simp [eqF] at q12
     clear hd h0
     go_simp
     first | exact ⟨_,rfl,Ext.refl _,rfl⟩ | exact ⟨Ext.refl _,rfl⟩ | exact rfl | exact ⟨_,rfl,rfl⟩ | exact Ext.refl _ | (trace_state; fail)
   · intro A wa hxa hd h0
     obtain ⟨ea,rfl⟩:=Later.mk_ex hxa
     have r1:=rest_at h0 1 (by kernel_rfl)
     simp at r1
     clear hd h0
     go_simp
     first | exact ⟨_,rfl,Ext.refl _,rfl⟩ | exact ⟨Ext.refl _,rfl⟩ | exact rfl | exact ⟨_,rfl,rfl⟩ | exact Ext.refl _ | (trace_state; fail)
   · intro A wa hxa hd h0
     obtain ⟨ea,rfl⟩:=Later.mk_ex hxa
     have q14:=depOn hd 14 19 (by kernel_rfl) rfl
     simp [eqF] at q14
     clear hd h0
     go_simp
     first | exact ⟨_,rfl,Ext.refl _,rfl⟩ | exact ⟨Ext.refl _,rfl⟩ | exact rfl | exact ⟨_,rfl,rfl⟩ | exact Ext.refl _ | (trace_state; fail)
   · intro A wa hxa hd h0
     obtain ⟨ea,rfl⟩:=Later.mk_ex hxa
     have q15:=depOn hd 15 20 (by kernel_rfl) rfl
     simp [eqF] at q15
     clear hd h0
     go_simp
     first | exact ⟨_,rfl,Ext.refl _,rfl⟩ | exact ⟨Ext.refl _,rfl⟩ | exact rfl | exact ⟨_,rfl,rfl⟩ | exact Ext.refl _ | (trace_state; fail)
   · intro A wa hxa hd h0
     obtain ⟨ea,rfl⟩:=Later.mk_ex hxa
     have r3:=rest_at h0 3 (by kernel_rfl)
     simp at r3
     clear hd h0
     go_simp
     first | exact ⟨_,rfl,Ext.refl _,rfl⟩ | exact ⟨Ext.refl _,rfl⟩ | exact rfl | exact ⟨_,rfl,rfl⟩ | exact Ext.refl _ | (trace_state; fail)
   · intro A wa hxa hd h0
     obtain ⟨ea,rfl⟩:=Later.mk_ex hxa
     have r1:=rest_at h0 1 (by kernel_rfl)
     simp at r1
     clear hd h0
     go_simp
     first | exact ⟨_,rfl,Ext.refl _,rfl⟩ | exact ⟨Ext.refl _,rfl⟩ | exact rfl | exact ⟨_,rfl,rfl⟩ | exact Ext.refl _ | (trace_state; fail)
   · intro A wa hxa hd h0
     obtain ⟨ea,rfl⟩:=Later.mk_ex hxa
     have q18:=depOn hd 18 23 (by kernel_rfl) rfl
     simp [eqF] at q18
     clear hd h0
     go_simp
     first | exact ⟨_,rfl,Ext.refl _,rfl⟩ | exact ⟨Ext.refl _,rfl⟩ | exact rfl | exact ⟨_,rfl,rfl⟩ | exact Ext.refl _ | (trace_state; fail)
   · intro A wa hxa hd h0
     obtain ⟨ea,rfl⟩:=Later.mk_ex hxa
     have q17:=depOn hd 17 22 (by kernel_rfl) rfl
     simp [eqF] at q17
     have q19:=depOn hd 19 24 (by kernel_rfl) rfl
     simp [eqF] at q19
     clear hd h0
     go_simp
     first | exact ⟨_,rfl,Ext.refl _,rfl⟩ | exact ⟨Ext.refl _,rfl⟩ | exact rfl | exact ⟨_,rfl,rfl⟩ | exact Ext.refl _ | (trace_state; fail)
   · intro A wa hxa hd h0
     obtain ⟨ea,rfl⟩:=Later.mk_ex hxa
     have q20:=depOn hd 20 25 (by kernel_rfl) rfl
     simp [eqF] at q20
     clear hd h0
     go_simp
     first | exact ⟨_,rfl,Ext.refl _,rfl⟩ | exact ⟨Ext.refl _,rfl⟩ | exact rfl | exact ⟨_,rfl,rfl⟩ | exact Ext.refl _ | (trace_state; fail)
   · intro A wa hxa hd h0
     obtain ⟨ea,rfl⟩:=Later.mk_ex hxa
     have q16:=depOn hd 16 21 (by kernel_rfl) rfl
     simp [eqF] at q16
     have q21:=depOn hd 21 26 (by kernel_rfl) rfl
     simp [eqF] at q21
     clear hd h0
     go_simp
     first | exact ⟨_,rfl,Ext.refl _,rfl⟩ | exact ⟨Ext.refl _,rfl⟩ | exact rfl | exact ⟨_,rfl,rfl⟩ | exact Ext.refl _ | (trace_state; fail)
   · intro A wa hxa hd h0
     obtain ⟨ea,rfl⟩:=Later.mk_ex hxa
     have q13:=depOn hd 13 18 (by kernel_rfl) rfl
     simp [eqF] at q13
     have q22:=depOn hd 22 27 (by kernel_rfl) rfl
     simp [eqF] at q22
     clear hd h0
     go_simp
     first | exact ⟨_,rfl,Ext.refl _,rfl⟩ | exact ⟨Ext.refl _,rfl⟩ | exact rfl | exact ⟨_,rfl,rfl⟩ | exact Ext.refl _ | (trace_state; fail)
   · intro A wa hxa hd h0
     obtain ⟨ea,rfl⟩:=Later.mk_ex hxa
     have q23:=depOn hd 23 28 (by kernel_rfl) rfl
     simp [eqF] at q23
     clear hd h0
     go_simp
     first | exact ⟨_,rfl,Ext.refl _,rfl⟩ | exact ⟨Ext.refl _,rfl⟩ | exact rfl | exact ⟨_,rfl,rfl⟩ | exact Ext.refl _ | (trace_state; fail)
   · intro A wa hxa hd h0
     obtain ⟨ea,rfl⟩:=Later.mk_ex hxa
     have r1:=rest_at h0 1 (by kernel_rfl)
     simp at r1
     clear hd h0
     go_simp
     first | exact ⟨_,rfl,Ext.refl _,rfl⟩ | exact ⟨Ext.refl _,rfl⟩ | exact rfl | exact ⟨_,rfl,rfl⟩ | exact Ext.refl _ | (trace_state; fail)
   · intro A wa hxa hd h0
     obtain ⟨ea,rfl⟩:=Later.mk_ex hxa
     have q25:=depOn hd 25 30 (by kernel_rfl) rfl
     simp [eqF] at q25
     clear hd h0
     go_simp
     first | exact ⟨_,rfl,Ext.refl _,rfl⟩ | exact ⟨Ext.refl _,rfl⟩ | exact rfl | exact ⟨_,rfl,rfl⟩ | exact Ext.refl _ | (trace_state; fail)
   · intro A wa hxa hd h0
     obtain ⟨ea,rfl⟩:=Later.mk_ex hxa
     have q26:=depOn hd 26 31 (by kernel_rfl) rfl
     simp [eqF] at q26
     clear hd h0
     go_simp
     first | exact ⟨_,rfl,Ext.refl _,rfl⟩ | exact ⟨Ext.refl _,rfl⟩ | exact rfl | exact ⟨_,rfl,rfl⟩ | exact Ext.refl _ | (trace_state; fail)
   · intro A wa hxa hd h0
     obtain ⟨ea,rfl⟩:=Later.mk_ex hxa
     have q27:=depOn hd 27 32 (by kernel_rfl) rfl
     simp [eqF] at q27
     clear hd h0
     go_simp
     first | exact ⟨_,rfl,Ext.refl _,rfl⟩ | exact ⟨Ext.refl _,rfl⟩ | exact rfl | exact ⟨_,rfl,rfl⟩ | exact Ext.refl _ | (trace_state; fail)
   · exact fun w => rfl
   · exact fun w => rfl
   · exact fun w => rfl
   · exact fun w => rfl
   · intro A wa hxa hd h0
     obtain ⟨ea,rfl⟩:=Later.mk_ex hxa
     have q28:=depOn hd 28 33 (by kernel_rfl) rfl
     simp [eqF] at q28
     have q32:=depOn hd 32 37 (by kernel_rfl) rfl
     simp [eqF] at q32
     clear hd h0
     go_simp
     first | exact ⟨_,rfl,Ext.refl _,rfl⟩ | exact ⟨Ext.refl _,rfl⟩ | exact rfl | exact ⟨_,rfl,rfl⟩ | exact Ext.refl _ | (trace_state; fail)
   · intro A wa hxa hd h0
     obtain ⟨ea,rfl⟩:=Later.mk_ex hxa
     have q24:=depOn hd 24 29 (by kernel_rfl) rfl
     simp [eqF] at q24
     have q33:=depOn hd 33 38 (by kernel_rfl) rfl
     simp [eqF] at q33
     clear hd h0
     go_simp
     first | exact ⟨_,rfl,Ext.refl _,rfl⟩ | exact ⟨Ext.refl _,rfl⟩ | exact rfl | exact ⟨_,rfl,rfl⟩ | exact Ext.refl _ | (trace_state; fail)
 · intro A wa hk
   obtain ⟨hxa,hsz,hdf,hdn,hrs⟩:=hk
   obtain ⟨ea,rfl⟩:=Later.mk_ex hxa
   have k0:=rest_at hrs 0 (by kernel_rfl)
   simp at k0
   have k1:=rest_at hrs 1 (by kernel_rfl)
   simp at k1
   have k2:=rest_at hrs 2 (by kernel_rfl)
   simp at k2
   have k3:=rest_at hrs 3 (by kernel_rfl)
   simp at k3
   have k39 : A.tmps.getD 39 undef = .bool false:=hdn 34 39 rfl rfl
   clear hdn hrs
   rw [act_lit hsz hdf]
   simp [List.range,List.range.loop] at k0 k1 k2 k3 k39
   simp [List.range,List.range.loop,k0,k1,k2,k3,k39]
   clear k0 k1 k2 k3 k39 hsz hdf
   generalize A.tmps[4]?.getD undef = A4 at *
   generalize A.tmps[5]?.getD undef = A5 at *
   generalize A.tmps[6]?.getD undef = A6 at *
   generalize A.tmps[7]?.getD undef = A7 at *
   generalize A.tmps[8]?.getD undef = A8 at *
   generalize A.tmps[9]?.getD undef = A9 at *
   generalize A.tmps[10]?.getD undef = A10 at *
   generalize A.tmps[11]?.getD undef = A11 at *
   generalize A.tmps[12]?.getD undef = A12 at *
   generalize A.tmps[13]?.getD undef = A13 at *
   generalize A.tmps[14]?.getD undef = A14 at *
   generalize A.tmps[15]?.getD undef = A15 at *
   generalize A.tmps[16]?.getD undef = A16 at *
   generalize A.tmps[17]?.getD undef = A17 at *
   generalize A.tmps[18]?.getD undef = A18 at *
   generalize A.tmps[19]?.getD undef = A19 at *
   generalize A.tmps[20]?.getD undef = A20 at *
   generalize A.tmps[21]?.getD undef = A21 at *
   generalize A.tmps[22]?.getD undef = A22 at *
   generalize A.tmps[23]?.getD undef = A23 at *
   generalize A.tmps[24]?.getD undef = A24 at *
   generalize A.tmps[25]?.getD undef = A25 at *
   generalize A.tmps[26]?.getD undef = A26 at *
   generalize A.tmps[27]?.getD undef = A27 at *
   generalize A.tmps[28]?.getD undef = A28 at *
   generalize A.tmps[29]?.getD undef = A29 at *
   generalize A.tmps[30]?.getD undef = A30 at *
   generalize A.tmps[31]?.getD undef = A31 at *
   generalize A.tmps[32]?.getD undef = A32 at *
   generalize A.tmps[33]?.getD undef = A33 at *
   generalize A.tmps[34]?.getD undef = A34 at *
   generalize A.tmps[35]?.getD undef = A35 at *
   generalize A.tmps[36]?.getD undef = A36 at *
   generalize A.tmps[37]?.getD undef = A37 at *
   generalize A.tmps[38]?.getD undef = A38 at *
   generalize A.tmps[40]?.getD undef = A40 at *
   generalize A.tmps[41]?.getD undef = A41 at *
   generalize A.tmps[42]?.getD undef = A42 at *
   generalize A.tmps[43]?.getD undef = A43 at *
   generalize A.tmps[44]?.getD undef = A44 at *
   generalize A.tmps[45]?.getD undef = A45 at *
   generalize A.tmps[46]?.getD undef = A46 at *
   generalize A.tmps[47]?.getD undef = A47 at *
   generalize A.tmps[48]?.getD undef = A48 at *
   generalize A.tmps[49]?.getD undef = A49 at *
   generalize A.tmps[50]?.getD undef = A50 at *
   generalize A.tmps[51]?.getD undef = A51 at *
   generalize A.tmps[52]?.getD undef = A52 at *
   generalize A.tmps[53]?.getD undef = A53 at *
   generalize A.tmps[54]?.getD undef = A54 at *
   generalize A.tmps[55]?.getD undef = A55 at *
   generalize A.tmps[56]?.getD undef = A56 at *
   generalize A.tmps[57]?.getD undef = A57 at *
   generalize A.tmps[58]?.getD undef = A58 at *
   generalize A.tmps[59]?.getD undef = A59 at *
   generalize A.tmps[60]?.getD undef = A60 at *
   generalize A.tmps[61]?.getD undef = A61 at *
   generalize A.tmps[62]?.getD undef = A62 at *
   generalize A.tmps[63]?.getD undef = A63 at *
   generalize A.tmps[64]?.getD undef = A64 at *
   generalize A.tmps[65]?.getD undef = A65 at *
   generalize A.tmps[66]?.getD undef = A66 at *
   generalize A.tmps[67]?.getD undef = A67 at *
   clear GO GT
   rcases sixB b1 b2 b3 b4 b5 b6 with rfl | ⟨rfl,rfl⟩ | ⟨rfl,rfl,rfl⟩ | ⟨rfl,rfl,rfl,rfl⟩ | ⟨rfl,rfl,rfl,rfl,rfl⟩ | ⟨rfl,rfl,rfl,rfl,rfl⟩
   all_goals
     go_wp2_with (first
       | (go_at_call 134; with_reducible refine (G1.out.at_ _).mono ?_; rintro _ _ ⟨rfl,e,rfl⟩)
       | (go_at_call 140; with_reducible refine (G2.out.at_ _).mono ?_; rintro _ _ ⟨rfl,e,rfl⟩)
       | (go_at_call 115; with_reducible refine (G3.out.at_ _).mono ?_; rintro _ _ ⟨rfl,e,rfl⟩)
       | (go_at_call 115; with_reducible refine (G4.out.at_ _).mono ?_; rintro _ _ ⟨rfl,e,rfl⟩)
       | (go_at_call 114; with_reducible refine (G5.out.at_ _).mono ?_; rintro _ _ ⟨rfl,e,rfl⟩)
       | (go_at_call 114; with_reducible refine (G6.out.at_ _).mono ?_; rintro _ _ ⟨rfl,e,rfl⟩))
   all_goals
     go_ret
     refine ⟨?_,HX.out.trans (Later.ext _)⟩
     rw [R.out]
     first | rfl | (trace_state; fail)
set_option maxRecDepth 20000 in
set_option maxHeartbeats 1000000 in
theorem refitems_of (B : Nat) (l : List Itm) (hf : ∀ x,x ∈ l→∀ (w : World) (cs : List Value),RI w B x cs→B≤w.heap.size →
     Calls Tryz.prog 135 #[.agg cs.toArray] w fun e w' => e = .returned (.bool (yes (MayI x)))∧Ext w w')
   (w : World) (v : Value) (hS : Sl (RI w B) w B 9 l v) (hB : B≤w.heap.size) (hsz : l.length≤1000000000) :
   Calls Tryz.prog 115 #[v] w fun e w' => e = .returned (.bool (yes (∀ x,x ∈ l→MayI x)))∧Ext w w':=by
 obtain ⟨a,cap,rfl,hcap,hrow⟩:=hS
 have HF:=hide hf
 clear hf
 go_enter Tryz.func115,Tryz.ntmps115
 go_wp2_with fail
 go_loopw [3] (fun i wr => ∃ k : Nat,k≤l.length∧i = .int .i64 k∧(∀ y,y ∈ l.take k→MayI y)∧Ext w wr) (fun i _ => l.length - (intOf i).toNat)
 case atStart => exact ⟨0,Nat.zero_le _,rfl,fun y hy => by simp at hy,Ext.refl _⟩
 case round =>
   obtain ⟨k,hk,rfl,hpre,hx⟩:=hrel
   by_cases hlt : k < l.length
   · have hfk:=hide (HF.out l[k] (List.getElem_mem hlt))
     obtain ⟨b,o,v0,v1,v2,v3,v4,v5,v6,v7,v8,rfl,hbB,hR,hC,o0,o1,o2,o3,o4,o5,o6,o7,o8⟩:=hrow.open9 hlt
     obtain ⟨d0,d1,d2,d3,d4,d5,d6,d7,d8⟩:=(hC.ext hx).get9
     have hyes:=hide (fun h => all_take hlt hpre h)
     have hno:=hide (fun (h : ¬ MayI l[k]) => yes_no.2 (fun (ha : ∀ x,x ∈ l→MayI x) => h (ha _ (List.getElem_mem hlt))))
     have hRx:=hide (hR.ext hx hB)
     clear hC hrow hR hpre
     generalize l[k] = y at *
     go_wp2_with fail
     refine (hfk.out _ _ hRx.out (by have:=hx.size; omega)).mono ?_
     rintro e w1 ⟨rfl,hy⟩
     have hx9:=hx.trans hy
     by_cases hq : MayI y
     · rw [yes_iff.2 hq]
       have hn:=hide (hyes.out hq)
       go_wp2_with fail
       go_roundw
       case rel => exact ⟨k + 1,by omega,by go_num,hn.out,hx9⟩
       case measure => simp [intOf]; omega
     · rw [yes_no.2 hq]
       have hn:=hide (hno.out hq)
       go_wp2_with fail
       go_ret
       exact ⟨by rw [hn.out]; rfl,hx9⟩
   · have : k = l.length:=by omega
     subst this
     have hfull:=hide (yes_iff.2 (show ∀ x,x ∈ l→MayI x by rw [List.take_length] at hpre; exact hpre))
     clear hpre
     go_wp2_with fail
     go_ret
     exact ⟨by rw [hfull.out]; rfl,hx⟩
theorem refitem_of (B : Nat) (x : Itm) (hl : RItemsOk B x.l) (he : RItemsOk B x.els) (hvx : VI x) (hlen : sizeI x≤100000000) : RItemOk B x:=by
 by_cases h0 : x.op < 1
 · exact refitem_0 B x hl he hvx hlen h0
 by_cases h2 : 10 < x.op
 · exact refitem_2 B x hl he hvx hlen h2
 by_cases h3 : onlyP x
 rotate_left
 · exact refitem_3 B x hl he hvx hlen ⟨by omega,by omega,h3⟩
 by_cases h5 : x.x.length = countX x.op
 rotate_left
 · exact refitem_4 B x hl he hvx hlen ⟨by omega,by omega,h3,h5⟩
 by_cases h4 : x.op = 4
 rotate_left
 · exact refitem_7 B x hl he hvx hlen ⟨by omega,by omega,h4,h3,h5⟩
 by_cases h6 : isTargets x.x
 · exact refitem_6 B x hl he hvx hlen ⟨h4,h3,h5,h6⟩
 · exact refitem_5 B x hl he hvx hlen ⟨h4,h3,h5,h6⟩
theorem refitem_any (B : Nat) (x : Itm) : VI x→sizeI x≤100000000→RItemOk B x:=by
 induction x using Itm.ind with
 | h x ihl ihe =>
   intro hv hz
   have hse:=sizeI_eq x
   obtain ⟨-,-,-,-,hvl,hve,-,-⟩:=VI_iff.1 hv
   have h1:=length_le_msize sizeI x.l sizeI_pos
   have h2:=length_le_msize sizeI x.els sizeI_pos
   refine refitem_of B x (fun w v hS hB => refitems_of B x.l (fun y hy w cs hR hB => ihl y hy (hvl y hy) (by have:=msize_mem sizeI x.l y hy; omega) w cs hR hB) w v hS hB (by omega)) (fun w v hS hB => refitems_of B x.els (fun y hy w cs hR hB => ihe y hy (hve y hy) (by have:=msize_mem sizeI x.els y hy; omega) w cs hR hB) w v hS hB (by omega)) hv hz
theorem refitems_any (B : Nat) (l : List Itm) (hv : ∀ y,y ∈ l→VI y) (hz : msize sizeI l≤100000000) : RItemsOk B l :=
 fun w v hS hB => refitems_of B l (fun y hy w cs hR hB => refitem_any B y (hv y hy) (by have:=msize_mem sizeI l y hy; omega) w cs hR hB) w v hS hB (by have:=length_le_msize sizeI l sizeI_pos; omega)
theorem boxE4 (w : World) (v0 v1 v2 v3 : Value) (t : TypeId) : ∃ W1 : World,w.alloc (.cells #[v0,v1,v2,v3] t) = W1∧Ext w W1∧(∀ e : Later W1,e.w.cell? ⟨w.heap.size,0,none⟩ = some v0)∧(∀ e : Later W1,e.w.cell? ⟨w.heap.size,1,none⟩ = some v1)∧(∀ e : Later W1,e.w.cell? ⟨w.heap.size,2,none⟩ = some v2)∧(∀ e : Later W1,e.w.cell? ⟨w.heap.size,3,none⟩ = some v3):=by
 obtain ⟨W1,h,hx,hc⟩:=boxE w [v0,v1,v2,v3] t
 exact ⟨W1,h,hx,fun e => hc e 0 (show 0 < 4 by decide),fun e => hc e 1 (show 1 < 4 by decide),fun e => hc e 2 (show 2 < 4 by decide),fun e => hc e 3 (show 3 < 4 by decide)⟩
theorem threeB (b1 b2 b3 : Bool) : b1 = false∨(b1 = true∧b2 = false)∨(b1 = true∧b2 = true):=by
 cases b1 <;> cases b2 <;> simp
set_option maxRecDepth 20000 in
set_option maxHeartbeats 4000000 in
theorem refmodule_any (B : Nat) (m : Mdl) (w : World) (cs : List Value) (hR : RM w B m cs) (hB : B≤w.heap.size) (hv : VM m) (hsz : sizeM m≤100000000) :
   Calls Tryz.prog 78 #[.agg cs.toArray] w fun e w' => e = .returned (.bool (yes (MayM m)))∧Ext w w':=by
 obtain ⟨v1,v2,v3,rfl,h1,h2,h3⟩:=hR
 obtain ⟨vn,vp,vq,vi⟩:=hv
 have hs0 : sizeM m = 1 + msize sizeB m.params + msize sizeP m.ports + msize sizeI m.items:=by unfold sizeM; omega
 have hln:=length_le_msize sizeP m.ports sizeP_pos
 obtain ⟨W1,hV1,hx1,c0,c1,c2,c3⟩:=boxE4 w (.string m.name) v1 v2 v3 33
 have G1:=hide (show ECalls Tryz.prog 112 #[.string m.name] W1 (.bool (nameOk m.name)) from
   fun w' hw => refName_any m.name w' vn)
 have GP:=hide (show ECalls Tryz.prog 114 #[v1] W1 (.bool (yes (∀ y,y ∈ m.params→MayB y))) from
   fun w' hw => refbinds_any B m.params w' v1 (h1.extRB (hx1.trans hw) hB) (Nat.le_trans hB (hx1.trans hw).size) vp (by omega))
 have GI:=hide (show ECalls Tryz.prog 115 #[v3] W1 (.bool (yes (∀ y,y ∈ m.items→MayI y))) from
   fun w' hw => refitems_any B m.items vi (by omega) w' v3 (h3.extRI (hx1.trans hw) hB) (Nat.le_trans hB (hx1.trans hw).size))
 have HNO:=hide (show ∀ p,p ∈ m.ports→¬ MayP p→yes (MayM m) = false from fun p hp hn => yes_no.2 fun h => hn (h.2.2.1 p hp))
 have HYES:=hide (show (∀ p,p ∈ m.ports→MayP p)→yes (MayM m) = (nameOk m.name && (yes (∀ y,y ∈ m.params→MayB y) && yes (∀ y,y ∈ m.items→MayI y))) from fun h => by
   rw [← yes_nameP,← yes_and,← yes_and]
   exact yes_congr ⟨fun g => ⟨g.1,g.2.1,g.2.2.2⟩,fun g => ⟨g.1,g.2.1,h,g.2.2⟩⟩)
 obtain ⟨a1,c1x,rfl,-,-⟩:=h1
 obtain ⟨a3,c3x,rfl,-,-⟩:=h3
 obtain ⟨a2,c2x,rfl,-,hrow⟩:=h2
 generalize yes (MayM m) = r at *
 generalize m.name = nm at *
 generalize yes (∀ y,y ∈ m.params→MayB y) = b2 at *
 generalize yes (∀ y,y ∈ m.items→MayI y) = b3 at *
 generalize m.params.length = np at *
 generalize m.items.length = ni at *
 generalize m.ports = l at *
 have hsl : msize sizeP l≤100000000:=by omega
 have HROW:=hide (fun (w' : World) (hw : Ext W1 w') => (hx1.trans hw))
 have HW:=hide hrow
 have HQ:=hide vq
 have HX:=hide hx1
 clear vp vi vn hs0 hsz hrow vq hx1
 go_enter Tryz.func78,Tryz.ntmps78
 go_wp2_with fail
 go_loopw [3] (fun i wr => ∃ k : Nat,k≤l.length∧i = .int .i64 k∧(∀ y,y ∈ l.take k→MayP y)∧Ext W1 wr) (fun i _ => l.length - (intOf i).toNat)
 case atStart => exact ⟨0,Nat.zero_le _,rfl,fun y hy => by simp at hy,Ext.refl _⟩
 case round =>
   obtain ⟨k,hk,rfl,hpre,hx⟩:=hrel
   obtain ⟨ea,rfl⟩:=Later.mk_ex hx
   by_cases hlt : k < l.length
   · have hs2:=msize_mem sizeP l l[k] (List.getElem_mem hlt)
     have hvk:=HQ.out _ (List.getElem_mem hlt)
     have HNEXT:=hide (fun h => all_take hlt hpre h)
     have HFALSE:=hide (HNO.out _ (List.getElem_mem hlt))
     obtain ⟨b,o,u0,u1,u2,u3,u4,u5,u6,u7,rfl,hbB,hE,hC,oc0,oc1,oc2,oc3,oc4,oc5,oc6,oc7⟩:=HW.out.open8 hlt
     generalize l[k] = y at *
     obtain ⟨rfl,rfl,hX⟩:=RP_iff.1 hE
     have HC:=hide (fun e : Later W1 => (hC.ext (HX.out.trans e.ext)).get8)
     have hsb : sizeX y.w≤1000000000:=by
       have : sizeP y = 1 + sizeX y.w:=rfl
       omega
     have KN:=hide (show ECalls Tryz.prog 112 #[.string y.name] W1 (.bool (nameOk y.name)) from fun w' hw => refName_any y.name w' hvk.1)
     have KX:=hide (show ECalls Tryz.prog 113 #[.agg #[u2,u3,u4,u5,u6,u7]] W1 (.bool (yes (MayX y.w))) from fun w' hw => refMayX_any B y.w w' [u2,u3,u4,u5,u6,u7] (hX.ext (HX.out.trans hw) hB) (Nat.le_trans hB (HX.out.trans hw).size) hsb hvk.2)
     have hmay : MayP y↔nameOk y.name = true∧MayX y.w:=by rw [nameOk_iff]; rfl
     have d0:=fun e => (HC.out e).1
     have d2:=fun e => (HC.out e).2.2.1
     have d3:=fun e => (HC.out e).2.2.2.1
     have d4:=fun e => (HC.out e).2.2.2.2.1
     have d5:=fun e => (HC.out e).2.2.2.2.2.1
     have d6:=fun e => (HC.out e).2.2.2.2.2.2.1
     have d7:=fun e => (HC.out e).2.2.2.2.2.2.2
     clear hE hC hX hx hvk hsb hs2 hpre
     cases hn : nameOk y.name
     · rw [hn] at KN
       have HF:=hide (HFALSE.out fun h => by rw [hmay,hn] at h; exact absurd h.1 (by decide))
       clear hmay hn HNEXT HFALSE KX
       go_wp2_with (first | (go_at_call 112; with_reducible refine (KN.out.at_ _).mono ?_; rintro _ _ ⟨rfl,e,rfl⟩))
       go_ret
       exact ⟨by rw [HF.out]; rfl,HX.out.trans (Later.ext _)⟩
     · rw [hn] at KN
       by_cases hm : MayX y.w
       · rw [yes_iff.2 hm] at KX
         have HN:=hide (HNEXT.out (hmay.2 ⟨hn,hm⟩))
         clear hmay hn hm HNEXT HFALSE
         go_wp2_with (first | (go_at_call 112; with_reducible refine (KN.out.at_ _).mono ?_; rintro _ _ ⟨rfl,e,rfl⟩) | (go_at_call 113; with_reducible refine (KX.out.at_ _).mono ?_; rintro _ _ ⟨rfl,e,rfl⟩))
         go_roundw
         case rel => exact ⟨k + 1,by omega,by go_num,HN.out,Later.ext _⟩
         case measure => simp [intOf]; omega
       · rw [yes_no.2 hm] at KX
         have HF:=hide (HFALSE.out fun h => hm (hmay.1 h).2)
         clear hmay hn hm HNEXT HFALSE
         go_wp2_with (first | (go_at_call 112; with_reducible refine (KN.out.at_ _).mono ?_; rintro _ _ ⟨rfl,e,rfl⟩) | (go_at_call 113; with_reducible refine (KX.out.at_ _).mono ?_; rintro _ _ ⟨rfl,e,rfl⟩))
         go_ret
         exact ⟨by rw [HF.out]; rfl,HX.out.trans (Later.ext _)⟩
   · have hkl : k = l.length:=by omega
     subst hkl
     have R:=hide (HYES.out (by rw [List.take_length] at hpre; exact hpre))
     clear hpre HYES HNO
     generalize nameOk nm = b1 at *
     rcases threeB b1 b2 b3 with rfl | ⟨rfl,rfl⟩ | ⟨rfl,rfl⟩
     all_goals
       go_wp2_with (first
         | (go_at_call 112; with_reducible refine (G1.out.at_ _).mono ?_; rintro _ _ ⟨rfl,e,rfl⟩)
         | (go_at_call 114; with_reducible refine (GP.out.at_ _).mono ?_; rintro _ _ ⟨rfl,e,rfl⟩)
         | (go_at_call 115; with_reducible refine (GI.out.at_ _).mono ?_; rintro _ _ ⟨rfl,e,rfl⟩))
     all_goals
       go_ret
       refine ⟨?_,HX.out.trans (Later.ext _)⟩
       rw [R.out]
       rfl
theorem checkF_bound {l : List Mdl} (h : 64 < l.length∨65536 < msize sizeM l∨64 < mdeep deepM l) : checkF l = 2:=by
 unfold checkF told
 split
 · rfl
 · rw [if_pos (by omega)]
theorem checkF_no {l : List Mdl} (h : ¬ 64 < l.length) (h1 : ¬ 65536 < msize sizeM l) (h2 : ¬ 64 < mdeep deepM l) : checkF l = if yes (∀ m,m ∈ l→MayM m) = true then 0 else 1:=by
 unfold checkF told
 rw [if_neg h,if_neg (by omega)]
set_option maxRecDepth 20000 in
set_option maxHeartbeats 4000000 in
theorem refCheck_any (B : Nat) (l : List Mdl) (w : World) (v : Value) (hS : Sl (RM w B) w B 4 l v) (hB : B≤w.heap.size) (hsz : msize sizeM l≤100000000) (hvx : ∀ m,m ∈ l→VM m) :
   Calls Tryz.prog 37 #[.agg #[v]] w fun e w' => e = .returned (.int .i64 (checkF l))∧Ext w w':=by
 have hov:=hS.oneCell
 have hdl:=deepML_le l
 have hln:=length_le_msize sizeM l sizeM_pos
 obtain ⟨W1,e1,hV1,hx1,hs1,c0⟩:=boxL1 w v 24
 have HX:=hide hx1
 have G1:=hide (show ECalls Tryz.prog 30 #[.agg #[v]] W1 (.int .i64 (msize sizeM l)) from
   fun w' hw => refSize_any B l w' v (hS.extRM (hx1.trans hw) hB) (Nat.le_trans hB (hx1.trans hw).size) (by omega))
 have G2:=hide (show ECalls Tryz.prog 31 #[.agg #[v]] W1 (.int .i64 (mdeep deepM l)) from
   fun w' hw => refDeep_any B l w' v (hS.extRM (hx1.trans hw) hB) (Nat.le_trans hB (hx1.trans hw).size) (by omega))
 obtain ⟨a,cap,rfl,-,hrow⟩:=hS
 by_cases hb : 64 < l.length∨65536 < msize sizeM l∨64 < mdeep deepM l
 · have R:=hide (checkF_bound hb)
   generalize checkF l = r at *
   generalize msize sizeM l = s1 at *
   generalize mdeep deepM l = s2 at *
   generalize l.length = n at *
   clear hvx hrow hx1 hov
   by_cases h1 : 64 < n
   · have h1' : (64 : Int) < n:=by omega
     have hd1 : decide ((64 : Int) < n) = true:=decide_eq_true h1'
     clear h1 h1' hb
     go_enter Tryz.func37,Tryz.ntmps37
     go_wp2_with fail
     go_ret
     exact ⟨by rw [R.out]; rfl,HX.out.trans (Later.ext _)⟩
   have hd1 : decide ((64 : Int) < n) = false:=decide_eq_false (by omega)
   by_cases h2 : 65536 < s1
   · have hd2 : decide ((65536 : Int) < s1) = true:=decide_eq_true (by omega)
     clear h1 h2 hb
     go_enter Tryz.func37,Tryz.ntmps37
     go_wp2_with (go_at_call 30; with_reducible refine (G1.out.at_ _).mono ?_; rintro _ _ ⟨rfl,e,rfl⟩)
     go_ret
     exact ⟨by rw [R.out]; rfl,HX.out.trans (Later.ext _)⟩
   have hd2 : decide ((65536 : Int) < s1) = false:=decide_eq_false (by omega)
   have hd3 : decide ((64 : Int) < s2) = true:=decide_eq_true (by omega)
   clear h1 h2 hb
   go_enter Tryz.func37,Tryz.ntmps37
   go_wp2_with (first
     | (go_at_call 30; with_reducible refine (G1.out.at_ _).mono ?_; rintro _ _ ⟨rfl,e,rfl⟩)
     | (go_at_call 31; with_reducible refine (G2.out.at_ _).mono ?_; rintro _ _ ⟨rfl,e,rfl⟩))
   go_ret
   exact ⟨by rw [R.out]; rfl,HX.out.trans (Later.ext _)⟩
 have hb1 : ¬ 64 < l.length:=fun h => hb (.inl h)
 have hb2 : ¬ 65536 < msize sizeM l:=fun h => hb (.inr (.inl h))
 have hb3 : ¬ 64 < mdeep deepM l:=fun h => hb (.inr (.inr h))
 have hd1 : decide ((64 : Int) < (l.length : Int)) = false:=decide_eq_false (by omega)
 have hd2 : decide ((65536 : Int) < (msize sizeM l : Int)) = false:=decide_eq_false (by omega)
 have hd3 : decide ((64 : Int) < (mdeep deepM l : Int)) = false:=decide_eq_false (by omega)
 have R:=hide (checkF_no hb1 hb2 hb3)
 have HROW:=hide hrow
 have HV:=hide hvx
 have HS:=hide (show ∀ m,m ∈ l→sizeM m≤100000000 from fun m hm => by have:=msize_mem sizeM l m hm; omega)
 generalize checkF l = r at *
 generalize msize sizeM l = s1 at *
 generalize mdeep deepM l = s2 at *
 clear hb hb2 hb3 hrow hvx hx1 hov
 go_enter Tryz.func37,Tryz.ntmps37
 go_wp2_with (first
   | (go_at_call 30; with_reducible refine (G1.out.at_ _).mono ?_; rintro _ _ ⟨rfl,e,rfl⟩)
   | (go_at_call 31; with_reducible refine (G2.out.at_ _).mono ?_; rintro _ _ ⟨rfl,e,rfl⟩))
 go_loopw [3] (fun i wr => ∃ k : Nat,k≤l.length∧i = .int .i64 k∧(∀ y,y ∈ l.take k→MayM y)∧Ext W1 wr) (fun i _ => l.length - (intOf i).toNat)
 case atStart => exact ⟨0,Nat.zero_le _,rfl,fun y hy => by simp at hy,Later.ext _⟩
 case round =>
   obtain ⟨k,hk,rfl,hpre,hx⟩:=hrel
   obtain ⟨ea,rfl⟩:=Later.mk_ex hx
   by_cases hlt : k < l.length
   · have HNEXT:=hide (fun h => all_take hlt hpre h)
     have HFALSE:=hide (show ¬ MayM l[k]→r = 1 from fun h => by rw [R.out,if_neg (by rw [yes_iff]; exact fun g => h (g _ (List.getElem_mem hlt)))])
     have hvk:=HV.out _ (List.getElem_mem hlt)
     have hsk:=HS.out _ (List.getElem_mem hlt)
     obtain ⟨b,o,u0,u1,u2,u3,rfl,hbB,hE,hC,oc0,oc1,oc2,oc3⟩:=HROW.out.open4 hlt
     generalize l[k] = y at *
     have HC:=hide (fun e : Later W1 => (hC.ext (HX.out.trans e.ext)).get4)
     have d0:=fun e => (HC.out e).1
     have d1:=fun e => (HC.out e).2.1
     have d2:=fun e => (HC.out e).2.2.1
     have d3:=fun e => (HC.out e).2.2.2
     have KM:=hide (show ECalls Tryz.prog 78 #[.agg #[u0,u1,u2,u3]] W1 (.bool (yes (MayM y))) from fun w' hw => refmodule_any B y w' [u0,u1,u2,u3] (hE.ext (HX.out.trans hw) hB) (Nat.le_trans hB (HX.out.trans hw).size) hvk (by omega))
     clear hE hC hx hvk hpre hsk
     by_cases hm : MayM y
     · rw [yes_iff.2 hm] at KM
       have HN:=hide (HNEXT.out hm)
       clear hm HNEXT HFALSE
       go_wp2_with (go_at_call 78; with_reducible refine (KM.out.at_ _).mono ?_; rintro _ _ ⟨rfl,e,rfl⟩)
       go_roundw
       case rel => exact ⟨k + 1,by omega,by go_num,HN.out,Later.ext _⟩
       case measure => simp [intOf]; omega
     · rw [yes_no.2 hm] at KM
       have HF:=hide (HFALSE.out hm)
       clear hm HNEXT HFALSE
       go_wp2_with (go_at_call 78; with_reducible refine (KM.out.at_ _).mono ?_; rintro _ _ ⟨rfl,e,rfl⟩)
       go_ret
       exact ⟨by rw [HF.out]; rfl,HX.out.trans (Later.ext _)⟩
   · have hkl : k = l.length:=by omega
     subst hkl
     have HF:=hide (show r = 0 by rw [R.out,if_pos (yes_iff.2 (by rw [List.take_length] at hpre; exact hpre))])
     clear hpre
     go_wp2_with fail
     go_ret
     exact ⟨by rw [HF.out]; rfl,HX.out.trans (Later.ext _)⟩
end Go.Proofs.YtjoglnjpgkobeaaGreatDoor
