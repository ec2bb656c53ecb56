import Derived.Test.YtjoglnjpgkobeaaGreatDoorProg
import Derived.Test.YtjoglnjpgkobeaaGreatDoorS38
import Derived.Test.YtjoglnjpgkobeaaGreatDoorS34
import Derived.Test.YtjoglnjpgkobeaaGreatDoorS33
set_option linter.all false
set_option linter.unusedVariables false
set_option linter.unusedSimpArgs false
namespace Go.Proofs.YtjoglnjpgkobeaaGreatDoor
open Go Go.RowKit
attribute [local go_sem] run_store_one
set_option maxRecDepth 20000 in
set_option maxHeartbeats 2000000 in
theorem rorderK_any (B : Nat) (f : List Mdl) (w : World) (vf : Value) (hS : Sl (RM w B) w B 4 f vf) (hB : B≤w.heap.size) (hsz : msize sizeM f≤10000) (hvx : ∀ m,m ∈ f→VM m) :
   Calls Tryz.prog 19 #[.agg #[vf]] w fun e w' => ∃ v,e = .returned (.tuple #[v,.int .i64 (checkN f)])∧Ext w w'∧(checkN f = 0→SStr w' (orderF f) v)∧(checkN f≠0→v = .slice none 0 0):=by
 have HS:=hide hS
 obtain ⟨fa,fcap,rfl,hfc,hrow⟩:=hS
 obtain ⟨W1,e1,hV1,hx1,hs1,c0⟩:=boxL1 w (.slice fa f.length fcap) 24
 have HX:=hide (hx1.trans e1.ext)
 have GC:=hide (rcheck_any B f e1.w _ (HS.out.extRM HX.out hB) (Nat.le_trans hB HX.out.size) hsz hvx)
 clear hfc hrow hx1 hs1 hvx
 obtain ⟨c,hc⟩ : ∃ c,c = checkN f:=⟨_,rfl⟩
 rw [← hc] at GC ⊢
 clear hc
 go_enter Tryz.func19,Tryz.ntmps19
 go_wp2_with fail
 go_at_call 11
 refine GC.out.mono ?_
 rintro _ w1 ⟨rfl,hx⟩
 obtain ⟨e2,rfl⟩:=Later.mk_ex (e1.ext.trans hx)
 have HX2:=hide (HX.out.trans hx)
 have a1:=c0 e2
 clear hx GC c0
 by_cases h0 : c = 0
 · have hne : (c != 0) = false:=by simpa using h0
   have H0:=hide h0
   clear h0
   have GO:=hide (rorder_any B f e2.w _ (HS.out.extRM HX2.out hB) (Nat.le_trans hB HX2.out.size) (by omega))
   go_wp2_with fail
   go_at_call 41
   refine GO.out.mono ?_
   rintro _ w2 ⟨v,rfl,hs,hx3⟩
   have FIN:=hide (And.intro hs (HX2.out.trans hx3))
   clear hs hx3 GO
   go_wp2_with fail
   go_ret2
   exact ⟨v,by rw [H0.out]; rfl,FIN.out.2,fun _ => FIN.out.1,fun h => absurd H0.out h⟩
 · have hne : (c != 0) = true:=by simpa using h0
   have H0:=hide h0
   clear h0
   go_wp2_with fail
   go_ret2
   exact ⟨_,rfl,HX2.out,fun h => absurd h H0.out,fun _ => rfl⟩
theorem lin_le {a L j : Nat} (h : a≤1 + (L - (j + 1)) * 10000) : a≤1 + (L - j) * 10000 :=
 Nat.le_trans h (Nat.add_le_add_left (Nat.mul_le_mul_right 10000 (show L - (j + 1)≤L - j by omega)) 1)
theorem lin_le2 {a b c L j : Nat} (h : a≤1 + (L - (j + 1)) * 10000) (hj : j < L) (hc : c≤10000) (hb : b≤a + c) : b≤1 + (L - j) * 10000:=by
 have e : L - j = (L - (j + 1)) + 1:=by omega
 rw [e,Nat.succ_mul]
 generalize (L - (j + 1)) * 10000 = z at *
 omega
theorem lin_le3 {a L j : Nat} (h : a≤1 + (L - j) * 10000) (hL : L≤10000) : a≤100000001 :=
 Nat.le_trans h (Nat.le_trans (Nat.add_le_add_left (Nat.mul_le_mul_right 10000 (show L - j≤10000 by omega)) 1) (by decide))
noncomputable def belowE (f : List Mdl) (top : ByteArray) : Int:=if checkN f≠0 then checkN f else if (findM f top).isSome then 0 else 71
set_option maxRecDepth 20000 in
set_option maxHeartbeats 16000000 in
theorem rbelow_any (B : Nat) (f : List Mdl) (top : ByteArray) (w : World) (vf : Value) (hS : Sl (RM w B) w B 4 f vf) (hB : B≤w.heap.size) (hsz : msize sizeM f≤10000) (hvx : ∀ m,m ∈ f→VM m) :
   Calls Tryz.prog 21 #[.agg #[vf],.string top] w fun e w' => ∃ v,e = .returned (.tuple #[v,.int .i64 (belowE f top)])∧Ext w w'∧SStr w' (if belowE f top = 0 then belowN f top else []) v:=by
 have hln:=length_le_msize sizeM f sizeM_pos
 have HS:=hide hS
 obtain ⟨a,cap,rfl,hfc,hrow⟩:=hS
 obtain ⟨W1,e1,hV1,hx1,hs1,c0⟩:=boxL1 w (.slice a f.length cap) 24
 have HX:=hide (hx1.trans e1.ext)
 have GC:=hide (rorderK_any B f e1.w _ (HS.out.extRM HX.out hB) (Nat.le_trans hB HX.out.size) hsz hvx)
 clear hfc hrow hx1 hs1 hvx
 obtain ⟨c,hc⟩ : ∃ c,c = checkN f:=⟨_,rfl⟩
 have HBE:=hide (show belowE f top = if c≠0 then c else if (findM f top).isSome then 0 else 71 by rw [hc]; rfl)
 rw [← hc] at GC
 have HC:=hide hc
 clear hc
 obtain ⟨d,hd⟩ : ∃ d,d = belowE f top:=⟨_,rfl⟩
 rw [← hd] at HBE ⊢
 clear hd
 go_enter Tryz.func21,Tryz.ntmps21
 go_wp2_with fail
 go_at_call 19
 refine GC.out.mono ?_
 rintro _ w1 ⟨v1,rfl,hx,hok,hno⟩
 obtain ⟨e2,rfl⟩:=Later.mk_ex (e1.ext.trans hx)
 have HX2:=hide (HX.out.trans hx)
 have a1:=c0 e2
 clear GC
 by_cases h0 : c = 0
 rotate_left
 · have hne : (c != 0) = true:=by simpa using h0
   obtain rfl:=hno h0
   obtain rfl : d = c:=by rw [HBE.out,if_pos h0]
   have H0:=hide h0
   clear hok hno hx HBE h0
   go_wp2_with fail
   go_ret2
   exact ⟨_,rfl,HX2.out,⟨_,_,rfl,Nat.le_refl _,fun k hk => by cases hk⟩⟩
 have hss:=hok h0
 have hck : checkN f = 0:=HC.out.symm.trans h0
 have hne : (c != 0) = false:=by simpa using h0
 have HBE:=hide (show d = if (findM f top).isSome then 0 else 71 by rw [HBE.out,if_neg (fun h => h h0)])
 have HCK:=hide hck
 have LAW:=hide (order_law hck)
 have HND:=hide ((check_facts hck).2.2.2.2)
 have HSL:=hide hss
 obtain ⟨va,vc,rfl,hcl,hrl⟩:=hss
 have HRL:=hide hrl
 clear hok hno hrl hcl h0 hck
 have GF:=hide (rFind_any B f top e2.w _ (HS.out.extRM HX2.out hB) (Nat.le_trans hB HX2.out.size) (by omega))
 go_wp2_with fail
 go_at_call 13
 refine GF.out.mono ?_
 rintro _ w3 ⟨c1,c2,c3,c4,rfl,hR,hx3⟩
 obtain ⟨v1,v2,v3,hcs,hp1,hq1,hi1⟩:=hR
 simp only [List.cons.injEq,and_true] at hcs
 obtain ⟨rfl,rfl,rfl,rfl⟩:=hcs
 have o1:=hp1.oneCell
 have o2:=hq1.oneCell
 have o3:=hi1.oneCell
 obtain ⟨Wb,Wc,hVb,⟨p0,p1,p2,p3⟩,⟨q0,q1,q2,q3⟩,hVc,hbc,hxc,-⟩:=varM w3 (.string ((findM f top).getD zeroM).name) c2 c3 c4
 obtain ⟨W4,hW4⟩ : ∃ W4,W4 = Wc:=⟨_,rfl⟩
 rw [← hW4] at hVc hxc
 obtain ⟨e4,he4⟩:=Later.mk_ex (W:=W4) (w:=W4) (Ext.refl _)
 replace hVc:=hVc.trans he4
 have HX4:=hide (HX2.out.trans (hx3.trans hxc))
 have HX24:=hide (hx3.trans hxc)
 have a4:=cellAt ((hx3.trans hxc).at_ a1)
 clear hp1 hq1 hi1 hbc hxc hx3 hx GF c0 hW4
 generalize ((findM f top).getD zeroM).name = tn at *
 by_cases hfound : (findM f top).isSome = true
 rotate_left
 · have hfn : (findM f top).isSome = false:=by simpa using hfound
   obtain rfl : d = 71:=by rw [HBE.out,if_neg hfound]
   rw [hfn]
   clear hfound HBE
   go_wp2_with fail
   go_ret2
   refine ⟨_,rfl,HX4.out.trans e4.ext,?_⟩
   first | exact ⟨_,_,rfl,Nat.le_refl _,fun k hk => by cases hk⟩ | (rw [if_neg (by decide)]; exact ⟨_,_,rfl,Nat.le_refl _,fun k hk => by cases hk⟩)
 obtain rfl : d = 0:=by rw [HBE.out,if_pos hfound]
 clear HBE
 have HFO:=hide hfound
 have HCELL:=hide a4
 rw [hfound]
 obtain ⟨W5,e5,hV5,hx5,hs5,b5⟩:=boxL1 e4.w (.string top) 9
 have HIN:=hide (show SStr W5 [top] (.slice (some ⟨e4.w.heap.size,0,none⟩) 1 1) from ⟨_,_,rfl,Nat.le_refl _,fun k hk => ⟨_,_,rfl,by
   obtain rfl : k = 0:=by simp at hk; omega
   exact b5 ⟨W5,Ext.refl _⟩⟩⟩)
 have HX25:=hide (HX24.out.trans (e4.ext.trans hx5))
 have HX5:=hide (HX2.out.trans HX25.out)
 have a5:=cellL a4 (e4.ext.trans hx5)
 have HL:=hide (show (orderF f).length≤10000 by rw [HND.out]; omega)
 have hL0:=HL.out
 clear hx5 hs5 a4 b5 hfound
 go_wp2_with fail
 go_loopw [10,11,12] (fun vi vo i wr => ∃ (k : Nat) (inn out : List ByteArray),k≤(orderF f).length∧i = .int .i64 ((k : Int) - 1)∧ScanI f top ((orderF f).drop k) inn out∧inn.length≤1 + ((orderF f).length - k) * 10000∧out.length≤(orderF f).length - k∧SStr wr inn vi∧SStr wr out vo∧Ext W5 wr) (fun _ _ i _ => (intOf i + 1).toNat)
 case atStart => exact ⟨(orderF f).length,[top],[],Nat.le_refl _,rfl,by rw [List.drop_length]; exact scan_start f top,by simp,by simp,HIN.out.ext e5.ext,⟨_,_,rfl,Nat.le_refl _,fun k hk => by cases hk⟩,e5.ext⟩
 case round =>
   obtain ⟨k,inn,out,hk,rfl,hsc,hil,hol,hvi,hvo,hxr⟩:=hrel
   have HSC:=hide hsc
   have HVI:=hide hvi
   have HVO:=hide hvo
   have HXR:=hide hxr
   obtain ⟨ia,ic,rfl,-,-⟩:=hvi
   obtain ⟨oa,oc,rfl,-,-⟩:=hvo
   have c2:=cellL a5 hxr
   clear hsc hxr
   by_cases hk0 : k = 0
   · subst hk0
     have HF:=hide (scan_end HSC.out)
     have HXZ:=hide (HX5.out.trans HXR.out)
     have hi0 : ¬ (0 : Int)≤((0 : Nat) : Int) - 1:=by omega
     clear c2
     go_wp2_with fail
     go_ret2
     refine ⟨_,rfl,HXZ.out,?_⟩
     rw [← HF.out]
     exact HVO.out
   · obtain ⟨j,rfl⟩ : ∃ j,k = j + 1:=⟨k - 1,by omega⟩
     have hlt : j < (orderF f).length:=by omega
     have hij : (((j + 1 : Nat) : Int) - 1) = (j : Int):=by omega
     rw [hij]
     have hil0:=lin_le3 hil HL.out
     have hil2 : inn.length≤1 + ((orderF f).length - j) * 10000:=lin_le hil
     have hol2 : out.length≤(orderF f).length - j:=by omega
     have hjl : j≤(orderF f).length:=by omega
     have hj0 : (0 : Int)≤(j : Int):=by omega
     have hj1 : (j : Int) < ((orderF f).length : Int):=by omega
     obtain ⟨bl,ol,rfl,hcell⟩:=HRL.out j hlt
     obtain ⟨m,hfm,hmf,-,-⟩:=LAW.out j hlt
     have hcells:=cellAt (HXR.out.at_ (HX25.out.at_ hcell))
     have KA:=refAmong_any inn (orderF f)[j] wr _ HVI.out (Nat.le_trans hil0 (by decide))
     clear hij hk0 hcell
     by_cases hin : (orderF f)[j] ∈ inn
     rotate_left
     · rw [yes_no.2 hin] at KA
       have KA:=hide KA
       have NXT:=hide (scan_no HCK.out HFO.out hlt HSC.out hin)
       clear hin hfm hmf c2
       generalize (orderF f)[j] = s at *
       have hc0:=hcells ⟨wr,Ext.refl _⟩
       clear hcells
       go_wp2_with (go_at_call 26; refine KA.out.mono ?_; rintro _ _ ⟨rfl,rfl⟩)
       go_roundw
       case rel => exact ⟨j,inn,out,hjl,by first | rfl | go_num,NXT.out,hil2,hol2,HVI.out,HVO.out,HXR.out⟩
       case measure => simp [intOf] <;> omega
     · rw [yes_iff.2 hin] at KA
       have KA:=hide KA
       have NXT:=hide (scan_yes HCK.out HFO.out hlt HSC.out hfm hin)
       have hszm:=msize_mem sizeM f m hmf
       have hul:=uses_len m (by
         have h2 : sizeM m = 1 + (msize sizeB m.params + msize sizeP m.ports + msize sizeI m.items):=by unfold sizeM; omega
         omega)
       have hul2 : (usesM m).length≤sizeM m:=by
         have h1:=addAll_le (ofIs m.items) []
         have h2:=ofIs_len m.items
         have hme : sizeM m = 1 + msize sizeB m.params + msize sizeP m.ports + msize sizeI m.items:=rfl
         unfold usesM
         simp at h1
         omega
       have GU:=hide (fun (w' : World) (cs : List Value) (hw : Ext w w') (hR : RM w B m cs) => rUses_any B m w' cs (hR.ext hw hB) (Nat.le_trans hB hw.size) (by omega))
       have FND:=hide (fun (w' : World) (hw : Ext w w') => rFind_any B f (orderF f)[j] w' _ (HS.out.extRM hw hB) (Nat.le_trans hB hw.size) (by omega))
       rw [hfm,Option.isSome_some,Option.getD_some] at FND
       have HXWR:=hide (HX5.out.trans HXR.out)
       obtain ⟨ti,hti,htz,hts,htb⟩:=info_parts infoT
       clear hin hfm hmf
       generalize (orderF f)[j] = s at *
       obtain ⟨Ws,hWs⟩ : ∃ Ws,Ws = wr.alloc (.cells #[.string s] 9):=⟨_,rfl⟩
       have hxs : Ext wr Ws:=by rw [hWs]; exact Ext.new _ _
       have hbz : wr.heap.size≤Ws.heap.size:=hxs.size
       have HOWNS:=hide (show Ws.ownsRow wr.heap.size 9 1 (.slice (some ⟨wr.heap.size,0,none⟩) 1 1) 1 [.string s] from by
         refine ⟨by simp,.inr ⟨wr.heap.size,1,#[.string s],rfl,Nat.le_refl _,?_,Nat.le_refl _,by decide,by simp,by simp⟩⟩
         rw [hWs]
         exact Blk.new _ _ [.string s])
       have HFL:=hide ((Flat.strs HVO.out).ext hxs)
       have HXS:=hide hxs
       have hVs:=hWs.symm
       have hc0:=hcells ⟨wr,Ext.refl _⟩
       clear hWs hxs
       go_wp2_with (first
         | (go_at_call 26; refine KA.out.mono ?_; rintro _ wr ⟨rfl,rfl⟩)
         | (at_builtin; refine wpList_append_flat rfl _ _ 38 rfl wr.heap.size 9 ti _ 1 16 Tryz.underlying38 hti htz hts htb rfl (by decide) (by decide) (.slice (some ⟨wr.heap.size,0,none⟩) 1 1) 1 [.string s] rfl HOWNS.out oa out.length oc (out.map .string) rfl HFL.out (by omega) (by omega) hbz ?_; intro v6 w6 hown6 hg6 hf6
            have hx6 : Ext wr w6:=HXS.out.grown hg6 (by intro r hr; simp [Value.ownBlock] at hr; omega)
            have HS6:=hide (show SStr w6 (s :: out) v6 from SStr.of_own hown6 (by simp; omega) rfl)
            obtain ⟨a6,c6,rfl⟩:=row_shape hown6
            have HX6:=hide hx6
            clear hown6 hg6 hf6 hx6 hVs))
       have HXW:=hide (HXWR.out.trans HX6.out)
       have c6':=cellL c2 HX6.out
       have hcells:=cellL hcells HX6.out
       have HX56:=hide (HXR.out.trans HX6.out)
       clear c2 hc0 HOWNS HFL HXS KA
       refine wp_region_facts_s (W:=w6) (finF w B w6 (.slice a f.length cap) (.slice (some ⟨bl,ol,none⟩) (orderF f).length vc) j ⟨bl,ol + j,none⟩ s m true) (finG w B w6 m) 10 9 13 (by kernel_rfl) (by kernel_rfl) (by kernel_rfl) (by decide) (by decide) ?_ (Ext.refl _) (fun i v w w' h hx => finF_ext h hx) (fun v w w' h hx => finG_ext h hx) ?_ ?_
       · simp [GuardsMet,finF]
       · refine ⟨?_,?_,?_,?_,?_,?_,?_,?_,?_,?_,?_,?_,trivial⟩
         · intro A wa hxa hd h0
           obtain ⟨ea,rfl⟩:=Later.mk_ex hxa
           have r2:=rest_at h0 2 (by kernel_rfl)
           simp at r2
           clear hd h0
           go_simp
           first | exact ⟨_,rfl,Ext.refl _,rfl⟩ | exact ⟨Ext.refl _,rfl⟩ | exact rfl | exact ⟨_,rfl,rfl⟩
         · intro A wa hxa hd h0
           obtain ⟨ea,rfl⟩:=Later.mk_ex hxa
           have r6:=rest_at h0 6 (by kernel_rfl)
           simp at r6
           clear hd h0
           go_simp
           first | exact ⟨_,rfl,Ext.refl _,rfl⟩ | exact ⟨Ext.refl _,rfl⟩ | exact rfl | exact ⟨_,rfl,rfl⟩
         · intro A wa hxa hd h0
           obtain ⟨ea,rfl⟩:=Later.mk_ex hxa
           have r12:=rest_at h0 12 (by kernel_rfl)
           simp at r12
           clear hd h0
           go_simp
           first | exact ⟨_,rfl,Ext.refl _,rfl⟩ | exact ⟨Ext.refl _,rfl⟩ | exact rfl | exact ⟨_,rfl,rfl⟩
         · intro A wa hxa hd h0
           obtain ⟨ea,rfl⟩:=Later.mk_ex hxa
           have q1:=depOn hd 1 58 (by kernel_rfl) rfl
           simp [finF] at q1
           have q2:=depOn hd 2 59 (by kernel_rfl) rfl
           simp [finF] at q2
           clear hd h0
           go_simp
           first | exact ⟨_,rfl,Ext.refl _,rfl⟩ | exact ⟨Ext.refl _,rfl⟩ | exact rfl | exact ⟨_,rfl,rfl⟩
         · intro A wa hxa hd h0
           obtain ⟨ea,rfl⟩:=Later.mk_ex hxa
           have q3:=depOn hd 3 60 (by kernel_rfl) rfl
           simp [finF] at q3
           clear hd h0
           go_simp
           first | exact ⟨_,rfl,Ext.refl _,rfl⟩ | exact ⟨Ext.refl _,rfl⟩ | exact rfl | exact ⟨_,rfl,rfl⟩
         · intro A wa hxa hd h0
           obtain ⟨ea,rfl⟩:=Later.mk_ex hxa
           have q0:=depOn hd 0 57 (by kernel_rfl) rfl
           simp [finF] at q0
           have q4:=depOn hd 4 61 (by kernel_rfl) rfl
           simp [finF] at q4
           clear hd h0
           go_simp
           refine (FND.out ea.w (HXW.out.trans ea.ext)).mono ?_
           rintro e w2 ⟨c0,c1,c2,c3,rfl,hR,hx⟩
           have hrm:=rm_back hR (HXW.out.trans (ea.ext.trans hx)) hB
           go_simp
           first | exact ⟨_,rfl,hx,_,_,_,_,rfl,hrm⟩ | exact ⟨hx,_,_,_,_,rfl,hrm⟩ | exact ⟨_,rfl,_,_,_,_,rfl,hrm⟩
         · intro A wa hxa hd h0
           obtain ⟨ea,rfl⟩:=Later.mk_ex hxa
           obtain ⟨c0,c1,c2,c3,q5,hrm⟩:=depOn hd 5 62 (by kernel_rfl) rfl
           simp at q5
           clear hd h0
           have HR:=hide hrm
           clear hrm
           go_simp
           first | exact ⟨_,rfl,Ext.refl _,_,_,_,_,rfl,HR.out⟩ | exact ⟨Ext.refl _,_,_,_,_,rfl,HR.out⟩ | exact ⟨_,_,_,_,rfl,HR.out⟩
         · intro A wa hxa hd h0
           obtain ⟨ea,rfl⟩:=Later.mk_ex hxa
           obtain ⟨c0,c1,c2,c3,q6,hrm⟩:=depOn hd 6 56 (by kernel_rfl) rfl
           simp at q6
           clear hd h0
           have HR:=hide hrm
           clear hrm
           go_simp
           first | exact ⟨_,rfl,Ext.refl _,_,_,_,_,rfl,HR.out⟩ | exact ⟨Ext.refl _,_,_,_,_,rfl,HR.out⟩ | exact ⟨_,_,_,_,rfl,HR.out⟩
         · intro A wa hxa hd h0
           obtain ⟨ea,rfl⟩:=Later.mk_ex hxa
           obtain ⟨c0,c1,c2,c3,q6,hrm⟩:=depOn hd 6 56 (by kernel_rfl) rfl
           simp at q6
           clear hd h0
           go_simp
           first | exact ⟨_,rfl,Ext.refl _,rfl⟩ | exact ⟨Ext.refl _,rfl⟩ | exact rfl | exact ⟨_,rfl,rfl⟩
         · intro A wa hxa hd h0
           obtain ⟨ea,rfl⟩:=Later.mk_ex hxa
           clear hd h0
           obtain ⟨W4,hW4,hx4,hb4⟩:=box4 ea.w (.string ⟨#[]⟩) (.slice none 0 0) (.slice none 0 0) (.slice none 0 0) 33
           have hV4:=hW4.symm
           have HG:=hide (And.intro hx4 hb4)
           have HZ:=hide ea.ext.size
           clear hW4 hx4 hb4
           go_simp
           exact ⟨_,rfl,HG.out.1,_,_,_,_,_,rfl,HZ.out,HG.out.2⟩
         · intro A wa hxa hd h0
           obtain ⟨ea,rfl⟩:=Later.mk_ex hxa
           obtain ⟨g,d0,d1,d2,d3,q9,hge,hbk⟩:=depOn hd 9 13 (by kernel_rfl) rfl
           simp at q9
           obtain ⟨c0,c1,c2,c3,q7,hrm⟩:=depOn hd 7 63 (by kernel_rfl) rfl
           simp at q7
           clear hd h0
           obtain ⟨z0,z1,z2,z3⟩:=hbk.get4
           obtain ⟨f0,f1,f2,f3⟩:=hbk.free4
           have hrm':=hrm
           obtain ⟨v1',v2',v3',hcs,hp1,hq1,hi1⟩:=hrm'
           simp only [List.cons.injEq,and_true] at hcs
           obtain ⟨rfl,rfl,rfl,rfl⟩:=hcs
           have o1:=hp1.oneCell
           have o2:=hq1.oneCell
           have o3:=hi1.oneCell
           clear hp1 hq1 hi1
           have HG:=hide (And.intro hge (And.intro hbk hrm))
           clear hge hbk hrm
           go_simp
           exact ⟨ext_store4 ea.ext HG.out.1 _ _ _ _,fun j u h => finF_store _ _ _ _ h,_,_,_,_,_,rfl,HG.out.1,HG.out.2.1.store4 _ _ _ _,HG.out.2.2⟩
         · intro A wa hxa hd h0
           obtain ⟨ea,rfl⟩:=Later.mk_ex hxa
           have q8:=depOn hd 8 64 (by kernel_rfl) rfl
           simp [finF] at q8
           clear hd h0
           go_simp
           first | exact ⟨_,rfl,Ext.refl _,rfl⟩ | exact ⟨Ext.refl _,rfl⟩ | exact rfl | exact ⟨_,rfl,rfl⟩
       intro A wa hk hG
       obtain ⟨hxa,hsz,hdf,hdn,hrs⟩:=hk
       obtain ⟨ea,rfl⟩:=Later.mk_ex hxa
       obtain ⟨g,c0,c1,c2,c3,k13,hge,hbk,hrm⟩:=hG
       have k14:=hdn 11 14 rfl rfl
       simp [finF] at k14
       have k0:=rest_at hrs 0 (by kernel_rfl)
       simp at k0
       have k1:=rest_at hrs 1 (by kernel_rfl)
       simp at k1
       have k2:=rest_at hrs 2 (by kernel_rfl)
       simp at k2
       have k3:=rest_at hrs 3 (by kernel_rfl)
       simp at k3
       have k4:=rest_at hrs 4 (by kernel_rfl)
       simp at k4
       have k5:=rest_at hrs 5 (by kernel_rfl)
       simp at k5
       have k6:=rest_at hrs 6 (by kernel_rfl)
       simp at k6
       have k7:=rest_at hrs 7 (by kernel_rfl)
       simp at k7
       have k8:=rest_at hrs 8 (by kernel_rfl)
       simp at k8
       have k9:=rest_at hrs 9 (by kernel_rfl)
       simp at k9
       have k10:=rest_at hrs 10 (by kernel_rfl)
       simp at k10
       have k11:=rest_at hrs 11 (by kernel_rfl)
       simp at k11
       have k12:=rest_at hrs 12 (by kernel_rfl)
       simp at k12
       have k17:=rest_at hrs 17 (by kernel_rfl)
       simp at k17
       have k18:=rest_at hrs 18 (by kernel_rfl)
       simp at k18
       have k19:=rest_at hrs 19 (by kernel_rfl)
       simp at k19
       have k20:=rest_at hrs 20 (by kernel_rfl)
       simp at k20
       have k21:=rest_at hrs 21 (by kernel_rfl)
       simp at k21
       have k22:=rest_at hrs 22 (by kernel_rfl)
       simp at k22
       have k23:=rest_at hrs 23 (by kernel_rfl)
       simp at k23
       have k24:=rest_at hrs 24 (by kernel_rfl)
       simp at k24
       have k25:=rest_at hrs 25 (by kernel_rfl)
       simp at k25
       have k26:=rest_at hrs 26 (by kernel_rfl)
       simp at k26
       have k27:=rest_at hrs 27 (by kernel_rfl)
       simp at k27
       have k28:=rest_at hrs 28 (by kernel_rfl)
       simp at k28
       have k29:=rest_at hrs 29 (by kernel_rfl)
       simp at k29
       have k30:=rest_at hrs 30 (by kernel_rfl)
       simp at k30
       have k31:=rest_at hrs 31 (by kernel_rfl)
       simp at k31
       have k32:=rest_at hrs 32 (by kernel_rfl)
       simp at k32
       have k33:=rest_at hrs 33 (by kernel_rfl)
       simp at k33
       have k34:=rest_at hrs 34 (by kernel_rfl)
       simp at k34
       have k35:=rest_at hrs 35 (by kernel_rfl)
       simp at k35
       have k36:=rest_at hrs 36 (by kernel_rfl)
       simp at k36
       have k37:=rest_at hrs 37 (by kernel_rfl)
       simp at k37
       have k79:=rest_at hrs 79 (by kernel_rfl)
       simp at k79
       clear hdn hrs
       rw [act_lit hsz hdf]
       simp [List.range,List.range.loop] at k13 k14 k0 k1 k2 k3 k4 k5 k6 k7 k8 k9 k10 k11 k12 k17 k18 k19 k20 k21 k22 k23 k24 k25 k26 k27 k28 k29 k30 k31 k32 k33 k34 k35 k36 k37 k79
       simp [List.range,List.range.loop,k13,k14,k0,k1,k2,k3,k4,k5,k6,k7,k8,k9,k10,k11,k12,k17,k18,k19,k20,k21,k22,k23,k24,k25,k26,k27,k28,k29,k30,k31,k32,k33,k34,k35,k36,k37,k79]
       clear k13 k14 k0 k1 k2 k3 k4 k5 k6 k7 k8 k9 k10 k11 k12 k17 k18 k19 k20 k21 k22 k23 k24 k25 k26 k27 k28 k29 k30 k31 k32 k33 k34 k35 k36 k37 k79 hsz hdf
       generalize A.tmps[15]?.getD undef = A15 at *
       generalize A.tmps[16]?.getD undef = A16 at *
       generalize A.tmps[38]?.getD undef = A38 at *
       generalize A.tmps[39]?.getD undef = A39 at *
       generalize A.tmps[40]?.getD undef = A40 at *
       generalize A.tmps[41]?.getD undef = A41 at *
       generalize A.tmps[42]?.getD undef = A42 at *
       generalize A.tmps[43]?.getD undef = A43 at *
       generalize A.tmps[44]?.getD undef = A44 at *
       generalize A.tmps[45]?.getD undef = A45 at *
       generalize A.tmps[46]?.getD undef = A46 at *
       generalize A.tmps[47]?.getD undef = A47 at *
       generalize A.tmps[48]?.getD undef = A48 at *
       generalize A.tmps[49]?.getD undef = A49 at *
       generalize A.tmps[50]?.getD undef = A50 at *
       generalize A.tmps[51]?.getD undef = A51 at *
       generalize A.tmps[52]?.getD undef = A52 at *
       generalize A.tmps[53]?.getD undef = A53 at *
       generalize A.tmps[54]?.getD undef = A54 at *
       generalize A.tmps[55]?.getD undef = A55 at *
       generalize A.tmps[56]?.getD undef = A56 at *
       generalize A.tmps[57]?.getD undef = A57 at *
       generalize A.tmps[58]?.getD undef = A58 at *
       generalize A.tmps[59]?.getD undef = A59 at *
       generalize A.tmps[60]?.getD undef = A60 at *
       generalize A.tmps[61]?.getD undef = A61 at *
       generalize A.tmps[62]?.getD undef = A62 at *
       generalize A.tmps[63]?.getD undef = A63 at *
       generalize A.tmps[64]?.getD undef = A64 at *
       generalize A.tmps[65]?.getD undef = A65 at *
       generalize A.tmps[66]?.getD undef = A66 at *
       generalize A.tmps[67]?.getD undef = A67 at *
       generalize A.tmps[68]?.getD undef = A68 at *
       generalize A.tmps[69]?.getD undef = A69 at *
       generalize A.tmps[70]?.getD undef = A70 at *
       generalize A.tmps[71]?.getD undef = A71 at *
       generalize A.tmps[72]?.getD undef = A72 at *
       generalize A.tmps[73]?.getD undef = A73 at *
       generalize A.tmps[74]?.getD undef = A74 at *
       generalize A.tmps[75]?.getD undef = A75 at *
       generalize A.tmps[76]?.getD undef = A76 at *
       generalize A.tmps[77]?.getD undef = A77 at *
       generalize A.tmps[78]?.getD undef = A78 at *
       have HBK:=hide (And.intro hbk (And.intro hrm hge))
       have HXE:=hide (HXW.out.trans ea.ext)
       obtain ⟨d0,d1,d2,d3⟩:=hbk.get4
       have KU:=hide (GU.out ea.w [c0,c1,c2,c3] HXE.out hrm)
       have HX5E:=hide (HX56.out.trans ea.ext)
       clear hbk hrm hge GU c6' hcells
       go_wp2_with fail
       go_at_call 17
       refine KU.out.mono ?_
       rintro _ w7 ⟨u7,rfl,hs7,hx7⟩
       have HXU:=hide hs7
       obtain ⟨ua,uc,rfl,-,hru⟩:=hs7
       have HRU:=hide hru
       have HX57:=hide (HX5E.out.trans hx7)
       have HS7:=hide (HS6.out.ext (ea.ext.trans hx7))
       have HVI7:=hide (HVI.out.ext (HX6.out.trans (ea.ext.trans hx7)))
       clear hru hx7 KU d0 d1 d2 d3
       obtain ⟨U,hUe⟩ : ∃ U,usesM m = U:=⟨_,rfl⟩
       rw [hUe] at NXT hul hul2 HRU HXU
       simp only [hUe]
       clear hUe
       go_wp2_with fail
       go_loopw [10,16] (fun vi q wr => ∃ n : Nat,n≤U.length∧q = .int .i64 n∧SStr wr (addAll inn (U.take n)) vi∧Ext w7 wr) (fun _ q _ => U.length - (intOf q).toNat)
       case atStart => exact ⟨0,Nat.zero_le _,rfl,HVI7.out,Ext.refl _⟩
       case round =>
         obtain ⟨n,hn,rfl,hvq,hxq⟩:=hrel
         have HVQ:=hide hvq
         have HXQ:=hide hxq
         obtain ⟨qa,qc,rfl,-,-⟩:=hvq
         by_cases hnl : n < U.length
         · obtain ⟨bu,ou,rfl,hcu⟩:=HRU.out n hnl
           have hcu:=hxq.at_ hcu
           have hle:=addAll_le (U.take n) inn
           rw [List.length_take] at hle
           have KM:=hide (rmore_any (addAll inn (U.take n)) U[n] wr _ HVQ.out (by omega))
           have hst : addOne (addAll inn (U.take n)) U[n] = addAll inn (U.take (n + 1)):=by rw [List.take_succ_eq_append_getElem hnl,addAll_append]; rfl
           rw [hst] at KM
           clear hst hxq hle
           generalize U[n] = s2 at *
           go_wp2_with fail
           go_at_call 53
           refine KM.out.mono ?_
           rintro _ w8 ⟨v8,rfl,hs8,hx8⟩
           have H8:=hide (And.intro hs8 (HXQ.out.trans hx8))
           obtain ⟨a8,c8,rfl,-,-⟩:=hs8
           clear hx8 hcu
           go_wp2_with fail
           go_roundw
           case rel => exact ⟨n + 1,by omega,by go_num,H8.out.1,H8.out.2⟩
           case measure => simp [intOf] <;> omega
         · have hnl2 : n = U.length:=by omega
           subst hnl2
           have HXZ:=hide (HX57.out.trans HXQ.out)
           have HS9:=hide (HS7.out.ext HXQ.out)
           have hle:=addAll_le U inn
           have hlen9 : (addAll inn U).length≤1 + ((orderF f).length - j) * 10000:=lin_le2 hil hlt (by omega) hle
           rw [List.take_length] at HVQ
           clear hxq hle
           go_wp2_with fail
           go_roundw
           case rel => exact ⟨j,addAll inn U,s :: out,by omega,by go_num,NXT.out,hlen9,by simp; omega,by first | exact HVQ.out | simpa using HVQ.out,by first | exact HS9.out | simpa using HS9.out,HXZ.out⟩
           case measure => simp [intOf] <;> omega
end Go.Proofs.YtjoglnjpgkobeaaGreatDoor
