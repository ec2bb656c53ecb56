import Derived.Test.YtjoglnjpgkobeaaGreatDoorProg
import Derived.Test.YtjoglnjpgkobeaaGreatDoorS29
import Derived.Test.YtjoglnjpgkobeaaGreatDoorS3
import Derived.Test.YtjoglnjpgkobeaaGreatDoorS18
import Derived.Test.YtjoglnjpgkobeaaGreatDoorS11
set_option linter.all false
set_option linter.unusedVariables false
set_option linter.unusedSimpArgs false
namespace Go.Proofs.YtjoglnjpgkobeaaGreatDoor
open Go Go.RowKit
attribute [local go_sem] run_store_one
def callF (C : Nat) (nn : List ByteArray) (okn : Bool) (vals : List Value) (i : Nat) (v : Value) (w : World) : Prop := if i = C then ∃ v', v = .agg #[v', .bool okn] ∧ SStr w nn v' else v = vals.getD i undef
theorem callF_ext {C : Nat} {nn : List ByteArray} {okn : Bool} {vals : List Value} {i : Nat} {v : Value} {w w' : World} (h : callF C nn okn vals i v w) (hx : Ext w w') : callF C nn okn vals i v w' := by
 unfold callF at h ⊢
 by_cases hi : i = C
 · rw [if_pos hi] at h ⊢
   obtain ⟨v', h1, h2⟩ := h
   exact ⟨v', h1, h2.ext hx⟩
 · rw [if_neg hi] at h ⊢
   exact h
def RToldOk (B : Nat) (l : List Itm) : Prop := ∀ (w : World) (v : Value), Sl (RI w B) w B 9 l v → B ≤ w.heap.size →
 Calls Tryz.prog 116 #[v] w fun e w' => ∃ v', e = .returned (.agg #[v', .bool (yes (tokL l))]) ∧ SStr w' (tnIs l) v' ∧ Ext w w'
theorem yes_bool {p q : Prop} (h : p ↔ q) : yes p = yes q := by
 by_cases hp : p
 · rw [yes_iff.2 hp, yes_iff.2 (h.1 hp)]
 · rw [yes_no.2 hp, yes_no.2 (fun hq => hp (h.2 hq))]
theorem yes_and_not {p q : Prop} : (yes p && !yes q) = yes (p ∧ ¬ q) := by
 by_cases hp : p <;> by_cases hq : q
 · rw [yes_iff.2 hp, yes_iff.2 hq, yes_no.2 (show ¬ (p ∧ ¬ q) from fun h => h.2 hq)]; rfl
 · rw [yes_iff.2 hp, yes_no.2 hq, yes_iff.2 (show p ∧ ¬ q from ⟨hp, hq⟩)]; rfl
 · rw [yes_no.2 hp, yes_no.2 (show ¬ (p ∧ ¬ q) from fun h => hp h.1)]; rfl
 · rw [yes_no.2 hp, yes_no.2 (show ¬ (p ∧ ¬ q) from fun h => hp h.1)]; rfl
set_option maxRecDepth 20000 in
set_option maxHeartbeats 16000000 in
theorem rtold_step (B : Nat) (l : List Itm) (hln : msize sizeI l ≤ 100000000) (IH : ∀ x, x ∈ l → RToldOk B x.l ∧ RToldOk B x.els) : RToldOk B l := by
 intro w v hS hB
 have hll := length_le_msize sizeI l sizeI_pos
 have htl := tns_len l
 have HIH := hide IH
 obtain ⟨a, cap, rfl, hcap, hrow⟩ := hS
 obtain ⟨W1, hW1, hx1, hb1⟩ := box2 w (.slice none 0 0) (.bool false) 101
 have hV1 := hW1.symm
 have hz1 : W1.heap.size = w.heap.size + 1 := by rw [hW1]; simp
 obtain ⟨Wb, W3, hVb, ⟨p0, p1⟩, ⟨q0, q1⟩, hVc, hb3, hx3⟩ := varScp W1 (.slice none 0 0) (.bool true)
 have hyes : yes (tokL []) = true := yes_iff.2 ⟨trivial, by simp [tnIs]⟩
 have HT0 := hide (show ToldI w (tnIs (l.take 0)) (yes (tokL (l.take 0))) W3 from by
   rw [List.take_zero, hyes]
   refine ⟨hx1.trans hx3, hb1.ext hx3, .slice none 0 0, ?_, none, 0, rfl, Nat.le_refl _, fun k hk => by cases hk⟩
   rw [← hz1]; exact hb3)
 rw [hz1] at p0 p1 q0 q1 hVc
 have hz1' := hz1
 clear IH hW1 hx1 hb1 hb3 hx3 hyes hcap
 go_enter Tryz.func116, Tryz.ntmps116
 go_wp2_with fail
 clear hV1 hVb hVc p0 p1 q0 q1 hz1 hz1'
 go_loopw [4] (fun i wr => ∃ k : Nat, k ≤ l.length ∧ i = .int .i64 k ∧ ToldI w (tnIs (l.take k)) (yes (tokL (l.take k))) wr) (fun i _ => l.length - (intOf i).toNat)
 case atStart => exact ⟨0, Nat.zero_le _, rfl, HT0.out⟩
 case round =>
   obtain ⟨k, hk, rfl, hti⟩ := hrel
   have HTI := hide hti
   have hx := hti.ext
   have hle := msize_take_le sizeI l k
   have htk := tns_len (l.take k)
   clear hti HT0
   by_cases hlt : k < l.length
   · have hs2 := msize_mem sizeI l l[k] (List.getElem_mem hlt)
     have hsu := msize_take_succ sizeI l k hlt
     have hs1 := msize_take_le sizeI l (k + 1)
     have htake : l.take (k + 1) = l.take k ++ [l[k]] := List.take_succ_eq_append_getElem hlt
     have HTK := hide htake
     have IHk := hide (HIH.out l[k] (List.getElem_mem hlt))
     obtain ⟨b, o, v0, v1, v2, v3, v4, v5, v6, v7, v8, rfl, hbB, hE, hC, o0, o1, o2, o3, o4, o5, o6, o7, o8⟩ := hrow.open9 hlt
     generalize l[k] = x at *
     obtain ⟨_, _, _, _, _, _, he, hX, hSS, hL, hE', hP, hBb⟩ := RI_iff.1 hE
     simp only [List.cons.injEq, and_true] at he
     obtain ⟨rfl, rfl, rfl, rfl, rfl, rfl, rfl, rfl, rfl⟩ := he
     obtain ⟨d0, d1, d2, d3, d4, d5, d6, d7, d8⟩ := (hC.ext hx).get9
     obtain ⟨Wb, Wc, hVb, ⟨p0, p1, p2, p3, p4, p5, p6, p7, p8⟩, ⟨q0, q1, q2, q3, q4, q5, q6, q7, q8⟩, hVc, hbc, hxc, -⟩ := varI wr (.int .i64 x.op) (.string x.name) (.string x.of) v3 v4 v5 v6 v7 v8
     have hdef := sizeI_eq x
     have hB' : B ≤ wr.heap.size := Nat.le_trans hB hx.size
     have hBc : B ≤ Wc.heap.size := Nat.le_trans hB' hxc.size
     have HL := hide (fun (w' : World) (hw : Ext Wc w') => hL.extRI (hx.trans (hxc.trans hw)) hB)
     have HE := hide (fun (w' : World) (hw : Ext Wc w') => hE'.extRI (hx.trans (hxc.trans hw)) hB)
     have HTC := hide (HTI.out.later hxc)
     have HBC := hide hbc
     have t1 := tns_len x.l
     have t2 := tns_len x.els
     have hlen : (tnIs (l.take k)).length + (tnIs x.l).length + (tnIs x.els).length ≤ 100000000 := by omega
     obtain ⟨vs, hbs, hss⟩ := HTC.out.scp
     obtain ⟨s0, s1⟩ := hbs.get2
     obtain ⟨f0, f1⟩ := hbs.free2
     obtain ⟨x0, x1, x2, x3, x4, x5, x6, x7, x8⟩ := hbc.get9
     have HSS := hide hss
     have ovs : vs.oneCell' = true := by obtain ⟨a, c, rfl, -⟩ := hss; rfl
     clear hrow hE hC hX hSS hL hE' hP hBb hdef hs2 hsu hs1 hle htk hx hxc hbc hbs hss HTI htake
     by_cases hd : isDecl x.op
     · have HTN := hide (tn_decl (l := l.take k) hd)
       have HOK := hide (yes_bool (tokL_decl (l := l.take k) hd))
       have HM := hide (rtell_any (tnIs (l.take k)) (yes (tokL (l.take k))) x.name Wc vs HSS.out (by omega))
       rw [yes_and_not, ← HOK.out] at HM
       have hops : x.op = 1 ∨ x.op = 2 ∨ x.op = 3 ∨ x.op = 7 ∨ x.op = 10 ∨ x.op = 9 := hd
       have HREL := hide (show ∀ (Y : World) (v' : Value), Ext Wc Y → SStr Y (tnIs (l.take k) ++ [x.name]) v' → ToldI w (tnIs (l.take (k + 1))) (yes (tokL (l.take (k + 1)))) ((Y.setCell ⟨w.heap.size + 1, 0, none⟩ v').setCell ⟨w.heap.size + 1, 1, none⟩ (.bool (yes (tokL (l.take k ++ [x]))))) from fun Y v' hY hs => by
         rw [HTK.out, HTN.out]
         exact (HTC.out.later hY).store hs)
       clear hd HOK HTN HTK HL HE IHk HIH
       generalize yes (tokL (l.take k ++ [x])) = okn at *
       generalize yes (tokL (l.take k)) = okk at *
       rcases hops with h | h | h | h | h | h
       all_goals
         rw [h] at x0 d0 hVc
         clear h
         go_wp2_with fail
         go_at_call 117
         refine HM.out.mono ?_
         rintro _ w2 ⟨v', rfl, hs2, hx2⟩
         obtain ⟨vs2, hb2, -⟩ := (HTC.out.later hx2).scp
         obtain ⟨y0, y1⟩ := hb2.get2
         obtain ⟨z0, z1⟩ := hb2.free2
         have HY := hide (HREL.out w2 v' hx2 hs2)
         have ov' : v'.oneCell' = true := by obtain ⟨a, c, rfl, -⟩ := hs2; rfl
         clear hs2 hx2 hb2 hVb hVc p0 p1 p2 p3 p4 p5 p6 p7 p8 q0 q1 q2 q3 q4 q5 q6 q7 q8 d0 d1 d2 d3 d4 d5 d6 d7 d8 x0 x1 x2 x3 x4 x5 x6 x7 x8 s0 s1 f0 f1
         go_wp2_with fail
         go_roundw
         case rel => exact ⟨k + 1, by omega, by go_num, HY.out⟩
         case measure => simp [intOf]; omega
     · have hno : ((x.op == 1) = false ∧ (x.op == 2) = false ∧ (x.op == 3) = false) ∧ (x.op == 7) = false ∧ (x.op == 10) = false ∧ (x.op == 9) = false := by
         unfold isDecl at hd
         refine ⟨⟨?_, ?_, ?_⟩, ?_, ?_, ?_⟩ <;> (refine beq_eq_false_iff_ne.2 ?_; omega)
       obtain ⟨⟨n1, n2, n3⟩, n4, n5, n6⟩ := hno
       by_cases h8 : x.op = 8
       · have HTN := hide (tn_if (l := l.take k) h8)
         have HEND := hide (yes_bool (tokJ_end (l := l.take k) h8))
         rw [h8] at x0 d0 hVc
         clear hd h8 HIH n1 n2 n3 n4 n5 n6
         go_wp2_with fail
         clear hVb hVc p0 p1 p2 p3 p4 p5 p6 p7 p8 q0 q1 q2 q3 q4 q5 q6 q7 q8 d0 d1 d2 d3 d4 d5 d6 d7 d8 x0 x1 x2 x3 x4 x5 x6 x7 x8 s0 s1 f0 f1
         obtain ⟨x0, x1, x2, x3, x4, x5, x6, x7, x8⟩ := HBC.out.later9
         refine wp_region_facts_j (W := Wc) (twoF wr.heap.size v5 v6 (yes (tokL x.l)) (yes (tokL x.els)) (tnIs x.l) (tnIs x.els)) (twoJ Wc.heap.size (yes (tokL x.l)) (yes (tokL x.els)) (tnIs x.l) (tnIs x.els)) (by kernel_rfl) (by kernel_rfl) ?_ (Ext.refl _) ⟨fun h => (by cases h), fun h => (by cases h), fun h => (by cases h), fun h => (by cases h), fun h => (by cases h)⟩ ?_ ?_
         · simp [GuardsMet, twoF]
         · refine ⟨?_, ?_, ?_, ?_, ?_, ?_, ?_, ?_, ?_, ?_, trivial⟩
           · refine StepJ.plain (S := [6, 7, 8, 9]) (T := [6, 7]) (twoJ_looks Wc.heap.size (yes (tokL x.l)) (yes (tokL x.els)) (tnIs x.l) (tnIs x.els)) (fun i v w w' h hx => twoF_ext h hx) (by decide) (by decide) ?_
             intro A wa hxa hd h0
             obtain ⟨ea, rfl⟩ := Later.mk_ex hxa
             have r5 := rest_at h0 5 (by kernel_rfl)
             simp at r5
             clear hd h0
             go_simp
             first | exact ⟨_, rfl, Ext.refl _, rfl⟩ | exact ⟨Ext.refl _, rfl⟩ | exact rfl | exact ⟨_, rfl, rfl⟩
           · refine StepJ.plain (S := [6, 7, 8, 9]) (T := [6, 7]) (twoJ_looks Wc.heap.size (yes (tokL x.l)) (yes (tokL x.els)) (tnIs x.l) (tnIs x.els)) (fun i v w w' h hx => twoF_ext h hx) (by decide) (by decide) ?_
             intro A wa hxa hd h0
             obtain ⟨ea, rfl⟩ := Later.mk_ex hxa
             have q0 := depOn hd 0 37 (by kernel_rfl) rfl
             simp [twoF] at q0
             clear hd h0
             go_simp
             first | exact ⟨_, rfl, Ext.refl _, rfl⟩ | exact ⟨Ext.refl _, rfl⟩ | exact rfl | exact ⟨_, rfl, rfl⟩
           · refine StepJ.plain (S := [6, 7, 8, 9]) (T := [6, 7]) (twoJ_looks Wc.heap.size (yes (tokL x.l)) (yes (tokL x.els)) (tnIs x.l) (tnIs x.els)) (fun i v w w' h hx => twoF_ext h hx) (by decide) (by decide) ?_
             intro A wa hxa hd h0
             obtain ⟨ea, rfl⟩ := Later.mk_ex hxa
             have q1 := depOn hd 1 38 (by kernel_rfl) rfl
             simp [twoF] at q1
             clear hd h0
             go_simp
             refine ((IHk.out.1) ea.w _ (HL.out _ ea.ext) (Nat.le_trans hBc ea.ext.size)).mono ?_
             rintro e w2 ⟨u, rfl, hu, hx⟩
             go_simp
             first | exact ⟨_, rfl, hx, u, rfl, hu⟩ | exact ⟨hx, u, rfl, hu⟩ | exact ⟨_, rfl, u, rfl, hu⟩
           · refine StepJ.plain (S := [6, 7, 8, 9]) (T := [6, 7]) (twoJ_looks Wc.heap.size (yes (tokL x.l)) (yes (tokL x.els)) (tnIs x.l) (tnIs x.els)) (fun i v w w' h hx => twoF_ext h hx) (by decide) (by decide) ?_
             intro A wa hxa hd h0
             obtain ⟨ea, rfl⟩ := Later.mk_ex hxa
             have r5 := rest_at h0 5 (by kernel_rfl)
             simp at r5
             clear hd h0
             go_simp
             first | exact ⟨_, rfl, Ext.refl _, rfl⟩ | exact ⟨Ext.refl _, rfl⟩ | exact rfl | exact ⟨_, rfl, rfl⟩
           · refine StepJ.plain (S := [6, 7, 8, 9]) (T := [6, 7]) (twoJ_looks Wc.heap.size (yes (tokL x.l)) (yes (tokL x.els)) (tnIs x.l) (tnIs x.els)) (fun i v w w' h hx => twoF_ext h hx) (by decide) (by decide) ?_
             intro A wa hxa hd h0
             obtain ⟨ea, rfl⟩ := Later.mk_ex hxa
             have q3 := depOn hd 3 40 (by kernel_rfl) rfl
             simp [twoF] at q3
             clear hd h0
             go_simp
             first | exact ⟨_, rfl, Ext.refl _, rfl⟩ | exact ⟨Ext.refl _, rfl⟩ | exact rfl | exact ⟨_, rfl, rfl⟩
           · refine StepJ.plain (S := [6, 7, 8, 9]) (T := [6, 7]) (twoJ_looks Wc.heap.size (yes (tokL x.l)) (yes (tokL x.els)) (tnIs x.l) (tnIs x.els)) (fun i v w w' h hx => twoF_ext h hx) (by decide) (by decide) ?_
             intro A wa hxa hd h0
             obtain ⟨ea, rfl⟩ := Later.mk_ex hxa
             have q4 := depOn hd 4 41 (by kernel_rfl) rfl
             simp [twoF] at q4
             clear hd h0
             go_simp
             refine ((IHk.out.2) ea.w _ (HE.out _ ea.ext) (Nat.le_trans hBc ea.ext.size)).mono ?_
             rintro e w2 ⟨u, rfl, hu, hx⟩
             go_simp
             first | exact ⟨_, rfl, hx, u, rfl, hu⟩ | exact ⟨hx, u, rfl, hu⟩ | exact ⟨_, rfl, u, rfl, hu⟩
           · intro L A wa hxa hli haf hsz hd h0 hJ
             obtain ⟨ea, rfl⟩ := Later.mk_ex hxa
             have HJ := hide (twoJ_alloc6 (by rw [hsz]; show (6 : Nat) < 83; decide) hli ea.ext.size hJ)
             obtain ⟨W7, hW7⟩ : ∃ W7, W7 = ea.w.alloc (.cells #[.slice none 0 0, .bool false] 101) := ⟨_, rfl⟩
             have hV7 := hW7.symm
             rw [hV7] at HJ
             have HX7 := hide (show Ext ea.w W7 from by rw [hW7]; exact Ext.new _ _)
             clear hW7 hd h0 hJ haf hli hsz
             go_simp
             first | exact ⟨_, rfl, ea.ext.trans HX7.out, fun j u h => twoF_ext h HX7.out, ⟨_, rfl⟩, HJ.out⟩ | (trace_state; fail)
           · intro L A wa hxa hli haf hsz hd h0 hJ
             obtain ⟨ea, rfl⟩ := Later.mk_ex hxa
             have HJ := hide (twoJ_alloc7 (by rw [hsz]; show (7 : Nat) < 83; decide) hli ea.ext.size hJ)
             obtain ⟨W7, hW7⟩ : ∃ W7, W7 = ea.w.alloc (.cells #[.slice none 0 0, .bool false] 101) := ⟨_, rfl⟩
             have hV7 := hW7.symm
             rw [hV7] at HJ
             have HX7 := hide (show Ext ea.w W7 from by rw [hW7]; exact Ext.new _ _)
             clear hW7 hd h0 hJ haf hli hsz
             go_simp
             first | exact ⟨_, rfl, ea.ext.trans HX7.out, fun j u h => twoF_ext h HX7.out, ⟨_, rfl⟩, HJ.out⟩ | (trace_state; fail)
           · intro L A wa hxa hli haf hsz hd h0 hJ
             obtain ⟨ea, rfl⟩ := Later.mk_ex hxa
             obtain ⟨u, q2, hu⟩ := depOn hd 2 39 (by kernel_rfl) rfl
             simp at q2
             have hk := haf_on haf 6 (by kernel_rfl)
             obtain ⟨g, c0, c1, hg, hge, hbk, hc0, -⟩ := hJ.2.2.1 hk
             obtain ⟨z0, z1⟩ := hbk.get2
             obtain ⟨f0, f1⟩ := hbk.free2
             have HJ := hide (twoJ_store8 hg hk hu hJ)
             have ou : u.oneCell' = true := by obtain ⟨a, c, rfl, -⟩ := hu; rfl
             have HF := hide (fun (l : List ByteArray) (y : Value) (hs : SStr ea.w l y) => hs.scp (u := u) (b' := (yes (tokL x.l))) hbk hc0 hu.no)
             have HX := hide ((ea.ext.setCell (p := ⟨g, 0, none⟩) hge u).setCell (p := ⟨g, 1, none⟩) hge (.bool (yes (tokL x.l))))
             unfold tau at hg
             simp at hg
             clear hd h0 hJ haf hli hsz hbk hu
             go_simp
             first | exact ⟨HX.out, fun j v h => twoF_imp HF.out h, ⟨undef, trivial⟩, HJ.out⟩ | exact ⟨_, rfl, HX.out, fun j v h => twoF_imp HF.out h, trivial, HJ.out⟩ | (trace_state; fail)
           · intro L A wa hxa hli haf hsz hd h0 hJ
             obtain ⟨ea, rfl⟩ := Later.mk_ex hxa
             obtain ⟨u, q5, hu⟩ := depOn hd 5 42 (by kernel_rfl) rfl
             simp at q5
             have hk := haf_on haf 7 (by kernel_rfl)
             obtain ⟨g, c0, c1, hg, hge, hbk, hc0, -⟩ := hJ.2.2.2.1 hk
             obtain ⟨z0, z1⟩ := hbk.get2
             obtain ⟨f0, f1⟩ := hbk.free2
             have HJ := hide (twoJ_store9 hg hk hu hJ)
             have ou : u.oneCell' = true := by obtain ⟨a, c, rfl, -⟩ := hu; rfl
             have HF := hide (fun (l : List ByteArray) (y : Value) (hs : SStr ea.w l y) => hs.scp (u := u) (b' := (yes (tokL x.els))) hbk hc0 hu.no)
             have HX := hide ((ea.ext.setCell (p := ⟨g, 0, none⟩) hge u).setCell (p := ⟨g, 1, none⟩) hge (.bool (yes (tokL x.els))))
             unfold tau at hg
             simp at hg
             clear hd h0 hJ haf hli hsz hbk hu
             go_simp
             first | exact ⟨HX.out, fun j v h => twoF_imp HF.out h, ⟨undef, trivial⟩, HJ.out⟩ | exact ⟨_, rfl, HX.out, fun j v h => twoF_imp HF.out h, trivial, HJ.out⟩ | (trace_state; fail)
         intro A wa hk hJ
         obtain ⟨hxa, hsz, hdf, hdn, hrs⟩ := hk
         obtain ⟨ea, rfl⟩ := Later.mk_ex hxa
         obtain ⟨ga, va, ba, k6, hga, hba, hna, hsa⟩ := hJ.2.2.1 rfl
         obtain ⟨gb, vb, bb, k7, hgb, hbb, hnb, hsb⟩ := hJ.2.2.2.1 rfl
         obtain ⟨hca, hsA⟩ := hsa rfl
         subst hca
         obtain ⟨hcb, hsB⟩ := hsb rfl
         subst hcb
         clear hsa hsb
         unfold tau at k6 k7
         simp at k6 k7
         have k0 := rest_at hrs 0 (by kernel_rfl)
         simp at k0
         have k1 := rest_at hrs 1 (by kernel_rfl)
         simp at k1
         have k2 := rest_at hrs 2 (by kernel_rfl)
         simp at k2
         have k3 := rest_at hrs 3 (by kernel_rfl)
         simp at k3
         have k4 := rest_at hrs 4 (by kernel_rfl)
         simp at k4
         have k5 := rest_at hrs 5 (by kernel_rfl)
         simp at k5
         have k11 := rest_at hrs 11 (by kernel_rfl)
         simp at k11
         have k82 := rest_at hrs 82 (by kernel_rfl)
         simp at k82
         clear hdn hrs hJ
         rw [act_lit hsz hdf]
         simp [List.range, List.range.loop, k6, k7, k0, k1, k2, k3, k4, k5, k11, k82]
         clear k6 k7 k0 k1 k2 k3 k4 k5 k11 k82 hsz hdf
         generalize A.tmps[8]?.getD undef = A8 at *
         generalize A.tmps[9]?.getD undef = A9 at *
         generalize A.tmps[10]?.getD undef = A10 at *
         generalize A.tmps[12]?.getD undef = A12 at *
         generalize A.tmps[13]?.getD undef = A13 at *
         generalize A.tmps[14]?.getD undef = A14 at *
         generalize A.tmps[15]?.getD undef = A15 at *
         generalize A.tmps[16]?.getD undef = A16 at *
         generalize A.tmps[17]?.getD undef = A17 at *
         generalize A.tmps[18]?.getD undef = A18 at *
         generalize A.tmps[19]?.getD undef = A19 at *
         generalize A.tmps[20]?.getD undef = A20 at *
         generalize A.tmps[21]?.getD undef = A21 at *
         generalize A.tmps[22]?.getD undef = A22 at *
         generalize A.tmps[23]?.getD undef = A23 at *
         generalize A.tmps[24]?.getD undef = A24 at *
         generalize A.tmps[25]?.getD undef = A25 at *
         generalize A.tmps[26]?.getD undef = A26 at *
         generalize A.tmps[27]?.getD undef = A27 at *
         generalize A.tmps[28]?.getD undef = A28 at *
         generalize A.tmps[29]?.getD undef = A29 at *
         generalize A.tmps[30]?.getD undef = A30 at *
         generalize A.tmps[31]?.getD undef = A31 at *
         generalize A.tmps[32]?.getD undef = A32 at *
         generalize A.tmps[33]?.getD undef = A33 at *
         generalize A.tmps[34]?.getD undef = A34 at *
         generalize A.tmps[35]?.getD undef = A35 at *
         generalize A.tmps[36]?.getD undef = A36 at *
         generalize A.tmps[37]?.getD undef = A37 at *
         generalize A.tmps[38]?.getD undef = A38 at *
         generalize A.tmps[39]?.getD undef = A39 at *
         generalize A.tmps[40]?.getD undef = A40 at *
         generalize A.tmps[41]?.getD undef = A41 at *
         generalize A.tmps[42]?.getD undef = A42 at *
         generalize A.tmps[43]?.getD undef = A43 at *
         generalize A.tmps[44]?.getD undef = A44 at *
         generalize A.tmps[45]?.getD undef = A45 at *
         generalize A.tmps[46]?.getD undef = A46 at *
         generalize A.tmps[47]?.getD undef = A47 at *
         generalize A.tmps[48]?.getD undef = A48 at *
         generalize A.tmps[49]?.getD undef = A49 at *
         generalize A.tmps[50]?.getD undef = A50 at *
         generalize A.tmps[51]?.getD undef = A51 at *
         generalize A.tmps[52]?.getD undef = A52 at *
         generalize A.tmps[53]?.getD undef = A53 at *
         generalize A.tmps[54]?.getD undef = A54 at *
         generalize A.tmps[55]?.getD undef = A55 at *
         generalize A.tmps[56]?.getD undef = A56 at *
         generalize A.tmps[57]?.getD undef = A57 at *
         generalize A.tmps[58]?.getD undef = A58 at *
         generalize A.tmps[59]?.getD undef = A59 at *
         generalize A.tmps[60]?.getD undef = A60 at *
         generalize A.tmps[61]?.getD undef = A61 at *
         generalize A.tmps[62]?.getD undef = A62 at *
         generalize A.tmps[63]?.getD undef = A63 at *
         generalize A.tmps[64]?.getD undef = A64 at *
         generalize A.tmps[65]?.getD undef = A65 at *
         generalize A.tmps[66]?.getD undef = A66 at *
         generalize A.tmps[67]?.getD undef = A67 at *
         generalize A.tmps[68]?.getD undef = A68 at *
         generalize A.tmps[69]?.getD undef = A69 at *
         generalize A.tmps[70]?.getD undef = A70 at *
         generalize A.tmps[71]?.getD undef = A71 at *
         generalize A.tmps[72]?.getD undef = A72 at *
         generalize A.tmps[73]?.getD undef = A73 at *
         generalize A.tmps[74]?.getD undef = A74 at *
         generalize A.tmps[75]?.getD undef = A75 at *
         generalize A.tmps[76]?.getD undef = A76 at *
         generalize A.tmps[77]?.getD undef = A77 at *
         generalize A.tmps[78]?.getD undef = A78 at *
         generalize A.tmps[79]?.getD undef = A79 at *
         generalize A.tmps[80]?.getD undef = A80 at *
         generalize A.tmps[81]?.getD undef = A81 at *
         clear x0 x1 x2 x3 x4 x5 x6 x7 x8
         have HTE := hide (HTC.out.later ea.ext)
         have HBA := hide hba
         have HBB := hide hbb
         have HSA := hide hsA
         have HSB := hide hsB
         obtain ⟨ava, avc, rfl, -⟩ := id hsA
         obtain ⟨bva, bvc, rfl, -, hrb⟩ := id hsB
         have HRB := hide hrb
         obtain ⟨y0, y1⟩ := hba.get2
         obtain ⟨z0, z1⟩ := hbb.get2
         clear hba hbb hsA hsB hrb hna hnb hga hgb
         obtain ⟨wq, hwq⟩ : ∃ wq, wq = wr := ⟨_, rfl⟩
         subst hwq
         go_wp2_with fail
         clear y0 y1 z0 z1
         go_loopw [8, 9] (fun v8 i wr => ∃ j : Nat, j ≤ (tnIs x.els).length ∧ i = .int .i64 j ∧ SStr wr (addAll (tnIs x.l) ((tnIs x.els).take j)) v8 ∧ Ext ea.w wr) (fun _ i _ => (tnIs x.els).length - (intOf i).toNat)
         case atStart => exact ⟨0, Nat.zero_le _, rfl, by simpa [addAll_nil] using HSA.out, Ext.refl _⟩
         case round =>
           obtain ⟨j, hj, rfl, hs8, hx8⟩ := hrel
           obtain ⟨z0, z1⟩ := (HBB.out.ext hx8).get2
           by_cases hjl : j < (tnIs x.els).length
           · obtain ⟨bl, ol, rfl, hcell⟩ := HRB.out j hjl
             have hcell := hx8.at_ hcell
             have hal := addAll_le ((tnIs x.els).take j) (tnIs x.l)
             have htl2 : ((tnIs x.els).take j).length ≤ (tnIs x.els).length := by rw [List.length_take]; omega
             have HA := hide (show addAll (tnIs x.l) ((tnIs x.els).take (j + 1)) = addOne (addAll (tnIs x.l) ((tnIs x.els).take j)) (tnIs x.els)[j] from by rw [List.take_succ_eq_append_getElem hjl, addAll_append, addAll_one])
             have HM := hide (rmore_any (addAll (tnIs x.l) ((tnIs x.els).take j)) (tnIs x.els)[j] wr u8 hs8 (by omega))
             have HX8 := hide hx8
             clear hs8 hx8 hal htl2
             generalize (tnIs x.els)[j] = s at *
             go_wp2_with fail
             go_at_call 53
             refine HM.out.mono ?_
             rintro _ w2 ⟨v2', rfl, hs2, hx2⟩
             have FIN := hide (And.intro hs2 (HX8.out.trans hx2))
             clear hs2 hx2 HM
             go_wp2_with fail
             go_roundw
             case rel => exact ⟨j + 1, by omega, by go_num, by rw [HA.out]; exact FIN.out.1, FIN.out.2⟩
             case measure => simp [intOf]; omega
           · have hjl2 : j = (tnIs x.els).length := by omega
             subst hjl2
             rw [List.take_length] at hs8
             have HTF := hide (HTE.out.later hx8)
             obtain ⟨vs, hbs, hss⟩ := HTF.out.scp
             obtain ⟨s0, s1⟩ := hbs.get2
             obtain ⟨f0, f1⟩ := hbs.free2
             obtain ⟨y0, y1⟩ := (HBA.out.ext hx8).get2
             have HK0 := hide (show yes (tokJ (l.take k) x 0) = (yes (tokL (l.take k)) && (yes (tokL x.l) && yes (tokL x.els))) from by
               rw [yes_bool tokJ_zero]
               by_cases h1 : tokL (l.take k) <;> by_cases h2 : tokL x.l <;> by_cases h3 : tokL x.els
               all_goals simp only [yes_and, h1, h2, h3, yes_true, yes_false])
             have HFL := hide (fun r : Bool => (HTF.out.flag (ok' := r)))
             have HSBB := hide (fun r : Bool => SStr.store (u := .bool r) (j := 1) hs8 hbs (scp_no vs (yes (tokL (l.take k))) hss.no))
             have HTJ := hide (fun (j : Nat) (hj : j < (addAll (tnIs x.l) (tnIs x.els)).length) => yes_bool (tokJ_step (l := l.take k) hj))
             have hbl := addAll_le (tnIs x.els) (tnIs x.l)
             obtain ⟨ba8, bc8, rfl, -⟩ := id hs8
             obtain ⟨wp2, hwp2⟩ : ∃ wp2, wp2 = wr := ⟨_, rfl⟩
             subst hwp2
             clear hbs hss hs8 hx8 HL HE IHk
             generalize yes (tokL (l.take k)) = okk at *
             generalize yes (tokL x.l) = oka at *
             generalize yes (tokL x.els) = okb at *
             rcases (show okk = false ∨ (okk = true ∧ oka = false) ∨ (okk = true ∧ oka = true) from by cases okk <;> cases oka <;> simp) with rfl | ⟨rfl, rfl⟩ | ⟨rfl, rfl⟩
             all_goals
               go_wp2_with fail
               clear s0 s1 f0 f1 y0 y1 z0 z1
               go_loopw [10] (fun i wr => ∃ j : Nat, j ≤ (addAll (tnIs x.l) (tnIs x.els)).length ∧ i = .int .i64 j ∧ ToldI w (tnIs (l.take k) ++ (addAll (tnIs x.l) (tnIs x.els)).take j) (yes (tokJ (l.take k) x j)) wr ∧ SStr wr (addAll (tnIs x.l) (tnIs x.els)) (.slice ba8 (addAll (tnIs x.l) (tnIs x.els)).length bc8)) (fun i _ => (addAll (tnIs x.l) (tnIs x.els)).length - (intOf i).toNat)
               case atStart => exact ⟨0, Nat.zero_le _, rfl, by rw [HK0.out, List.take_zero, List.append_nil]; exact HFL.out _, HSBB.out _⟩
               case round =>
                 obtain ⟨j, hj, rfl, hti5, hs5⟩ := hrel
                 by_cases hjl : j < (addAll (tnIs x.l) (tnIs x.els)).length
                 · obtain ⟨bb5, cc5, he5, -, hr5⟩ := id hs5
                   obtain ⟨bl, ol, hba5, hcell⟩ := hr5 j hjl
                   obtain ⟨rfl, -, rfl⟩ := Value.slice.inj he5
                   subst hba5
                   have hcell := cellAt hcell
                   obtain ⟨vs5, hbs5, hss5⟩ := hti5.scp
                   obtain ⟨s0, s1⟩ := hbs5.later2
                   have HTJ5 := hide (HTJ.out j hjl)
                   have hlen5 : (tnIs (l.take k) ++ (addAll (tnIs x.l) (tnIs x.els)).take j).length ≤ 400000000 := by
                     rw [List.length_append, List.length_take]; omega
                   have HM := hide (fun (e : Later wr) => rtell_any (tnIs (l.take k) ++ (addAll (tnIs x.l) (tnIs x.els)).take j) (yes (tokJ (l.take k) x j)) (addAll (tnIs x.l) (tnIs x.els))[j] e.w vs5 (hss5.ext e.ext) (by omega))
                   have HTAKE := hide (show (addAll (tnIs x.l) (tnIs x.els)).take (j + 1) = (addAll (tnIs x.l) (tnIs x.els)).take j ++ [(addAll (tnIs x.l) (tnIs x.els))[j]] from List.take_succ_eq_append_getElem hjl)
                   have HT5 := hide hti5
                   have HS5 := hide hs5
                   have HB5 := hide hbs5
                   have ov5 : vs5.oneCell' = true := by obtain ⟨a, c, rfl, -⟩ := hss5; rfl
                   clear hti5 hs5 hr5 he5 hbs5 hss5
                   rw [yes_and_not, ← HTJ5.out] at HM
                   obtain ⟨okn, hokn⟩ : ∃ okn, okn = yes (tokJ (l.take k) x (j + 1)) := ⟨_, rfl⟩
                   rw [← hokn] at HM
                   have HOKN := hide hokn
                   clear hokn
                   generalize yes (tokJ (l.take k) x j) = okj at *
                   generalize (addAll (tnIs x.l) (tnIs x.els))[j] = s at *
                   obtain ⟨nn, hnn⟩ : ∃ nn, (tnIs (l.take k) ++ (addAll (tnIs x.l) (tnIs x.els)).take j) ++ [s] = nn := ⟨_, rfl⟩
                   simp only [hnn] at HM
                   go_wp2_with fail
                   refine wp_region_facts_last (W := wr) (callF 5 nn okn [.agg #[vs5, .bool okj], .slice (some ⟨bl, ol, none⟩) (addAll (tnIs x.l) (tnIs x.els)).length bc8, .int .i64 j, .pointer (some ⟨bl, ol + j, none⟩), .string s]) (by kernel_rfl) rfl (by kernel_rfl) (by kernel_rfl) (Ext.refl _) (fun i v w w' h hx => callF_ext h hx) ?_ ?_
                   · refine ⟨?_, ?_, ?_, ?_, ?_, ?_, trivial⟩
                     · intro A wa hxa hd h0
                       obtain ⟨ea, rfl⟩ := Later.mk_ex hxa
                       have r3 := rest_at h0 3 (by kernel_rfl)
                       simp at r3
                       clear hd h0
                       go_simp
                       first | exact ⟨_, rfl, Ext.refl _, rfl⟩ | exact ⟨Ext.refl _, rfl⟩ | exact rfl | exact ⟨_, rfl, rfl⟩ | exact Ext.refl _
                     · intro A wa hxa hd h0
                       obtain ⟨ea, rfl⟩ := Later.mk_ex hxa
                       have r8 := rest_at h0 8 (by kernel_rfl)
                       simp at r8
                       clear hd h0
                       go_simp
                       first | exact ⟨_, rfl, Ext.refl _, rfl⟩ | exact ⟨Ext.refl _, rfl⟩ | exact rfl | exact ⟨_, rfl, rfl⟩ | exact Ext.refl _
                     · intro A wa hxa hd h0
                       obtain ⟨ea, rfl⟩ := Later.mk_ex hxa
                       have r10 := rest_at h0 10 (by kernel_rfl)
                       simp at r10
                       clear hd h0
                       go_simp
                       first | exact ⟨_, rfl, Ext.refl _, rfl⟩ | exact ⟨Ext.refl _, rfl⟩ | exact rfl | exact ⟨_, rfl, rfl⟩ | exact Ext.refl _
                     · intro A wa hxa hd h0
                       obtain ⟨ea, rfl⟩ := Later.mk_ex hxa
                       have q1 := depOn hd 1 77 (by kernel_rfl) rfl
                       simp [callF] at q1
                       have q2 := depOn hd 2 78 (by kernel_rfl) rfl
                       simp [callF] at q2
                       clear hd h0
                       go_simp
                       first | exact ⟨_, rfl, Ext.refl _, rfl⟩ | exact ⟨Ext.refl _, rfl⟩ | exact rfl | exact ⟨_, rfl, rfl⟩ | exact Ext.refl _
                     · intro A wa hxa hd h0
                       obtain ⟨ea, rfl⟩ := Later.mk_ex hxa
                       have q3 := depOn hd 3 79 (by kernel_rfl) rfl
                       simp [callF] at q3
                       clear hd h0
                       go_simp
                       first | exact ⟨_, rfl, Ext.refl _, rfl⟩ | exact ⟨Ext.refl _, rfl⟩ | exact rfl | exact ⟨_, rfl, rfl⟩ | exact Ext.refl _
                     · intro A wa hxa hd h0
                       obtain ⟨ea, rfl⟩ := Later.mk_ex hxa
                       have q0 := depOn hd 0 76 (by kernel_rfl) rfl
                       simp [callF] at q0
                       have q4 := depOn hd 4 80 (by kernel_rfl) rfl
                       simp [callF] at q4
                       clear hd h0
                       go_simp
                       refine (HM.out ea).mono ?_
                       rintro e w2 ⟨u, rfl, hu, hx⟩
                       go_simp
                       first | exact ⟨_, rfl, hx, u, rfl, hu⟩ | exact ⟨hx, u, rfl, hu⟩ | exact ⟨_, rfl, u, rfl, hu⟩ | exact ⟨_, rfl, (show callF _ _ _ _ _ _ _ from ⟨u, rfl, hu⟩)⟩
                   intro A wa hk
                   obtain ⟨hxa, hsz, hdf, hdn, hrs⟩ := hk
                   obtain ⟨ea, rfl⟩ := Later.mk_ex hxa
                   obtain ⟨u, k81, hu⟩ := (show ∃ v', A.tmps.getD 81 undef = .agg #[v', .bool okn] ∧ SStr ea.w nn v' from hdn 5 81 rfl rfl)
                   simp at k81
                   have k0 := rest_at hrs 0 (by kernel_rfl)
                   simp at k0
                   have k1 := rest_at hrs 1 (by kernel_rfl)
                   simp at k1
                   have k2 := rest_at hrs 2 (by kernel_rfl)
                   simp at k2
                   have k3 := rest_at hrs 3 (by kernel_rfl)
                   simp at k3
                   have k4 := rest_at hrs 4 (by kernel_rfl)
                   simp at k4
                   have k5 := rest_at hrs 5 (by kernel_rfl)
                   simp at k5
                   have k6 := rest_at hrs 6 (by kernel_rfl)
                   simp at k6
                   have k7 := rest_at hrs 7 (by kernel_rfl)
                   simp at k7
                   have k8 := rest_at hrs 8 (by kernel_rfl)
                   simp at k8
                   have k9 := rest_at hrs 9 (by kernel_rfl)
                   simp at k9
                   have k10 := rest_at hrs 10 (by kernel_rfl)
                   simp at k10
                   have k11 := rest_at hrs 11 (by kernel_rfl)
                   simp at k11
                   have k12 := rest_at hrs 12 (by kernel_rfl)
                   simp at k12
                   have k13 := rest_at hrs 13 (by kernel_rfl)
                   simp at k13
                   have k14 := rest_at hrs 14 (by kernel_rfl)
                   simp at k14
                   have k15 := rest_at hrs 15 (by kernel_rfl)
                   simp at k15
                   have k16 := rest_at hrs 16 (by kernel_rfl)
                   simp at k16
                   have k17 := rest_at hrs 17 (by kernel_rfl)
                   simp at k17
                   have k18 := rest_at hrs 18 (by kernel_rfl)
                   simp at k18
                   have k19 := rest_at hrs 19 (by kernel_rfl)
                   simp at k19
                   have k20 := rest_at hrs 20 (by kernel_rfl)
                   simp at k20
                   have k21 := rest_at hrs 21 (by kernel_rfl)
                   simp at k21
                   have k22 := rest_at hrs 22 (by kernel_rfl)
                   simp at k22
                   have k23 := rest_at hrs 23 (by kernel_rfl)
                   simp at k23
                   have k24 := rest_at hrs 24 (by kernel_rfl)
                   simp at k24
                   have k25 := rest_at hrs 25 (by kernel_rfl)
                   simp at k25
                   have k26 := rest_at hrs 26 (by kernel_rfl)
                   simp at k26
                   have k27 := rest_at hrs 27 (by kernel_rfl)
                   simp at k27
                   have k28 := rest_at hrs 28 (by kernel_rfl)
                   simp at k28
                   have k29 := rest_at hrs 29 (by kernel_rfl)
                   simp at k29
                   have k30 := rest_at hrs 30 (by kernel_rfl)
                   simp at k30
                   have k31 := rest_at hrs 31 (by kernel_rfl)
                   simp at k31
                   have k32 := rest_at hrs 32 (by kernel_rfl)
                   simp at k32
                   have k33 := rest_at hrs 33 (by kernel_rfl)
                   simp at k33
                   have k34 := rest_at hrs 34 (by kernel_rfl)
                   simp at k34
                   have k35 := rest_at hrs 35 (by kernel_rfl)
                   simp at k35
                   have k36 := rest_at hrs 36 (by kernel_rfl)
                   simp at k36
                   have k37 := rest_at hrs 37 (by kernel_rfl)
                   simp at k37
                   have k38 := rest_at hrs 38 (by kernel_rfl)
                   simp at k38
                   have k39 := rest_at hrs 39 (by kernel_rfl)
                   simp at k39
                   have k40 := rest_at hrs 40 (by kernel_rfl)
                   simp at k40
                   have k41 := rest_at hrs 41 (by kernel_rfl)
                   simp at k41
                   have k42 := rest_at hrs 42 (by kernel_rfl)
                   simp at k42
                   have k43 := rest_at hrs 43 (by kernel_rfl)
                   simp at k43
                   have k44 := rest_at hrs 44 (by kernel_rfl)
                   simp at k44
                   have k45 := rest_at hrs 45 (by kernel_rfl)
                   simp at k45
                   have k46 := rest_at hrs 46 (by kernel_rfl)
                   simp at k46
                   have k47 := rest_at hrs 47 (by kernel_rfl)
                   simp at k47
                   have k48 := rest_at hrs 48 (by kernel_rfl)
                   simp at k48
                   have k49 := rest_at hrs 49 (by kernel_rfl)
                   simp at k49
                   have k50 := rest_at hrs 50 (by kernel_rfl)
                   simp at k50
                   have k51 := rest_at hrs 51 (by kernel_rfl)
                   simp at k51
                   have k52 := rest_at hrs 52 (by kernel_rfl)
                   simp at k52
                   have k53 := rest_at hrs 53 (by kernel_rfl)
                   simp at k53
                   have k54 := rest_at hrs 54 (by kernel_rfl)
                   simp at k54
                   have k55 := rest_at hrs 55 (by kernel_rfl)
                   simp at k55
                   have k56 := rest_at hrs 56 (by kernel_rfl)
                   simp at k56
                   have k57 := rest_at hrs 57 (by kernel_rfl)
                   simp at k57
                   have k58 := rest_at hrs 58 (by kernel_rfl)
                   simp at k58
                   have k59 := rest_at hrs 59 (by kernel_rfl)
                   simp at k59
                   have k60 := rest_at hrs 60 (by kernel_rfl)
                   simp at k60
                   have k61 := rest_at hrs 61 (by kernel_rfl)
                   simp at k61
                   have k62 := rest_at hrs 62 (by kernel_rfl)
                   simp at k62
                   have k63 := rest_at hrs 63 (by kernel_rfl)
                   simp at k63
                   have k64 := rest_at hrs 64 (by kernel_rfl)
                   simp at k64
                   have k65 := rest_at hrs 65 (by kernel_rfl)
                   simp at k65
                   have k66 := rest_at hrs 66 (by kernel_rfl)
                   simp at k66
                   have k67 := rest_at hrs 67 (by kernel_rfl)
                   simp at k67
                   have k68 := rest_at hrs 68 (by kernel_rfl)
                   simp at k68
                   have k69 := rest_at hrs 69 (by kernel_rfl)
                   simp at k69
                   have k82 := rest_at hrs 82 (by kernel_rfl)
                   simp at k82
                   clear hdn hrs
                   rw [act_lit hsz hdf]
                   simp [List.range, List.range.loop, k81, k0, k1, k2, k3, k4, k5, k6, k7, k8, k9, k10, k11, k12, k13, k14, k15, k16, k17, k18, k19, k20, k21, k22, k23, k24, k25, k26, k27, k28, k29, k30, k31, k32, k33, k34, k35, k36, k37, k38, k39, k40, k41, k42, k43, k44, k45, k46, k47, k48, k49, k50, k51, k52, k53, k54, k55, k56, k57, k58, k59, k60, k61, k62, k63, k64, k65, k66, k67, k68, k69, k82]
                   clear k81 k0 k1 k2 k3 k4 k5 k6 k7 k8 k9 k10 k11 k12 k13 k14 k15 k16 k17 k18 k19 k20 k21 k22 k23 k24 k25 k26 k27 k28 k29 k30 k31 k32 k33 k34 k35 k36 k37 k38 k39 k40 k41 k42 k43 k44 k45 k46 k47 k48 k49 k50 k51 k52 k53 k54 k55 k56 k57 k58 k59 k60 k61 k62 k63 k64 k65 k66 k67 k68 k69 k82 hsz hdf
                   generalize A.tmps[70]?.getD undef = A70 at *
                   generalize A.tmps[71]?.getD undef = A71 at *
                   generalize A.tmps[72]?.getD undef = A72 at *
                   generalize A.tmps[73]?.getD undef = A73 at *
                   generalize A.tmps[74]?.getD undef = A74 at *
                   generalize A.tmps[75]?.getD undef = A75 at *
                   generalize A.tmps[76]?.getD undef = A76 at *
                   generalize A.tmps[77]?.getD undef = A77 at *
                   generalize A.tmps[78]?.getD undef = A78 at *
                   generalize A.tmps[79]?.getD undef = A79 at *
                   generalize A.tmps[80]?.getD undef = A80 at *
                   have hb6 := HB5.out.ext ea.ext
                   obtain ⟨g0, g1⟩ := hb6.get2
                   obtain ⟨h0, h1⟩ := hb6.free2
                   have ou : u.oneCell' = true := by obtain ⟨a, c, rfl, -⟩ := hu; rfl
                   have HZ := hide (show ToldI w (tnIs (l.take k) ++ (addAll (tnIs x.l) (tnIs x.els)).take (j + 1)) (yes (tokJ (l.take k) x (j + 1))) ((ea.w.setCell ⟨w.heap.size + 1, 0, none⟩ u).setCell ⟨w.heap.size + 1, 1, none⟩ (.bool okn)) from by
                     rw [← HOKN.out, HTAKE.out, ← List.append_assoc, hnn]; exact (HT5.out.later ea.ext).store hu)
                   have HZ2 := hide ((HS5.out.ext ea.ext).scp (u := u) (b' := okn) hb6 (by
                     obtain ⟨vs9, hb9, hs9⟩ := HT5.out.scp
                     have := hb9.symm.trans HB5.out
                     simp at this
                     rw [← this]; exact hs9.no) hu.no)
                   clear hb6 hu HM
                   go_wp2_with fail
                   go_roundw
                   case rel => exact ⟨j + 1, by omega, by go_num, HZ.out, HZ2.out⟩
                   case measure => simp [intOf]; omega
                 · have hjl2 : j = (addAll (tnIs x.l) (tnIs x.els)).length := by omega
                   subst hjl2
                   rw [List.take_length, ← HTN.out, HEND.out, ← HTK.out] at hti5
                   have HREL := hide hti5
                   clear hti5 hs5
                   go_wp2_with fail
                   go_roundw
                   case rel => exact ⟨k + 1, by omega, by go_num, HREL.out⟩
                   case measure => simp [intOf]; omega
       · have HREL := hide (show ToldI w (tnIs (l.take (k + 1))) (yes (tokL (l.take (k + 1)))) Wc from by
           rw [HTK.out, tn_rest hd h8, yes_bool (tokL_rest hd h8)]; exact HTC.out)
         have n7 : (x.op == 8) = false := beq_eq_false_iff_ne.2 h8
         clear hd h8 HTC HTK HL HE IHk HIH
         generalize x.op = xo at *
         generalize x.name = xn at *
         generalize x.of = xf at *
         go_wp2_with fail
         go_roundw
         case rel => exact ⟨k + 1, by omega, by go_num, HREL.out⟩
         case measure => simp [intOf]; omega
   · have hkl : k = l.length := by omega
     subst hkl
     rw [List.take_length] at HTI
     obtain ⟨vs, hbs, hss⟩ := HTI.out.scp
     obtain ⟨s0, s1⟩ := hbs.get2
     obtain ⟨r0, r1⟩ := HTI.out.res.get2
     obtain ⟨g0, g1⟩ := HTI.out.res.free2
     have ovs : vs.oneCell' = true := by obtain ⟨a, c, rfl, -⟩ := hss; rfl
     have HFIN := hide (And.intro (hss.scp (b' := yes (tokL l)) HTI.out.res (fun s h => by cases h) hss.no) ((HTI.out.ext.setCell (p := ⟨w.heap.size, 0, none⟩) (Nat.le_refl _) vs).setCell (p := ⟨w.heap.size, 1, none⟩) (Nat.le_refl _) (.bool (yes (tokL l)))))
     obtain ⟨j0, j1⟩ := (HTI.out.res.store2 vs (.bool (yes (tokL l)))).get2
     have j2 := (HTI.out.res.set_ 0 vs).get2.1
     clear hbs hss hx HTI hrow hle htk
     obtain ⟨okl, hokl⟩ : ∃ okl, okl = yes (tokL l) := ⟨_, rfl⟩
     have HOK := hide hokl
     rw [← hokl] at s1 HFIN j1
     clear hokl
     go_wp2_with fail
     refine bodyPost_ret (v := .agg #[vs, .bool okl]) (by simp [results, Tryz.results116, go_sem, j0, j1, j2]) rfl ⟨_, by rw [HOK.out], HFIN.out.1, HFIN.out.2⟩
theorem rtold_lt (B : Nat) (m : Nat) : ∀ l : List Itm, msize sizeI l < m → msize sizeI l ≤ 100000000 → RToldOk B l := by
 induction m with
 | zero => intro l h; omega
 | succ m ih =>
   intro l h h2
   refine rtold_step B l h2 fun x hx => ?_
   have h3 := msize_mem sizeI l x hx
   have h4 := sizeI_eq x
   exact ⟨ih x.l (by omega) (by omega), ih x.els (by omega) (by omega)⟩
theorem rtold_any (B : Nat) (l : List Itm) (h : msize sizeI l ≤ 100000000) : RToldOk B l := rtold_lt B _ l (Nat.lt_succ_self _) h
def okN (m : Mdl) (l : List ByteArray) : Prop := tokIs m.items ∧ l.Nodup
theorem okN_snoc {m : Mdl} {l : List ByteArray} {s : ByteArray} : okN m (l ++ [s]) ↔ okN m l ∧ ¬ s ∈ l := by
 unfold okN
 constructor
 · rintro ⟨h1, h2⟩
   obtain ⟨h3, -, h4⟩ := List.nodup_append.1 h2
   exact ⟨⟨h1, h3⟩, fun h => h4 _ h _ (List.mem_singleton.2 rfl) rfl⟩
 · rintro ⟨⟨h1, h2⟩, h3⟩
   exact ⟨h1, List.nodup_append.2 ⟨h2, by simp, fun a ha b hb e => by rw [List.mem_singleton.1 hb] at e; exact h3 (e ▸ ha)⟩⟩
structure ToldT (w3 : World) (names : List ByteArray) (ok : Bool) (X : World) : Prop where
 ext : Ext w3 X
 scp : ∃ vs, Blk X w3.heap.size 101 [vs, .bool ok] ∧ SStr X names vs
theorem ToldT.later {w X Y : World} {names : List ByteArray} {ok : Bool} (h : ToldT w names ok X) (hx : Ext X Y) : ToldT w names ok Y :=
 ⟨h.ext.trans hx, by obtain ⟨vs, h1, h2⟩ := h.scp; exact ⟨vs, h1.ext hx, h2.ext hx⟩⟩
theorem ToldT.store {w X : World} {names names' : List ByteArray} {ok ok' : Bool} {v' : Value} (h : ToldT w names ok X) (hs : SStr X names' v') : ToldT w names' ok' ((X.setCell ⟨w.heap.size, 0, none⟩ v').setCell ⟨w.heap.size, 1, none⟩ (.bool ok')) := by
 obtain ⟨vs, h1, h2⟩ := h.scp
 exact ⟨(h.ext.setCell (Nat.le_refl _) _).setCell (Nat.le_refl _) _, v', h1.store2 v' (.bool ok'), hs.scp h1 h2.no hs.no⟩
set_option maxRecDepth 20000 in
set_option maxHeartbeats 16000000 in
theorem rTold_any (B : Nat) (m : Mdl) (w : World) (cs : List Value) (hR : RM w B m cs) (hB : B ≤ w.heap.size) (hsz : sizeM m ≤ 100000000) :
   Calls Tryz.prog 79 #[.agg cs.toArray] w fun e w' => ∃ v', e = .returned (.agg #[v', .bool (yes (okN m (ownN m)))]) ∧ SStr w' (ownN m) v' ∧ Ext w w' := by
 obtain ⟨v1, v2, v3, rfl, hp, hq, hi⟩ := hR
 have o3 := hi.oneCell
 have HI := hide hi
 obtain ⟨pa, pcap, rfl, -, hprow⟩ := hp
 obtain ⟨qa, qcap, rfl, -, hqrow⟩ := hq
 have hme : sizeM m = 1 + msize sizeB m.params + msize sizeP m.ports + msize sizeI m.items := rfl
 have hpl := length_le_msize sizeB m.params sizeB_pos
 have hql := length_le_msize sizeP m.ports sizeP_pos
 have htl := tns_len m.items
 obtain ⟨W1, hW1, hx1, hb1⟩ := box4 w (.string m.name) (.slice pa m.params.length pcap) (.slice qa m.ports.length qcap) v3 33
 have hV1 := hW1.symm
 obtain ⟨W2, hW2, hx2, hb2⟩ := box2 W1 (.slice none 0 0) (.bool false) 101
 have hV2 := hW2.symm
 have hx12 := hx1.trans hx2
 obtain ⟨x0, x1, x2, x3⟩ := (hb1.ext hx2).get4
 have GA := hide (rtold_any B m.items (by omega) W2 v3 (HI.out.extRI hx12 hB) (Nat.le_trans hB hx12.size))
 have HPR := hide hprow
 have HQR := hide hqrow
 have HX0 := hide hx12
 have HBX := hide (hb1.ext hx2)
 have HRES := hide hb2
 have hge : w.heap.size ≤ W1.heap.size := hx1.size
 have hz1 : W1.heap.size = w.heap.size + 1 := by rw [hW1]; simp
 have hpb : m.params.length ≤ 100000000 := by omega
 have hqb : m.ports.length ≤ 100000000 := by omega
 have htb : (tnIs m.items).length ≤ 100000000 := by omega
 clear hW1 hx1 hb1 hW2 hx2 hb2 hx12 hprow hqrow hi hme hpl hql hsz htl
 go_enter Tryz.func79, Tryz.ntmps79
 go_wp2_with fail
 go_at_call 116
 refine GA.out.mono ?_
 rintro _ w3 ⟨v3', rfl, hs3, hx3⟩
 obtain ⟨Wb, Wc, hVb, ⟨p0, p1⟩, ⟨q0, q1⟩, hVc, hbc, hxc⟩ := varScp w3 v3' (.bool (yes (tokL m.items)))
 have ov3 : v3'.oneCell' = true := by obtain ⟨a, c, rfl, -⟩ := hs3; rfl
 have HT0 := hide (show ToldT w3 (tnIs m.items) (yes (okN m (tnIs m.items))) Wc from ⟨hxc, v3', hbc, hs3.ext hxc⟩)
 have HX3 := hide (HX0.out.trans hx3)
 have HRES := hide (HRES.out.ext hx3)
 have HBX := hide (HBX.out.ext hx3)
 clear hs3 hx3 hbc hxc x0 x1 x2 x3 GA hV1 hV2
 go_wp2_with fail
 clear hVb hVc p0 p1 q0 q1
 go_loopw [4] (fun i wr => ∃ k : Nat, k ≤ m.ports.length ∧ i = .int .i64 k ∧ ToldT w3 (tnIs m.items ++ (m.ports.map Prt.name).take k) (yes (okN m (tnIs m.items ++ (m.ports.map Prt.name).take k))) wr) (fun i _ => m.ports.length - (intOf i).toNat)
 case atStart => exact ⟨0, Nat.zero_le _, rfl, by rw [List.take_zero, List.append_nil]; exact HT0.out⟩
 case round =>
   obtain ⟨k, hk, rfl, hti⟩ := hrel
   have HTI := hide hti
   have hx := hti.ext
   clear hti
   by_cases hlt : k < m.ports.length
   · obtain ⟨x0, x1, x2, x3⟩ := (HBX.out.ext hx).later4
     obtain ⟨y0, y1, y2, y3⟩ := (HBX.out.ext hx).get4
     obtain ⟨b, o, u0, u1, u2, u3', u4, u5, u6, u7, rfl, hbB, hE, hC, -⟩ := HQR.out.open8 hlt
     have hnm : (m.ports.map Prt.name).take (k + 1) = (m.ports.map Prt.name).take k ++ [m.ports[k].name] := by
       rw [List.take_succ_eq_append_getElem (by simpa using hlt), List.getElem_map]
     have HNM := hide hnm
     have HOK := hide (show yes (okN m (tnIs m.items ++ (m.ports.map Prt.name).take (k + 1))) = yes (okN m (tnIs m.items ++ (m.ports.map Prt.name).take k) ∧ ¬ m.ports[k].name ∈ tnIs m.items ++ (m.ports.map Prt.name).take k) from by rw [hnm, ← List.append_assoc]; exact yes_bool okN_snoc)
     obtain ⟨cx, hcs, -⟩ := hE
     simp only [List.cons.injEq] at hcs
     obtain ⟨rfl, rfl, -⟩ := hcs
     obtain ⟨d0, -⟩ := (hC.ext (HX3.out.trans hx)).later8
     have hlen5 : (tnIs m.items ++ (m.ports.map Prt.name).take k).length ≤ 400000000 := by
       rw [List.length_append, List.length_take, List.length_map]; omega
     obtain ⟨vs5, hbs5, hss5⟩ := HTI.out.scp
     obtain ⟨s0, s1⟩ := hbs5.later2
     have HM := hide (fun (e : Later wr) => rtell_any (tnIs m.items ++ (m.ports.map Prt.name).take k) (yes (okN m (tnIs m.items ++ (m.ports.map Prt.name).take k))) m.ports[k].name e.w vs5 (hss5.ext e.ext) (by omega))
     have HB5 := hide hbs5
     have ov5 : vs5.oneCell' = true := by obtain ⟨a, c, rfl, -⟩ := hss5; rfl
     clear hC hx hnm hbs5 hss5 hlen5
     rw [yes_and_not, ← HOK.out] at HM
     obtain ⟨okn, hokn⟩ : ∃ okn, okn = yes (okN m (tnIs m.items ++ (m.ports.map Prt.name).take (k + 1))) := ⟨_, rfl⟩
     rw [← hokn] at HM
     have HOKN := hide hokn
     clear hokn
     generalize yes (okN m (tnIs m.items ++ (m.ports.map Prt.name).take k)) = okj at *
     generalize m.ports[k].name = s at *
     obtain ⟨nn, hnn⟩ : ∃ nn, (tnIs m.items ++ (m.ports.map Prt.name).take k) ++ [s] = nn := ⟨_, rfl⟩
     simp only [hnn] at HM
     go_wp2_with fail
     refine wp_region_facts_last (W := wr) (callF 7 nn okn [.agg #[vs5, .bool okj], .pointer (some ⟨w.heap.size, 2, none⟩), .slice (some ⟨b, o, none⟩) m.ports.length qcap, .int .i64 k, .pointer (some ⟨b, o + k * 8, none⟩), .pointer (some ⟨b, o + k * 8, none⟩), .string s]) (by kernel_rfl) rfl (by kernel_rfl) (by kernel_rfl) (Ext.refl _) (fun i v w w' h hx => callF_ext h hx) ?_ ?_
     · refine ⟨?_, ?_, ?_, ?_, ?_, ?_, ?_, ?_, trivial⟩
       · intro A wa hxa hd h0
         obtain ⟨ea, rfl⟩ := Later.mk_ex hxa
         have r3 := rest_at h0 3 (by kernel_rfl)
         simp at r3
         clear hd h0
         go_simp
         first | exact ⟨_, rfl, Ext.refl _, rfl⟩ | exact ⟨Ext.refl _, rfl⟩ | exact rfl | exact ⟨_, rfl, rfl⟩ | exact Ext.refl _
       · intro A wa hxa hd h0
         obtain ⟨ea, rfl⟩ := Later.mk_ex hxa
         have r1 := rest_at h0 1 (by kernel_rfl)
         simp at r1
         clear hd h0
         go_simp
         first | exact ⟨_, rfl, Ext.refl _, rfl⟩ | exact ⟨Ext.refl _, rfl⟩ | exact rfl | exact ⟨_, rfl, rfl⟩ | exact Ext.refl _
       · intro A wa hxa hd h0
         obtain ⟨ea, rfl⟩ := Later.mk_ex hxa
         have q1 := depOn hd 1 17 (by kernel_rfl) rfl
         simp [callF] at q1
         clear hd h0
         go_simp
         first | exact ⟨_, rfl, Ext.refl _, rfl⟩ | exact ⟨Ext.refl _, rfl⟩ | exact rfl | exact ⟨_, rfl, rfl⟩ | exact Ext.refl _
       · intro A wa hxa hd h0
         obtain ⟨ea, rfl⟩ := Later.mk_ex hxa
         have r4 := rest_at h0 4 (by kernel_rfl)
         simp at r4
         clear hd h0
         go_simp
         first | exact ⟨_, rfl, Ext.refl _, rfl⟩ | exact ⟨Ext.refl _, rfl⟩ | exact rfl | exact ⟨_, rfl, rfl⟩ | exact Ext.refl _
       · intro A wa hxa hd h0
         obtain ⟨ea, rfl⟩ := Later.mk_ex hxa
         have q2 := depOn hd 2 18 (by kernel_rfl) rfl
         simp [callF] at q2
         have q3 := depOn hd 3 19 (by kernel_rfl) rfl
         simp [callF] at q3
         clear hd h0
         go_simp
         first | exact ⟨_, rfl, Ext.refl _, rfl⟩ | exact ⟨Ext.refl _, rfl⟩ | exact rfl | exact ⟨_, rfl, rfl⟩ | exact Ext.refl _
       · intro A wa hxa hd h0
         obtain ⟨ea, rfl⟩ := Later.mk_ex hxa
         have q4 := depOn hd 4 20 (by kernel_rfl) rfl
         simp [callF] at q4
         clear hd h0
         go_simp
         first | exact ⟨_, rfl, Ext.refl _, rfl⟩ | exact ⟨Ext.refl _, rfl⟩ | exact rfl | exact ⟨_, rfl, rfl⟩ | exact Ext.refl _
       · intro A wa hxa hd h0
         obtain ⟨ea, rfl⟩ := Later.mk_ex hxa
         have q5 := depOn hd 5 21 (by kernel_rfl) rfl
         simp [callF] at q5
         clear hd h0
         go_simp
         first | exact ⟨_, rfl, Ext.refl _, rfl⟩ | exact ⟨Ext.refl _, rfl⟩ | exact rfl | exact ⟨_, rfl, rfl⟩ | exact Ext.refl _
       · intro A wa hxa hd h0
         obtain ⟨ea, rfl⟩ := Later.mk_ex hxa
         have q0 := depOn hd 0 16 (by kernel_rfl) rfl
         simp [callF] at q0
         have q6 := depOn hd 6 22 (by kernel_rfl) rfl
         simp [callF] at q6
         clear hd h0
         go_simp
         refine (HM.out ea).mono ?_
         rintro e w2 ⟨u, rfl, hu, hx⟩
         go_simp
         first | exact ⟨_, rfl, hx, u, rfl, hu⟩ | exact ⟨hx, u, rfl, hu⟩ | exact ⟨_, rfl, u, rfl, hu⟩ | exact ⟨_, rfl, (show callF _ _ _ _ _ _ _ from ⟨u, rfl, hu⟩)⟩
     intro A wa hk
     obtain ⟨hxa, hsz, hdf, hdn, hrs⟩ := hk
     obtain ⟨ea, rfl⟩ := Later.mk_ex hxa
     obtain ⟨u, k23, hu⟩ := (show ∃ v', A.tmps.getD 23 undef = .agg #[v', .bool okn] ∧ SStr ea.w nn v' from hdn 7 23 rfl rfl)
     simp at k23
     have k0 := rest_at hrs 0 (by kernel_rfl)
     simp at k0
     have k1 := rest_at hrs 1 (by kernel_rfl)
     simp at k1
     have k2 := rest_at hrs 2 (by kernel_rfl)
     simp at k2
     have k3 := rest_at hrs 3 (by kernel_rfl)
     simp at k3
     have k4 := rest_at hrs 4 (by kernel_rfl)
     simp at k4
     have k5 := rest_at hrs 5 (by kernel_rfl)
     simp at k5
     have k6 := rest_at hrs 6 (by kernel_rfl)
     simp at k6
     have k7 := rest_at hrs 7 (by kernel_rfl)
     simp at k7
     have k8 := rest_at hrs 8 (by kernel_rfl)
     simp at k8
     have k9 := rest_at hrs 9 (by kernel_rfl)
     simp at k9
     have k10 := rest_at hrs 10 (by kernel_rfl)
     simp at k10
     have k11 := rest_at hrs 11 (by kernel_rfl)
     simp at k11
     have k12 := rest_at hrs 12 (by kernel_rfl)
     simp at k12
     have k13 := rest_at hrs 13 (by kernel_rfl)
     simp at k13
     have k14 := rest_at hrs 14 (by kernel_rfl)
     simp at k14
     have k15 := rest_at hrs 15 (by kernel_rfl)
     simp at k15
     have k24 := rest_at hrs 24 (by kernel_rfl)
     simp at k24
     have k25 := rest_at hrs 25 (by kernel_rfl)
     simp at k25
     have k26 := rest_at hrs 26 (by kernel_rfl)
     simp at k26
     have k27 := rest_at hrs 27 (by kernel_rfl)
     simp at k27
     have k28 := rest_at hrs 28 (by kernel_rfl)
     simp at k28
     have k29 := rest_at hrs 29 (by kernel_rfl)
     simp at k29
     have k30 := rest_at hrs 30 (by kernel_rfl)
     simp at k30
     have k31 := rest_at hrs 31 (by kernel_rfl)
     simp at k31
     have k32 := rest_at hrs 32 (by kernel_rfl)
     simp at k32
     have k33 := rest_at hrs 33 (by kernel_rfl)
     simp at k33
     have k34 := rest_at hrs 34 (by kernel_rfl)
     simp at k34
     have k35 := rest_at hrs 35 (by kernel_rfl)
     simp at k35
     have k36 := rest_at hrs 36 (by kernel_rfl)
     simp at k36
     have k37 := rest_at hrs 37 (by kernel_rfl)
     simp at k37
     have k38 := rest_at hrs 38 (by kernel_rfl)
     simp at k38
     have k39 := rest_at hrs 39 (by kernel_rfl)
     simp at k39
     clear hdn hrs
     rw [act_lit hsz hdf]
     simp [List.range, List.range.loop, k23, k0, k1, k2, k3, k4, k5, k6, k7, k8, k9, k10, k11, k12, k13, k14, k15, k24, k25, k26, k27, k28, k29, k30, k31, k32, k33, k34, k35, k36, k37, k38, k39]
     clear k23 k0 k1 k2 k3 k4 k5 k6 k7 k8 k9 k10 k11 k12 k13 k14 k15 k24 k25 k26 k27 k28 k29 k30 k31 k32 k33 k34 k35 k36 k37 k38 k39 hsz hdf
     generalize A.tmps[16]?.getD undef = A16 at *
     generalize A.tmps[17]?.getD undef = A17 at *
     generalize A.tmps[18]?.getD undef = A18 at *
     generalize A.tmps[19]?.getD undef = A19 at *
     generalize A.tmps[20]?.getD undef = A20 at *
     generalize A.tmps[21]?.getD undef = A21 at *
     generalize A.tmps[22]?.getD undef = A22 at *
     have hb6 := HB5.out.ext ea.ext
     obtain ⟨g0, g1⟩ := hb6.get2
     obtain ⟨h0, h1⟩ := hb6.free2
     have ou : u.oneCell' = true := by obtain ⟨a, c, rfl, -⟩ := hu; rfl
     have HZ := hide (show ToldT w3 (tnIs m.items ++ (m.ports.map Prt.name).take (k + 1)) (yes (okN m (tnIs m.items ++ (m.ports.map Prt.name).take (k + 1)))) ((ea.w.setCell ⟨w3.heap.size, 0, none⟩ u).setCell ⟨w3.heap.size, 1, none⟩ (.bool okn)) from by
       rw [← HOKN.out, HNM.out, ← List.append_assoc, hnn]; exact (HTI.out.later ea.ext).store hu)
     clear hb6 hu HM x0 x1 x2 x3 y0 y1 y2 y3 d0 s0 s1
     go_wp2_with fail
     go_roundw
     case rel => exact ⟨k + 1, by omega, by go_num, HZ.out⟩
     case measure => simp [intOf]; omega
   · have hkl : k = m.ports.length := by omega
     subst hkl
     obtain ⟨x0, x1, x2, x3⟩ := (HBX.out.ext hx).get4
     rw [show m.ports.length = (m.ports.map Prt.name).length by simp, List.take_length] at HTI
     clear hx HT0
     go_wp2_with fail
     clear x0 x1 x2 x3
     go_loopw [5] (fun i wr => ∃ k : Nat, k ≤ m.params.length ∧ i = .int .i64 k ∧ ToldT w3 ((tnIs m.items ++ m.ports.map Prt.name) ++ (m.params.map Bnd.name).take k) (yes (okN m ((tnIs m.items ++ m.ports.map Prt.name) ++ (m.params.map Bnd.name).take k))) wr) (fun i _ => m.params.length - (intOf i).toNat)
     case atStart => exact ⟨0, Nat.zero_le _, rfl, by rw [List.take_zero, List.append_nil]; exact HTI.out⟩
     case round =>
       obtain ⟨k, hk, rfl, hti⟩ := hrel
       have HTI := hide hti
       have hx := hti.ext
       clear hti
       by_cases hlt : k < m.params.length
       · obtain ⟨x0, x1, x2, x3⟩ := (HBX.out.ext hx).later4
         obtain ⟨y0, y1, y2, y3⟩ := (HBX.out.ext hx).get4
         obtain ⟨b, o, u0, u1, u2, u3', u4, u5, u6, rfl, hbB, hE, hC, -⟩ := HPR.out.open7 hlt
         have hnm : (m.params.map Bnd.name).take (k + 1) = (m.params.map Bnd.name).take k ++ [m.params[k].name] := by
           rw [List.take_succ_eq_append_getElem (by simpa using hlt), List.getElem_map]
         have HNM := hide hnm
         have HOK := hide (show yes (okN m ((tnIs m.items ++ m.ports.map Prt.name) ++ (m.params.map Bnd.name).take (k + 1))) = yes (okN m ((tnIs m.items ++ m.ports.map Prt.name) ++ (m.params.map Bnd.name).take k) ∧ ¬ m.params[k].name ∈ (tnIs m.items ++ m.ports.map Prt.name) ++ (m.params.map Bnd.name).take k) from by rw [hnm, ← List.append_assoc]; exact yes_bool okN_snoc)
         obtain ⟨cx, hcs, -⟩ := hE
         simp only [List.cons.injEq] at hcs
         obtain ⟨rfl, -⟩ := hcs
         obtain ⟨d0, -⟩ := (hC.ext (HX3.out.trans hx)).later7
         have hlen5 : ((tnIs m.items ++ m.ports.map Prt.name) ++ (m.params.map Bnd.name).take k).length ≤ 400000000 := by
           rw [List.length_append, List.length_append, List.length_take, List.length_map, List.length_map]; omega
         obtain ⟨vs5, hbs5, hss5⟩ := HTI.out.scp
         obtain ⟨s0, s1⟩ := hbs5.later2
         have HM := hide (fun (e : Later wr) => rtell_any ((tnIs m.items ++ m.ports.map Prt.name) ++ (m.params.map Bnd.name).take k) (yes (okN m ((tnIs m.items ++ m.ports.map Prt.name) ++ (m.params.map Bnd.name).take k))) m.params[k].name e.w vs5 (hss5.ext e.ext) (by omega))
         have HB5 := hide hbs5
         have ov5 : vs5.oneCell' = true := by obtain ⟨a, c, rfl, -⟩ := hss5; rfl
         clear hC hx hnm hbs5 hss5 hlen5
         rw [yes_and_not, ← HOK.out] at HM
         obtain ⟨okn, hokn⟩ : ∃ okn, okn = yes (okN m ((tnIs m.items ++ m.ports.map Prt.name) ++ (m.params.map Bnd.name).take (k + 1))) := ⟨_, rfl⟩
         rw [← hokn] at HM
         have HOKN := hide hokn
         clear hokn
         generalize yes (okN m ((tnIs m.items ++ m.ports.map Prt.name) ++ (m.params.map Bnd.name).take k)) = okj at *
         generalize m.params[k].name = s at *
         obtain ⟨nn, hnn⟩ : ∃ nn, ((tnIs m.items ++ m.ports.map Prt.name) ++ (m.params.map Bnd.name).take k) ++ [s] = nn := ⟨_, rfl⟩
         simp only [hnn] at HM
         go_wp2_with fail
         refine wp_region_facts_last (W := wr) (callF 7 nn okn [.agg #[vs5, .bool okj], .pointer (some ⟨w.heap.size, 1, none⟩), .slice (some ⟨b, o, none⟩) m.params.length pcap, .int .i64 k, .pointer (some ⟨b, o + k * 7, none⟩), .pointer (some ⟨b, o + k * 7, none⟩), .string s]) (by kernel_rfl) rfl (by kernel_rfl) (by kernel_rfl) (Ext.refl _) (fun i v w w' h hx => callF_ext h hx) ?_ ?_
         · refine ⟨?_, ?_, ?_, ?_, ?_, ?_, ?_, ?_, trivial⟩
           · intro A wa hxa hd h0
             obtain ⟨ea, rfl⟩ := Later.mk_ex hxa
             have r3 := rest_at h0 3 (by kernel_rfl)
             simp at r3
             clear hd h0
             go_simp
             first | exact ⟨_, rfl, Ext.refl _, rfl⟩ | exact ⟨Ext.refl _, rfl⟩ | exact rfl | exact ⟨_, rfl, rfl⟩ | exact Ext.refl _
           · intro A wa hxa hd h0
             obtain ⟨ea, rfl⟩ := Later.mk_ex hxa
             have r1 := rest_at h0 1 (by kernel_rfl)
             simp at r1
             clear hd h0
             go_simp
             first | exact ⟨_, rfl, Ext.refl _, rfl⟩ | exact ⟨Ext.refl _, rfl⟩ | exact rfl | exact ⟨_, rfl, rfl⟩ | exact Ext.refl _
           · intro A wa hxa hd h0
             obtain ⟨ea, rfl⟩ := Later.mk_ex hxa
             have q1 := depOn hd 1 32 (by kernel_rfl) rfl
             simp [callF] at q1
             clear hd h0
             go_simp
             first | exact ⟨_, rfl, Ext.refl _, rfl⟩ | exact ⟨Ext.refl _, rfl⟩ | exact rfl | exact ⟨_, rfl, rfl⟩ | exact Ext.refl _
           · intro A wa hxa hd h0
             obtain ⟨ea, rfl⟩ := Later.mk_ex hxa
             have r5 := rest_at h0 5 (by kernel_rfl)
             simp at r5
             clear hd h0
             go_simp
             first | exact ⟨_, rfl, Ext.refl _, rfl⟩ | exact ⟨Ext.refl _, rfl⟩ | exact rfl | exact ⟨_, rfl, rfl⟩ | exact Ext.refl _
           · intro A wa hxa hd h0
             obtain ⟨ea, rfl⟩ := Later.mk_ex hxa
             have q2 := depOn hd 2 33 (by kernel_rfl) rfl
             simp [callF] at q2
             have q3 := depOn hd 3 34 (by kernel_rfl) rfl
             simp [callF] at q3
             clear hd h0
             go_simp
             first | exact ⟨_, rfl, Ext.refl _, rfl⟩ | exact ⟨Ext.refl _, rfl⟩ | exact rfl | exact ⟨_, rfl, rfl⟩ | exact Ext.refl _
           · intro A wa hxa hd h0
             obtain ⟨ea, rfl⟩ := Later.mk_ex hxa
             have q4 := depOn hd 4 35 (by kernel_rfl) rfl
             simp [callF] at q4
             clear hd h0
             go_simp
             first | exact ⟨_, rfl, Ext.refl _, rfl⟩ | exact ⟨Ext.refl _, rfl⟩ | exact rfl | exact ⟨_, rfl, rfl⟩ | exact Ext.refl _
           · intro A wa hxa hd h0
             obtain ⟨ea, rfl⟩ := Later.mk_ex hxa
             have q5 := depOn hd 5 36 (by kernel_rfl) rfl
             simp [callF] at q5
             clear hd h0
             go_simp
             first | exact ⟨_, rfl, Ext.refl _, rfl⟩ | exact ⟨Ext.refl _, rfl⟩ | exact rfl | exact ⟨_, rfl, rfl⟩ | exact Ext.refl _
           · intro A wa hxa hd h0
             obtain ⟨ea, rfl⟩ := Later.mk_ex hxa
             have q0 := depOn hd 0 31 (by kernel_rfl) rfl
             simp [callF] at q0
             have q6 := depOn hd 6 37 (by kernel_rfl) rfl
             simp [callF] at q6
             clear hd h0
             go_simp
             refine (HM.out ea).mono ?_
             rintro e w2 ⟨u, rfl, hu, hx⟩
             go_simp
             first | exact ⟨_, rfl, hx, u, rfl, hu⟩ | exact ⟨hx, u, rfl, hu⟩ | exact ⟨_, rfl, u, rfl, hu⟩ | exact ⟨_, rfl, (show callF _ _ _ _ _ _ _ from ⟨u, rfl, hu⟩)⟩
         intro A wa hk
         obtain ⟨hxa, hsz, hdf, hdn, hrs⟩ := hk
         obtain ⟨ea, rfl⟩ := Later.mk_ex hxa
         obtain ⟨u, k38, hu⟩ := (show ∃ v', A.tmps.getD 38 undef = .agg #[v', .bool okn] ∧ SStr ea.w nn v' from hdn 7 38 rfl rfl)
         simp at k38
         have k0 := rest_at hrs 0 (by kernel_rfl)
         simp at k0
         have k1 := rest_at hrs 1 (by kernel_rfl)
         simp at k1
         have k2 := rest_at hrs 2 (by kernel_rfl)
         simp at k2
         have k3 := rest_at hrs 3 (by kernel_rfl)
         simp at k3
         have k4 := rest_at hrs 4 (by kernel_rfl)
         simp at k4
         have k5 := rest_at hrs 5 (by kernel_rfl)
         simp at k5
         have k6 := rest_at hrs 6 (by kernel_rfl)
         simp at k6
         have k7 := rest_at hrs 7 (by kernel_rfl)
         simp at k7
         have k8 := rest_at hrs 8 (by kernel_rfl)
         simp at k8
         have k9 := rest_at hrs 9 (by kernel_rfl)
         simp at k9
         have k10 := rest_at hrs 10 (by kernel_rfl)
         simp at k10
         have k11 := rest_at hrs 11 (by kernel_rfl)
         simp at k11
         have k12 := rest_at hrs 12 (by kernel_rfl)
         simp at k12
         have k13 := rest_at hrs 13 (by kernel_rfl)
         simp at k13
         have k14 := rest_at hrs 14 (by kernel_rfl)
         simp at k14
         have k15 := rest_at hrs 15 (by kernel_rfl)
         simp at k15
         have k16 := rest_at hrs 16 (by kernel_rfl)
         simp at k16
         have k17 := rest_at hrs 17 (by kernel_rfl)
         simp at k17
         have k18 := rest_at hrs 18 (by kernel_rfl)
         simp at k18
         have k19 := rest_at hrs 19 (by kernel_rfl)
         simp at k19
         have k20 := rest_at hrs 20 (by kernel_rfl)
         simp at k20
         have k21 := rest_at hrs 21 (by kernel_rfl)
         simp at k21
         have k22 := rest_at hrs 22 (by kernel_rfl)
         simp at k22
         have k23 := rest_at hrs 23 (by kernel_rfl)
         simp at k23
         have k24 := rest_at hrs 24 (by kernel_rfl)
         simp at k24
         have k25 := rest_at hrs 25 (by kernel_rfl)
         simp at k25
         have k26 := rest_at hrs 26 (by kernel_rfl)
         simp at k26
         have k27 := rest_at hrs 27 (by kernel_rfl)
         simp at k27
         have k28 := rest_at hrs 28 (by kernel_rfl)
         simp at k28
         have k29 := rest_at hrs 29 (by kernel_rfl)
         simp at k29
         have k30 := rest_at hrs 30 (by kernel_rfl)
         simp at k30
         have k39 := rest_at hrs 39 (by kernel_rfl)
         simp at k39
         clear hdn hrs
         rw [act_lit hsz hdf]
         simp [List.range, List.range.loop, k38, k0, k1, k2, k3, k4, k5, k6, k7, k8, k9, k10, k11, k12, k13, k14, k15, k16, k17, k18, k19, k20, k21, k22, k23, k24, k25, k26, k27, k28, k29, k30, k39]
         clear k38 k0 k1 k2 k3 k4 k5 k6 k7 k8 k9 k10 k11 k12 k13 k14 k15 k16 k17 k18 k19 k20 k21 k22 k23 k24 k25 k26 k27 k28 k29 k30 k39 hsz hdf
         generalize A.tmps[31]?.getD undef = A31 at *
         generalize A.tmps[32]?.getD undef = A32 at *
         generalize A.tmps[33]?.getD undef = A33 at *
         generalize A.tmps[34]?.getD undef = A34 at *
         generalize A.tmps[35]?.getD undef = A35 at *
         generalize A.tmps[36]?.getD undef = A36 at *
         generalize A.tmps[37]?.getD undef = A37 at *
         have hb6 := HB5.out.ext ea.ext
         obtain ⟨g0, g1⟩ := hb6.get2
         obtain ⟨h0, h1⟩ := hb6.free2
         have ou : u.oneCell' = true := by obtain ⟨a, c, rfl, -⟩ := hu; rfl
         have HZ := hide (show ToldT w3 ((tnIs m.items ++ m.ports.map Prt.name) ++ (m.params.map Bnd.name).take (k + 1)) (yes (okN m ((tnIs m.items ++ m.ports.map Prt.name) ++ (m.params.map Bnd.name).take (k + 1)))) ((ea.w.setCell ⟨w3.heap.size, 0, none⟩ u).setCell ⟨w3.heap.size, 1, none⟩ (.bool okn)) from by
           rw [← HOKN.out, HNM.out, ← List.append_assoc, hnn]; exact (HTI.out.later ea.ext).store hu)
         clear hb6 hu HM x0 x1 x2 x3 y0 y1 y2 y3 d0 s0 s1
         go_wp2_with fail
         go_roundw
         case rel => exact ⟨k + 1, by omega, by go_num, HZ.out⟩
         case measure => simp [intOf]; omega
       · have hkl : k = m.params.length := by omega
         subst hkl
         obtain ⟨x0, x1, x2, x3⟩ := (HBX.out.ext hx).get4
         rw [show m.params.length = (m.params.map Bnd.name).length by simp, List.take_length, List.append_assoc] at HTI
         obtain ⟨vs, hbs, hss⟩ := HTI.out.scp
         obtain ⟨s0, s1⟩ := hbs.get2
         have hres := HRES.out.ext hx
         rw [hz1] at hres
         obtain ⟨r0, r1⟩ := hres.get2
         obtain ⟨g0, g1⟩ := hres.free2
         have ovs : vs.oneCell' = true := by obtain ⟨a, c, rfl, -⟩ := hss; rfl
         obtain ⟨okl, hokl⟩ : ∃ okl, okl = yes (okN m (ownN m)) := ⟨_, rfl⟩
         have HOK := hide hokl
         have hokl' : yes (okN m (tnIs m.items ++ (m.ports.map Prt.name ++ m.params.map Bnd.name))) = okl := hokl.symm
         rw [hokl'] at s1
         have HFIN := hide (And.intro (hss.scp (b' := okl) hres (fun s h => by cases h) hss.no) (((HX3.out.trans hx).setCell (p := ⟨w.heap.size + 1, 0, none⟩) (Nat.le_succ _) vs).setCell (p := ⟨w.heap.size + 1, 1, none⟩) (Nat.le_succ _) (.bool okl)))
         obtain ⟨j0, j1⟩ := (hres.store2 vs (.bool okl)).get2
         have j2 := (hres.set_ 0 vs).get2.1
         clear hbs hss hx hres hokl hokl'
         go_wp2_with fail
         refine bodyPost_ret (v := .agg #[vs, .bool okl]) (by simp [results, Tryz.results79, go_sem, j0, j1, j2]) rfl ⟨_, by rw [HOK.out], HFIN.out.1, HFIN.out.2⟩
end Go.Proofs.YtjoglnjpgkobeaaGreatDoor
