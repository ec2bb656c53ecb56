import Derived.Test.YtjoglnjpgkobeaaGreatDoorProg
import Derived.Test.YtjoglnjpgkobeaaGreatDoorS29
import Derived.Test.YtjoglnjpgkobeaaGreatDoorS11
import Derived.Test.YtjoglnjpgkobeaaGreatDoorS3
import Derived.Test.YtjoglnjpgkobeaaGreatDoorS28
set_option linter.all false
set_option linter.unusedVariables false
set_option linter.unusedSimpArgs false
namespace Go.Proofs.YtjoglnjpgkobeaaGreatDoor
open Go Go.RowKit
attribute [local go_sem] run_store_one
theorem ofI_len : ∀ x : Itm, (ofI x).length ≤ sizeI x := by
 intro x
 induction x using Itm.ind with
 | h x h1 h2 =>
   have hl : ∀ l : List Itm, (∀ y, y ∈ l → (ofI y).length ≤ sizeI y) → (ofIs l).length ≤ msize sizeI l := by
     intro l
     induction l with
     | nil => intro _; exact Nat.le_refl _
     | cons y r ih =>
       intro h
       have g1 := h y (List.mem_cons_self ..)
       have g2 := ih fun z hz => h z (List.mem_cons_of_mem _ hz)
       show (ofI y ++ ofIs r).length ≤ sizeI y + msize sizeI r
       rw [List.length_append]; omega
   have e1 := hl _ h1
   have e2 := hl _ h2
   have e3 := sizeI_eq x
   rw [ofI_eq, List.length_append, List.length_append]
   split <;> simp <;> omega
theorem ofIs_len (l : List Itm) : (ofIs l).length ≤ msize sizeI l := by
 induction l with
 | nil => exact Nat.le_refl _
 | cons y r ih =>
   have := ofI_len y
   show (ofI y ++ ofIs r).length ≤ sizeI y + msize sizeI r
   rw [List.length_append]; omega
theorem ofIs_step {l : List Itm} {k : Nat} (hk : k < l.length) : ofIs (l.take (k + 1)) = ofIs (l.take k) ++ ((if l[k].op = 7 then [l[k].of] else []) ++ (ofIs l[k].l ++ ofIs l[k].els)) := by
 rw [List.take_succ_eq_append_getElem hk, ofIs_append]
 show _ ++ (ofI l[k] ++ []) = _
 rw [List.append_nil, ofI_eq]
def ruseF (xg : Nat) (vl : Value) (k : Nat) (p p5 p6 : Addr) (v5 v6 vo : Value) (l1 l2 : List ByteArray) (i : Nat) (v : Value) (w : World) : Prop := match i with
 | 0 => v = vo
 | 1 => v = vl
 | 2 => v = .int .i64 k
 | 3 => v = .pointer (some p)
 | 4 => v = .pointer (some p5)
 | 5 => v = v5
 | 6 => SStr w l1 v
 | 7 => v = vl
 | 8 => v = .int .i64 k
 | 9 => v = .pointer (some p)
 | 10 => v = .pointer (some p6)
 | 11 => v = v6
 | 12 => SStr w l2 v
 | 13 => SStr w l2 v
 | _ => True
theorem ruseF_ext {xg : Nat} {vl : Value} {k : Nat} {p p5 p6 : Addr} {v5 v6 vo : Value} {l1 l2 : List ByteArray} {i : Nat} {v : Value} {w w' : World} (h : ruseF xg vl k p p5 p6 v5 v6 vo l1 l2 i v w) (hx : Ext w w') : ruseF xg vl k p p5 p6 v5 v6 vo l1 l2 i v w' := by
 unfold ruseF at h ⊢
 split at h <;> first | exact h | exact h.ext hx
set_option maxRecDepth 20000 in
set_option maxHeartbeats 8000000 in
theorem ruses_lt (B : Nat) (m : Nat) : ∀ (l : List Itm) (w : World) (v vo : Value) (out : List ByteArray), Sl (RI w B) w B 9 l v → B ≤ w.heap.size → SStr w out vo → out.length + msize sizeI l ≤ 300000000 → msize sizeI l < m →
   Calls Tryz.prog 49 #[vo, v] w fun e w' => ∃ v', e = .returned v' ∧ SStr w' (addAll out (ofIs l)) v' ∧ Ext w w' := by
 induction m with
 | zero => intro l w v vo out _ _ _ _ h; omega
 | succ m ih =>
 intro l w v vo out hS hB hO hsz hm
 obtain ⟨a, cap, rfl, hcap, hrow⟩ := hS
 have hln := length_le_msize sizeI l sizeI_pos
 have IH := hide ih
 have HO := hide hO
 clear ih hO
 go_enter Tryz.func49, Tryz.ntmps49
 go_wp2_with fail
 go_loopw [0, 5] (fun vr i wr => ∃ k : Nat, k ≤ l.length ∧ i = .int .i64 k ∧ SStr wr (addAll out (ofIs (l.take k))) vr ∧ Ext w wr) (fun _ i _ => l.length - (intOf i).toNat)
 case atStart => exact ⟨0, Nat.zero_le _, rfl, by simpa [ofIs, addAll_nil] using HO.out, Ext.refl _⟩
 case round =>
   obtain ⟨k, hk, rfl, hso, hx⟩ := hrel
   have hle := msize_take_le sizeI l k
   have hlab := ofIs_len (l.take k)
   have hall := addAll_le (ofIs (l.take k)) out
   by_cases hlt : k < l.length
   · have hsu := msize_take_succ sizeI l k hlt
     have hs1 := msize_take_le sizeI l (k + 1)
     have hs2 := msize_mem sizeI l l[k] (List.getElem_mem hlt)
     have hst := ofIs_step hlt
     obtain ⟨b, o, v0, v1, v2, v3, v4, v5, v6, v7, v8, rfl, hbB, hE, hC, o0, o1, o2, o3, o4, o5, o6, o7, o8⟩ := hrow.open9 hlt
     generalize l[k] = y at *
     obtain ⟨_, _, _, _, _, _, he, hX, hSS, hL, hE', hP, hBb⟩ := RI_iff.1 hE
     simp only [List.cons.injEq, and_true] at he
     obtain ⟨rfl, rfl, rfl, rfl, rfl, rfl, rfl, rfl, rfl⟩ := he
     obtain ⟨d0, d1, d2, d3, d4, d5, d6, d7, d8⟩ := (hC.ext hx).get9
     have HC := hide hC
     have hdef := sizeI_eq y
     have hB' : B ≤ wr.heap.size := Nat.le_trans hB hx.size
     have HL := hide (fun (w' : World) (hw : Ext wr w') => hL.extRI (hx.trans hw) hB)
     have HE := hide (fun (w' : World) (hw : Ext wr w') => hE'.extRI (hx.trans hw) hB)
     have m1 : msize sizeI y.l < m := by omega
     have m2 : msize sizeI y.els < m := by omega
     have hlen : (addAll out (ofIs (l.take k))).length + 1 + msize sizeI y.l + msize sizeI y.els ≤ 300000000 := by omega
     have HX := hide hx
     have HS := hide hso
     have HA := hide (show addAll out (ofIs (l.take (k + 1))) = addAll (addAll (addAll (addAll out (ofIs (l.take k))) (if y.op = 7 then [y.of] else [])) (ofIs y.l)) (ofIs y.els) from by
       rw [hst, addAll_append, addAll_append, addAll_append])
     have l1 := ofIs_len y.l
     have l2 := ofIs_len y.els
     clear hC hrow hE hsu hX hL hE' hSS hP hBb hdef hs2 hx hso hst hlab hall
     generalize addAll out (ofIs (l.take k)) = oo at *
     by_cases h7 : y.op = 7
     · rw [if_pos h7, addAll_one] at HA
       rw [h7] at d0
       have HM := hide (rmore_any oo y.of wr u0 HS.out (by omega))
       have hlo : (addOne oo y.of).length ≤ oo.length + 1 := addAll_le [y.of] _
       clear h7
       go_wp2_with fail
       go_at_call 53
       refine HM.out.mono ?_
       rintro _ wz ⟨xo, rfl, hsz, hxz⟩
       have HXZ := hide hxz
       have HSZ := hide hsz
       clear hxz hsz HM d0 d1 d2 d3 d4 d5 d6 d7 d8
       obtain ⟨oz, hoz, hozl⟩ : ∃ oz, addOne oo y.of = oz ∧ oz.length ≤ oo.length + 1 := ⟨_, rfl, by omega⟩
       rw [hoz] at HA HSZ
       clear hoz hlo
       go_wp2_with fail
       obtain ⟨e0, e1, e2, e3, e4, e5, e6, e7, e8⟩ := (HC.out.ext (HX.out.trans HXZ.out)).later9
       refine wp_region_facts_j (W := wz) (ruseF 0 (.slice (some ⟨b, o, none⟩) l.length cap) k ⟨b, o + k * 9, none⟩ ⟨b, o + k * 9 + 5, none⟩ ⟨b, o + k * 9 + 6, none⟩ v5 v6 xo (addAll oz (ofIs y.l)) (addAll (addAll oz (ofIs y.l)) (ofIs y.els))) (onceJ 0 13 0 xo) (by kernel_rfl) (by kernel_rfl) ?_ (Ext.refl _) ⟨fun h => (by cases h), fun _ => rfl⟩ ?_ ?_
       · simp [GuardsMet, ruseF]
       · refine ⟨?_, ?_, ?_, ?_, ?_, ?_, ?_, ?_, ?_, ?_, ?_, ?_, ?_, ?_, trivial⟩
         · intro L A wa hxa hli haf hsz hd h0 hJ
           obtain ⟨ea, rfl⟩ := Later.mk_ex hxa
           have rr := onceJ_at hJ hli
           unfold tau at rr
           simp at rr
           have HJ := hide hJ
           clear hd h0 hJ haf hli hsz
           go_simp
           first | exact ⟨_, rfl, ea.ext, fun j u h => h, rfl, onceJ_read (d := some 25) rfl (by decide) HJ.out⟩ | exact ⟨_, rfl, rfl, onceJ_read (d := some 25) rfl (by decide) HJ.out⟩ | (trace_state; fail)
         · refine StepJ.plain (S := [0, 13]) (T := [0]) (onceJ_looks 0 13 0 xo) (fun i v w w' h hx => ruseF_ext h hx) (by decide) (by decide) ?_
           intro A wa hxa hd h0
           obtain ⟨ea, rfl⟩ := Later.mk_ex hxa
           have r1 := rest_at h0 1 (by kernel_rfl)
           simp at r1
           clear hd h0
           go_simp
           first | exact ⟨_, rfl, Ext.refl _, rfl⟩ | exact ⟨Ext.refl _, rfl⟩ | exact rfl | exact ⟨_, rfl, rfl⟩
         · refine StepJ.plain (S := [0, 13]) (T := [0]) (onceJ_looks 0 13 0 xo) (fun i v w w' h hx => ruseF_ext h hx) (by decide) (by decide) ?_
           intro A wa hxa hd h0
           obtain ⟨ea, rfl⟩ := Later.mk_ex hxa
           have r5 := rest_at h0 5 (by kernel_rfl)
           simp at r5
           clear hd h0
           go_simp
           first | exact ⟨_, rfl, Ext.refl _, rfl⟩ | exact ⟨Ext.refl _, rfl⟩ | exact rfl | exact ⟨_, rfl, rfl⟩
         · refine StepJ.plain (S := [0, 13]) (T := [0]) (onceJ_looks 0 13 0 xo) (fun i v w w' h hx => ruseF_ext h hx) (by decide) (by decide) ?_
           intro A wa hxa hd h0
           obtain ⟨ea, rfl⟩ := Later.mk_ex hxa
           have q1 := depOn hd 1 26 (by kernel_rfl) rfl
           simp [ruseF] at q1
           have q2 := depOn hd 2 27 (by kernel_rfl) rfl
           simp [ruseF] at q2
           clear hd h0
           go_simp
           first | exact ⟨_, rfl, Ext.refl _, rfl⟩ | exact ⟨Ext.refl _, rfl⟩ | exact rfl | exact ⟨_, rfl, rfl⟩
         · refine StepJ.plain (S := [0, 13]) (T := [0]) (onceJ_looks 0 13 0 xo) (fun i v w w' h hx => ruseF_ext h hx) (by decide) (by decide) ?_
           intro A wa hxa hd h0
           obtain ⟨ea, rfl⟩ := Later.mk_ex hxa
           have q3 := depOn hd 3 28 (by kernel_rfl) rfl
           simp [ruseF] at q3
           clear hd h0
           go_simp
           first | exact ⟨_, rfl, Ext.refl _, rfl⟩ | exact ⟨Ext.refl _, rfl⟩ | exact rfl | exact ⟨_, rfl, rfl⟩
         · refine StepJ.plain (S := [0, 13]) (T := [0]) (onceJ_looks 0 13 0 xo) (fun i v w w' h hx => ruseF_ext h hx) (by decide) (by decide) ?_
           intro A wa hxa hd h0
           obtain ⟨ea, rfl⟩ := Later.mk_ex hxa
           have q4 := depOn hd 4 29 (by kernel_rfl) rfl
           simp [ruseF] at q4
           clear hd h0
           go_simp
           first | exact ⟨_, rfl, Ext.refl _, rfl⟩ | exact ⟨Ext.refl _, rfl⟩ | exact rfl | exact ⟨_, rfl, rfl⟩
         · refine StepJ.plain (S := [0, 13]) (T := [0]) (onceJ_looks 0 13 0 xo) (fun i v w w' h hx => ruseF_ext h hx) (by decide) (by decide) ?_
           intro A wa hxa hd h0
           obtain ⟨ea, rfl⟩ := Later.mk_ex hxa
           have q0 := depOn hd 0 25 (by kernel_rfl) rfl
           simp [ruseF] at q0
           have q5 := depOn hd 5 30 (by kernel_rfl) rfl
           simp [ruseF] at q5
           clear hd h0
           go_simp
           refine (IH.out y.l ea.w _ xo oz (HL.out _ (HXZ.out.trans ea.ext)) (Nat.le_trans hB' (HXZ.out.trans ea.ext).size) (HSZ.out.ext ea.ext) (by omega) m1).mono ?_
           rintro e w2 ⟨y6, rfl, hy6, hx⟩
           go_simp
           first | exact ⟨_, rfl, hx, hy6⟩ | exact ⟨hx, hy6⟩ | exact hy6 | exact ⟨_, rfl, hy6⟩
         · refine StepJ.plain (S := [0, 13]) (T := [0]) (onceJ_looks 0 13 0 xo) (fun i v w w' h hx => ruseF_ext h hx) (by decide) (by decide) ?_
           intro A wa hxa hd h0
           obtain ⟨ea, rfl⟩ := Later.mk_ex hxa
           have r1 := rest_at h0 1 (by kernel_rfl)
           simp at r1
           clear hd h0
           go_simp
           first | exact ⟨_, rfl, Ext.refl _, rfl⟩ | exact ⟨Ext.refl _, rfl⟩ | exact rfl | exact ⟨_, rfl, rfl⟩
         · refine StepJ.plain (S := [0, 13]) (T := [0]) (onceJ_looks 0 13 0 xo) (fun i v w w' h hx => ruseF_ext h hx) (by decide) (by decide) ?_
           intro A wa hxa hd h0
           obtain ⟨ea, rfl⟩ := Later.mk_ex hxa
           have r5 := rest_at h0 5 (by kernel_rfl)
           simp at r5
           clear hd h0
           go_simp
           first | exact ⟨_, rfl, Ext.refl _, rfl⟩ | exact ⟨Ext.refl _, rfl⟩ | exact rfl | exact ⟨_, rfl, rfl⟩
         · refine StepJ.plain (S := [0, 13]) (T := [0]) (onceJ_looks 0 13 0 xo) (fun i v w w' h hx => ruseF_ext h hx) (by decide) (by decide) ?_
           intro A wa hxa hd h0
           obtain ⟨ea, rfl⟩ := Later.mk_ex hxa
           have q7 := depOn hd 7 32 (by kernel_rfl) rfl
           simp [ruseF] at q7
           have q8 := depOn hd 8 33 (by kernel_rfl) rfl
           simp [ruseF] at q8
           clear hd h0
           go_simp
           first | exact ⟨_, rfl, Ext.refl _, rfl⟩ | exact ⟨Ext.refl _, rfl⟩ | exact rfl | exact ⟨_, rfl, rfl⟩
         · refine StepJ.plain (S := [0, 13]) (T := [0]) (onceJ_looks 0 13 0 xo) (fun i v w w' h hx => ruseF_ext h hx) (by decide) (by decide) ?_
           intro A wa hxa hd h0
           obtain ⟨ea, rfl⟩ := Later.mk_ex hxa
           have q9 := depOn hd 9 34 (by kernel_rfl) rfl
           simp [ruseF] at q9
           clear hd h0
           go_simp
           first | exact ⟨_, rfl, Ext.refl _, rfl⟩ | exact ⟨Ext.refl _, rfl⟩ | exact rfl | exact ⟨_, rfl, rfl⟩
         · refine StepJ.plain (S := [0, 13]) (T := [0]) (onceJ_looks 0 13 0 xo) (fun i v w w' h hx => ruseF_ext h hx) (by decide) (by decide) ?_
           intro A wa hxa hd h0
           obtain ⟨ea, rfl⟩ := Later.mk_ex hxa
           have q10 := depOn hd 10 35 (by kernel_rfl) rfl
           simp [ruseF] at q10
           clear hd h0
           go_simp
           first | exact ⟨_, rfl, Ext.refl _, rfl⟩ | exact ⟨Ext.refl _, rfl⟩ | exact rfl | exact ⟨_, rfl, rfl⟩
         · refine StepJ.plain (S := [0, 13]) (T := [0]) (onceJ_looks 0 13 0 xo) (fun i v w w' h hx => ruseF_ext h hx) (by decide) (by decide) ?_
           intro A wa hxa hd h0
           obtain ⟨ea, rfl⟩ := Later.mk_ex hxa
           obtain ⟨x6, q6, hs6⟩ : ∃ x, A.tmps.getD 31 undef = x ∧ SStr ea.w (addAll oz (ofIs y.l)) x := ⟨_, rfl, depOn hd 6 31 (by kernel_rfl) rfl⟩
           simp at q6
           have q11 := depOn hd 11 36 (by kernel_rfl) rfl
           simp [ruseF] at q11
           clear hd h0
           go_simp
           refine (IH.out y.els ea.w _ x6 _ (HE.out _ (HXZ.out.trans ea.ext)) (Nat.le_trans hB' (HXZ.out.trans ea.ext).size) hs6 (by have := addAll_le (ofIs y.l) oz; omega) m2).mono ?_
           rintro e w2 ⟨y12, rfl, hy12, hx⟩
           go_simp
           first | exact ⟨_, rfl, hx, hy12⟩ | exact ⟨hx, hy12⟩ | exact hy12 | exact ⟨_, rfl, hy12⟩
         · intro L A wa hxa hli haf hsz hd h0 hJ
           obtain ⟨ea, rfl⟩ := Later.mk_ex hxa
           obtain ⟨x12, q12, hs12⟩ : ∃ x, A.tmps.getD 37 undef = x ∧ SStr ea.w (addAll (addAll oz (ofIs y.l)) (ofIs y.els)) x := ⟨_, rfl, depOn hd 12 37 (by kernel_rfl) rfl⟩
           simp at q12
           have hr9 := haf_on haf 0 (by kernel_rfl)
           clear hd h0 hJ haf hli hsz
           go_simp
           first | exact ⟨_, rfl, ea.ext, fun j u h => h, hs12, onceJ_write (A := A) (w := ea.w) (u := _) rfl hr9⟩ | exact ⟨_, rfl, hs12, onceJ_write (A := A) (w := ea.w) (u := _) rfl hr9⟩ | (trace_state; fail)
       intro A wa hk hJ
       obtain ⟨hxa, hsz, hdf, hdn, hrs⟩ := hk
       obtain ⟨ea, rfl⟩ := Later.mk_ex hxa
       obtain ⟨x0, k0, hs0⟩ : ∃ x, A.tmps.getD 0 undef = x ∧ SStr ea.w (addAll (addAll oz (ofIs y.l)) (ofIs y.els)) x := ⟨_, rfl, hdn 13 0 rfl rfl⟩
       have k1 := rest_at hrs 1 (by kernel_rfl)
       simp at k1
       have k2 := rest_at hrs 2 (by kernel_rfl)
       simp at k2
       have k3 := rest_at hrs 3 (by kernel_rfl)
       simp at k3
       have k4 := rest_at hrs 4 (by kernel_rfl)
       simp at k4
       have k5 := rest_at hrs 5 (by kernel_rfl)
       simp at k5
       have k6 := rest_at hrs 6 (by kernel_rfl)
       simp at k6
       have k7 := rest_at hrs 7 (by kernel_rfl)
       simp at k7
       have k8 := rest_at hrs 8 (by kernel_rfl)
       simp at k8
       have k9 := rest_at hrs 9 (by kernel_rfl)
       simp at k9
       have k10 := rest_at hrs 10 (by kernel_rfl)
       simp at k10
       have k11 := rest_at hrs 11 (by kernel_rfl)
       simp at k11
       have k12 := rest_at hrs 12 (by kernel_rfl)
       simp at k12
       have k13 := rest_at hrs 13 (by kernel_rfl)
       simp at k13
       have k14 := rest_at hrs 14 (by kernel_rfl)
       simp at k14
       have k15 := rest_at hrs 15 (by kernel_rfl)
       simp at k15
       have k16 := rest_at hrs 16 (by kernel_rfl)
       simp at k16
       have k17 := rest_at hrs 17 (by kernel_rfl)
       simp at k17
       have k18 := rest_at hrs 18 (by kernel_rfl)
       simp at k18
       have k19 := rest_at hrs 19 (by kernel_rfl)
       simp at k19
       have k20 := rest_at hrs 20 (by kernel_rfl)
       simp at k20
       have k21 := rest_at hrs 21 (by kernel_rfl)
       simp at k21
       have k22 := rest_at hrs 22 (by kernel_rfl)
       simp at k22
       have k23 := rest_at hrs 23 (by kernel_rfl)
       simp at k23
       have k24 := rest_at hrs 24 (by kernel_rfl)
       simp at k24
       have k38 := rest_at hrs 38 (by kernel_rfl)
       simp at k38
       clear hdn hrs
       rw [act_lit hsz hdf]
       simp [List.range, List.range.loop] at k0
       simp [List.range, List.range.loop, k0, k1, k2, k3, k4, k5, k6, k7, k8, k9, k10, k11, k12, k13, k14, k15, k16, k17, k18, k19, k20, k21, k22, k23, k24, k38]
       clear k0 k1 k2 k3 k4 k5 k6 k7 k8 k9 k10 k11 k12 k13 k14 k15 k16 k17 k18 k19 k20 k21 k22 k23 k24 k38 hsz hdf
       generalize A.tmps[25]?.getD undef = A25 at *
       generalize A.tmps[26]?.getD undef = A26 at *
       generalize A.tmps[27]?.getD undef = A27 at *
       generalize A.tmps[28]?.getD undef = A28 at *
       generalize A.tmps[29]?.getD undef = A29 at *
       generalize A.tmps[30]?.getD undef = A30 at *
       generalize A.tmps[31]?.getD undef = A31 at *
       generalize A.tmps[32]?.getD undef = A32 at *
       generalize A.tmps[33]?.getD undef = A33 at *
       generalize A.tmps[34]?.getD undef = A34 at *
       generalize A.tmps[35]?.getD undef = A35 at *
       generalize A.tmps[36]?.getD undef = A36 at *
       generalize A.tmps[37]?.getD undef = A37 at *
       have FIN := hide (And.intro hs0 (HX.out.trans (HXZ.out.trans ea.ext)))
       clear hs0
       go_wp2_with fail
       go_roundw
       case rel => exact ⟨k + 1, by omega, by go_num, by rw [HA.out]; exact FIN.out.1, FIN.out.2⟩
       case measure => simp [intOf]; omega
     · rw [if_neg h7, addAll_nil] at HA
       have h7' : ((y.op : Int) == 7) = false := by simpa using h7
       obtain ⟨wz, hwz⟩ : ∃ wz, wz = wr := ⟨_, rfl⟩
       subst hwz
       have HXZ := hide (Ext.refl wz)
       obtain ⟨xo, hxo⟩ : ∃ xo, xo = u0 := ⟨_, rfl⟩
       subst hxo
       have HSZ := HS
       obtain ⟨oz, hoz, hozl⟩ : ∃ oz, oo = oz ∧ oz.length ≤ oo.length + 1 := ⟨_, rfl, by omega⟩
       rw [hoz] at HA HSZ
       clear hoz h7
       generalize y.op = yo at *
       go_wp2_with fail
       clear d0 d1 d2 d3 d4 d5 d6 d7 d8 h7'
       obtain ⟨e0, e1, e2, e3, e4, e5, e6, e7, e8⟩ := (HC.out.ext (HX.out.trans HXZ.out)).later9
       refine wp_region_facts_j (W := wz) (ruseF 0 (.slice (some ⟨b, o, none⟩) l.length cap) k ⟨b, o + k * 9, none⟩ ⟨b, o + k * 9 + 5, none⟩ ⟨b, o + k * 9 + 6, none⟩ v5 v6 xo (addAll oz (ofIs y.l)) (addAll (addAll oz (ofIs y.l)) (ofIs y.els))) (onceJ 0 13 0 xo) (by kernel_rfl) (by kernel_rfl) ?_ (Ext.refl _) ⟨fun h => (by cases h), fun _ => rfl⟩ ?_ ?_
       · simp [GuardsMet, ruseF]
       · refine ⟨?_, ?_, ?_, ?_, ?_, ?_, ?_, ?_, ?_, ?_, ?_, ?_, ?_, ?_, trivial⟩
         · intro L A wa hxa hli haf hsz hd h0 hJ
           obtain ⟨ea, rfl⟩ := Later.mk_ex hxa
           have rr := onceJ_at hJ hli
           unfold tau at rr
           simp at rr
           have HJ := hide hJ
           clear hd h0 hJ haf hli hsz
           go_simp
           first | exact ⟨_, rfl, ea.ext, fun j u h => h, rfl, onceJ_read (d := some 25) rfl (by decide) HJ.out⟩ | exact ⟨_, rfl, rfl, onceJ_read (d := some 25) rfl (by decide) HJ.out⟩ | (trace_state; fail)
         · refine StepJ.plain (S := [0, 13]) (T := [0]) (onceJ_looks 0 13 0 xo) (fun i v w w' h hx => ruseF_ext h hx) (by decide) (by decide) ?_
           intro A wa hxa hd h0
           obtain ⟨ea, rfl⟩ := Later.mk_ex hxa
           have r1 := rest_at h0 1 (by kernel_rfl)
           simp at r1
           clear hd h0
           go_simp
           first | exact ⟨_, rfl, Ext.refl _, rfl⟩ | exact ⟨Ext.refl _, rfl⟩ | exact rfl | exact ⟨_, rfl, rfl⟩
         · refine StepJ.plain (S := [0, 13]) (T := [0]) (onceJ_looks 0 13 0 xo) (fun i v w w' h hx => ruseF_ext h hx) (by decide) (by decide) ?_
           intro A wa hxa hd h0
           obtain ⟨ea, rfl⟩ := Later.mk_ex hxa
           have r5 := rest_at h0 5 (by kernel_rfl)
           simp at r5
           clear hd h0
           go_simp
           first | exact ⟨_, rfl, Ext.refl _, rfl⟩ | exact ⟨Ext.refl _, rfl⟩ | exact rfl | exact ⟨_, rfl, rfl⟩
         · refine StepJ.plain (S := [0, 13]) (T := [0]) (onceJ_looks 0 13 0 xo) (fun i v w w' h hx => ruseF_ext h hx) (by decide) (by decide) ?_
           intro A wa hxa hd h0
           obtain ⟨ea, rfl⟩ := Later.mk_ex hxa
           have q1 := depOn hd 1 26 (by kernel_rfl) rfl
           simp [ruseF] at q1
           have q2 := depOn hd 2 27 (by kernel_rfl) rfl
           simp [ruseF] at q2
           clear hd h0
           go_simp
           first | exact ⟨_, rfl, Ext.refl _, rfl⟩ | exact ⟨Ext.refl _, rfl⟩ | exact rfl | exact ⟨_, rfl, rfl⟩
         · refine StepJ.plain (S := [0, 13]) (T := [0]) (onceJ_looks 0 13 0 xo) (fun i v w w' h hx => ruseF_ext h hx) (by decide) (by decide) ?_
           intro A wa hxa hd h0
           obtain ⟨ea, rfl⟩ := Later.mk_ex hxa
           have q3 := depOn hd 3 28 (by kernel_rfl) rfl
           simp [ruseF] at q3
           clear hd h0
           go_simp
           first | exact ⟨_, rfl, Ext.refl _, rfl⟩ | exact ⟨Ext.refl _, rfl⟩ | exact rfl | exact ⟨_, rfl, rfl⟩
         · refine StepJ.plain (S := [0, 13]) (T := [0]) (onceJ_looks 0 13 0 xo) (fun i v w w' h hx => ruseF_ext h hx) (by decide) (by decide) ?_
           intro A wa hxa hd h0
           obtain ⟨ea, rfl⟩ := Later.mk_ex hxa
           have q4 := depOn hd 4 29 (by kernel_rfl) rfl
           simp [ruseF] at q4
           clear hd h0
           go_simp
           first | exact ⟨_, rfl, Ext.refl _, rfl⟩ | exact ⟨Ext.refl _, rfl⟩ | exact rfl | exact ⟨_, rfl, rfl⟩
         · refine StepJ.plain (S := [0, 13]) (T := [0]) (onceJ_looks 0 13 0 xo) (fun i v w w' h hx => ruseF_ext h hx) (by decide) (by decide) ?_
           intro A wa hxa hd h0
           obtain ⟨ea, rfl⟩ := Later.mk_ex hxa
           have q0 := depOn hd 0 25 (by kernel_rfl) rfl
           simp [ruseF] at q0
           have q5 := depOn hd 5 30 (by kernel_rfl) rfl
           simp [ruseF] at q5
           clear hd h0
           go_simp
           refine (IH.out y.l ea.w _ xo oz (HL.out _ (HXZ.out.trans ea.ext)) (Nat.le_trans hB' (HXZ.out.trans ea.ext).size) (HSZ.out.ext ea.ext) (by omega) m1).mono ?_
           rintro e w2 ⟨y6, rfl, hy6, hx⟩
           go_simp
           first | exact ⟨_, rfl, hx, hy6⟩ | exact ⟨hx, hy6⟩ | exact hy6 | exact ⟨_, rfl, hy6⟩
         · refine StepJ.plain (S := [0, 13]) (T := [0]) (onceJ_looks 0 13 0 xo) (fun i v w w' h hx => ruseF_ext h hx) (by decide) (by decide) ?_
           intro A wa hxa hd h0
           obtain ⟨ea, rfl⟩ := Later.mk_ex hxa
           have r1 := rest_at h0 1 (by kernel_rfl)
           simp at r1
           clear hd h0
           go_simp
           first | exact ⟨_, rfl, Ext.refl _, rfl⟩ | exact ⟨Ext.refl _, rfl⟩ | exact rfl | exact ⟨_, rfl, rfl⟩
         · refine StepJ.plain (S := [0, 13]) (T := [0]) (onceJ_looks 0 13 0 xo) (fun i v w w' h hx => ruseF_ext h hx) (by decide) (by decide) ?_
           intro A wa hxa hd h0
           obtain ⟨ea, rfl⟩ := Later.mk_ex hxa
           have r5 := rest_at h0 5 (by kernel_rfl)
           simp at r5
           clear hd h0
           go_simp
           first | exact ⟨_, rfl, Ext.refl _, rfl⟩ | exact ⟨Ext.refl _, rfl⟩ | exact rfl | exact ⟨_, rfl, rfl⟩
         · refine StepJ.plain (S := [0, 13]) (T := [0]) (onceJ_looks 0 13 0 xo) (fun i v w w' h hx => ruseF_ext h hx) (by decide) (by decide) ?_
           intro A wa hxa hd h0
           obtain ⟨ea, rfl⟩ := Later.mk_ex hxa
           have q7 := depOn hd 7 32 (by kernel_rfl) rfl
           simp [ruseF] at q7
           have q8 := depOn hd 8 33 (by kernel_rfl) rfl
           simp [ruseF] at q8
           clear hd h0
           go_simp
           first | exact ⟨_, rfl, Ext.refl _, rfl⟩ | exact ⟨Ext.refl _, rfl⟩ | exact rfl | exact ⟨_, rfl, rfl⟩
         · refine StepJ.plain (S := [0, 13]) (T := [0]) (onceJ_looks 0 13 0 xo) (fun i v w w' h hx => ruseF_ext h hx) (by decide) (by decide) ?_
           intro A wa hxa hd h0
           obtain ⟨ea, rfl⟩ := Later.mk_ex hxa
           have q9 := depOn hd 9 34 (by kernel_rfl) rfl
           simp [ruseF] at q9
           clear hd h0
           go_simp
           first | exact ⟨_, rfl, Ext.refl _, rfl⟩ | exact ⟨Ext.refl _, rfl⟩ | exact rfl | exact ⟨_, rfl, rfl⟩
         · refine StepJ.plain (S := [0, 13]) (T := [0]) (onceJ_looks 0 13 0 xo) (fun i v w w' h hx => ruseF_ext h hx) (by decide) (by decide) ?_
           intro A wa hxa hd h0
           obtain ⟨ea, rfl⟩ := Later.mk_ex hxa
           have q10 := depOn hd 10 35 (by kernel_rfl) rfl
           simp [ruseF] at q10
           clear hd h0
           go_simp
           first | exact ⟨_, rfl, Ext.refl _, rfl⟩ | exact ⟨Ext.refl _, rfl⟩ | exact rfl | exact ⟨_, rfl, rfl⟩
         · refine StepJ.plain (S := [0, 13]) (T := [0]) (onceJ_looks 0 13 0 xo) (fun i v w w' h hx => ruseF_ext h hx) (by decide) (by decide) ?_
           intro A wa hxa hd h0
           obtain ⟨ea, rfl⟩ := Later.mk_ex hxa
           obtain ⟨x6, q6, hs6⟩ : ∃ x, A.tmps.getD 31 undef = x ∧ SStr ea.w (addAll oz (ofIs y.l)) x := ⟨_, rfl, depOn hd 6 31 (by kernel_rfl) rfl⟩
           simp at q6
           have q11 := depOn hd 11 36 (by kernel_rfl) rfl
           simp [ruseF] at q11
           clear hd h0
           go_simp
           refine (IH.out y.els ea.w _ x6 _ (HE.out _ (HXZ.out.trans ea.ext)) (Nat.le_trans hB' (HXZ.out.trans ea.ext).size) hs6 (by have := addAll_le (ofIs y.l) oz; omega) m2).mono ?_
           rintro e w2 ⟨y12, rfl, hy12, hx⟩
           go_simp
           first | exact ⟨_, rfl, hx, hy12⟩ | exact ⟨hx, hy12⟩ | exact hy12 | exact ⟨_, rfl, hy12⟩
         · intro L A wa hxa hli haf hsz hd h0 hJ
           obtain ⟨ea, rfl⟩ := Later.mk_ex hxa
           obtain ⟨x12, q12, hs12⟩ : ∃ x, A.tmps.getD 37 undef = x ∧ SStr ea.w (addAll (addAll oz (ofIs y.l)) (ofIs y.els)) x := ⟨_, rfl, depOn hd 12 37 (by kernel_rfl) rfl⟩
           simp at q12
           have hr9 := haf_on haf 0 (by kernel_rfl)
           clear hd h0 hJ haf hli hsz
           go_simp
           first | exact ⟨_, rfl, ea.ext, fun j u h => h, hs12, onceJ_write (A := A) (w := ea.w) (u := _) rfl hr9⟩ | exact ⟨_, rfl, hs12, onceJ_write (A := A) (w := ea.w) (u := _) rfl hr9⟩ | (trace_state; fail)
       intro A wa hk hJ
       obtain ⟨hxa, hsz, hdf, hdn, hrs⟩ := hk
       obtain ⟨ea, rfl⟩ := Later.mk_ex hxa
       obtain ⟨x0, k0, hs0⟩ : ∃ x, A.tmps.getD 0 undef = x ∧ SStr ea.w (addAll (addAll oz (ofIs y.l)) (ofIs y.els)) x := ⟨_, rfl, hdn 13 0 rfl rfl⟩
       have k1 := rest_at hrs 1 (by kernel_rfl)
       simp at k1
       have k2 := rest_at hrs 2 (by kernel_rfl)
       simp at k2
       have k3 := rest_at hrs 3 (by kernel_rfl)
       simp at k3
       have k4 := rest_at hrs 4 (by kernel_rfl)
       simp at k4
       have k5 := rest_at hrs 5 (by kernel_rfl)
       simp at k5
       have k6 := rest_at hrs 6 (by kernel_rfl)
       simp at k6
       have k7 := rest_at hrs 7 (by kernel_rfl)
       simp at k7
       have k8 := rest_at hrs 8 (by kernel_rfl)
       simp at k8
       have k9 := rest_at hrs 9 (by kernel_rfl)
       simp at k9
       have k10 := rest_at hrs 10 (by kernel_rfl)
       simp at k10
       have k11 := rest_at hrs 11 (by kernel_rfl)
       simp at k11
       have k12 := rest_at hrs 12 (by kernel_rfl)
       simp at k12
       have k13 := rest_at hrs 13 (by kernel_rfl)
       simp at k13
       have k14 := rest_at hrs 14 (by kernel_rfl)
       simp at k14
       have k15 := rest_at hrs 15 (by kernel_rfl)
       simp at k15
       have k16 := rest_at hrs 16 (by kernel_rfl)
       simp at k16
       have k17 := rest_at hrs 17 (by kernel_rfl)
       simp at k17
       have k18 := rest_at hrs 18 (by kernel_rfl)
       simp at k18
       have k19 := rest_at hrs 19 (by kernel_rfl)
       simp at k19
       have k20 := rest_at hrs 20 (by kernel_rfl)
       simp at k20
       have k21 := rest_at hrs 21 (by kernel_rfl)
       simp at k21
       have k22 := rest_at hrs 22 (by kernel_rfl)
       simp at k22
       have k23 := rest_at hrs 23 (by kernel_rfl)
       simp at k23
       have k24 := rest_at hrs 24 (by kernel_rfl)
       simp at k24
       have k38 := rest_at hrs 38 (by kernel_rfl)
       simp at k38
       clear hdn hrs
       rw [act_lit hsz hdf]
       simp [List.range, List.range.loop] at k0
       simp [List.range, List.range.loop, k0, k1, k2, k3, k4, k5, k6, k7, k8, k9, k10, k11, k12, k13, k14, k15, k16, k17, k18, k19, k20, k21, k22, k23, k24, k38]
       clear k0 k1 k2 k3 k4 k5 k6 k7 k8 k9 k10 k11 k12 k13 k14 k15 k16 k17 k18 k19 k20 k21 k22 k23 k24 k38 hsz hdf
       generalize A.tmps[25]?.getD undef = A25 at *
       generalize A.tmps[26]?.getD undef = A26 at *
       generalize A.tmps[27]?.getD undef = A27 at *
       generalize A.tmps[28]?.getD undef = A28 at *
       generalize A.tmps[29]?.getD undef = A29 at *
       generalize A.tmps[30]?.getD undef = A30 at *
       generalize A.tmps[31]?.getD undef = A31 at *
       generalize A.tmps[32]?.getD undef = A32 at *
       generalize A.tmps[33]?.getD undef = A33 at *
       generalize A.tmps[34]?.getD undef = A34 at *
       generalize A.tmps[35]?.getD undef = A35 at *
       generalize A.tmps[36]?.getD undef = A36 at *
       generalize A.tmps[37]?.getD undef = A37 at *
       have FIN := hide (And.intro hs0 (HX.out.trans (HXZ.out.trans ea.ext)))
       clear hs0
       go_wp2_with fail
       go_roundw
       case rel => exact ⟨k + 1, by omega, by go_num, by rw [HA.out]; exact FIN.out.1, FIN.out.2⟩
       case measure => simp [intOf]; omega
   · have hkl : k = l.length := by omega
     subst hkl
     rw [List.take_length] at hso
     go_wp2_with fail
     go_ret
     exact ⟨_, rfl, hso, hx⟩
set_option maxRecDepth 20000 in
theorem rUses_any (B : Nat) (m : Mdl) (w : World) (cs : List Value) (hR : RM w B m cs) (hB : B ≤ w.heap.size) (hsz : sizeM m ≤ 100000000) :
   Calls Tryz.prog 17 #[.agg cs.toArray] w fun e w' => ∃ v', e = .returned v' ∧ SStr w' (usesM m) v' ∧ Ext w w' := by
 obtain ⟨v1, v2, v3, rfl, hp, hq, hi⟩ := hR
 have o1 := hp.oneCell
 have o2 := hq.oneCell
 have o3 := hi.oneCell
 have hme : sizeM m = 1 + msize sizeB m.params + msize sizeP m.ports + msize sizeI m.items := rfl
 obtain ⟨W1, hW1, hx1, hb1⟩ := box4 w (.string m.name) v1 v2 v3 33
 have hV1 := hW1.symm
 obtain ⟨x0, x1, x2, x3⟩ := hb1.get4
 have GA := hide (ruses_lt B _ m.items W1 v3 (.slice none 0 0) [] (hi.extRI hx1 hB) (Nat.le_trans hB hx1.size) ⟨none, 0, rfl, Nat.le_refl _, fun k hk => by cases hk⟩ (by simp; omega) (Nat.lt_succ_self _))
 have HX0 := hide hx1
 clear hW1 hx1 hb1 hp hq hi hme hsz
 go_enter Tryz.func17, Tryz.ntmps17
 go_wp2_with fail
 go_at_call 49
 refine GA.out.mono ?_
 rintro _ w1 ⟨v1', rfl, hs1, hx1⟩
 have FIN := hide (And.intro hs1 (HX0.out.trans hx1))
 clear hs1 hx1 GA hV1 x0 x1 x2 x3
 go_wp2_with fail
 go_ret
 exact ⟨_, rfl, FIN.out.1, FIN.out.2⟩
theorem findM_at7 {f : List Mdl} {s : ByteArray} {k : Nat} (hk : k < f.length) (h1 : f[k].name = s) (h2 : ∀ j, ∀ h : j < f.length, j < k → ¬ f[j].name = s) : findM f s = some f[k] := by
 unfold findM
 rw [List.find?_eq_some_iff_getElem]
 exact ⟨yes_iff.2 h1, k, hk, rfl, fun j hj => by simp [yes_no.2 (h2 j (by omega) hj)]⟩
theorem findM_none7 {f : List Mdl} {s : ByteArray} (h2 : ∀ j, ∀ h : j < f.length, ¬ f[j].name = s) : findM f s = none := by
 unfold findM
 rw [List.find?_eq_none]
 intro m hm
 obtain ⟨j, hj, rfl⟩ := List.getElem_of_mem hm
 rw [yes_no.2 (h2 j hj)]; decide
theorem ext_set47 {W w : World} (hx : Ext W w) {g : Nat} (hg : W.heap.size ≤ g) (u0 u1 u2 u3 : Value) : Ext W ((((w.setCell ⟨g, 0, none⟩ u0).setCell ⟨g, 1, none⟩ u1).setCell ⟨g, 2, none⟩ u2).setCell ⟨g, 3, none⟩ u3) :=
 (((hx.setCell hg _).setCell hg _).setCell hg _).setCell hg _
set_option maxRecDepth 20000 in
set_option maxHeartbeats 2000000 in
theorem rFind_any (B : Nat) (f : List Mdl) (s : ByteArray) (w : World) (vf : Value) (hS : Sl (RM w B) w B 4 f vf) (hB : B ≤ w.heap.size) (hsz : f.length ≤ 1000000000) :
   Calls Tryz.prog 13 #[.agg #[vf], .string s] w fun e w' => ∃ c0 c1 c2 c3, e = .returned (.tuple #[.agg #[c0, c1, c2, c3], .bool (findM f s).isSome]) ∧ RM w' B ((findM f s).getD zeroM) [c0, c1, c2, c3] ∧ Ext w w' := by
 obtain ⟨a, cap, rfl, hcap, hrow⟩ := hS
 have HROW := hide hrow
 obtain ⟨W1, hW1, hx1, hb1⟩ := box1 w (.slice a f.length cap) 24
 obtain ⟨W2, hW2, hx2, hb2⟩ := box4 W1 (.string ⟨#[]⟩) (.slice none 0 0) (.slice none 0 0) (.slice none 0 0) 33
 have hV1 := hW1.symm
 have hV2 := hW2.symm
 have c0 := (hb1.ext hx2).get1
 obtain ⟨r0, r1, r2, r3⟩ := hb2.get4
 obtain ⟨z0, z1, z2, z3⟩ := hb2.free4
 have HX := hide (hx1.trans hx2)
 have hge : w.heap.size ≤ W1.heap.size := hx1.size
 have HB2 := hide hb2
 clear hW1 hW2 hx1 hx2 hb1 hb2 hcap hrow
 go_enter Tryz.func13, Tryz.ntmps13
 go_wp2_with fail
 clear hV1 hV2
 go_loop [6] (fun i => ∃ k : Nat, k ≤ f.length ∧ i = .int .i64 k ∧ ∀ j, ∀ h : j < f.length, j < k → ¬ f[j].name = s) (fun i => f.length - (intOf i).toNat)
 case atStart => exact ⟨0, Nat.zero_le _, rfl, fun j h hj => absurd hj (by omega)⟩
 case round =>
   obtain ⟨k, hk, rfl, hpre⟩ := hrel
   have HP := hide hpre
   clear hpre
   by_cases hlt : k < f.length
   · obtain ⟨b, o, v0, v1, v2, v3, rfl, hbB, hR, hC, o0, o1, o2, o3⟩ := HROW.out.open4 hlt
     obtain ⟨d0, d1, d2, d3⟩ := (hC.ext HX.out).get4
     have HR := hide hR
     obtain ⟨v1', v2', v3', hcs, -, -, -⟩ := hR
     simp only [List.cons.injEq, and_true] at hcs
     obtain ⟨rfl, rfl, rfl, rfl⟩ := hcs
     clear hC
     obtain ⟨x, hxe⟩ : ∃ x, f[k] = x := ⟨_, rfl⟩
     have HXE := hide hxe
     rw [hxe] at HR d0 o0
     clear hxe
     by_cases heq : x.name = s
     · have hte : (x.name.toList == s.toList) = true := by rw [heq]; simp
       have hfi : findM f s = some x := by
         rw [← HXE.out]
         exact findM_at7 hlt (by rw [HXE.out]; exact heq) HP.out
       have HFI := hide hfi
       obtain ⟨xn, hxn⟩ : ∃ xn, x.name = xn := ⟨_, rfl⟩
       rw [hxn] at hte d0 HR
       have hst := HB2.out.store4 (.string xn) v1 v2 v3
       obtain ⟨g0, g1, g2, g3⟩ := hst.get4
       have j1 := (HB2.out.set_ 0 (.string xn)).get4
       have hxf := ext_set47 HX.out hge (.string xn) v1 v2 v3
       have HXF := hide hxf
       clear heq hfi hxn hxf j1
       go_wp2_with fail
       refine bodyPost_ret (v := .tuple #[.agg #[.string xn, v1, v2, v3], .bool true]) ?_ rfl ⟨.string xn, v1, v2, v3, by rw [HFI.out]; rfl, ?_, HXF.out⟩
       · simp [results, Tryz.results13, go_sem, g0, g1, g2, g3]
       · rw [HFI.out]
         exact HR.out.ext HXF.out hB
     · have hte : (x.name.toList == s.toList) = false := text_ne heq
       obtain ⟨xn, hxn⟩ : ∃ xn, x.name = xn := ⟨_, rfl⟩
       have HXN := hide hxn
       rw [hxn] at hte d0
       have HNE := hide (show ¬ f[k].name = s from by rw [HXE.out]; exact heq)
       clear heq hxn
       go_wp2_with fail
       go_round
       case rel =>
         refine ⟨k + 1, by omega, by go_num, fun j h hj => ?_⟩
         by_cases hjk : j = k
         · subst hjk; exact HNE.out
         · exact HP.out j h (by omega)
       case measure => simp [intOf]; omega
   · have hkl : k = f.length := by omega
     subst hkl
     have hfi : findM f s = none := findM_none7 fun j h => HP.out j h h
     have HFI := hide hfi
     have hst := HB2.out.store4 (.string ⟨#[]⟩) (.slice none 0 0) (.slice none 0 0) (.slice none 0 0)
     obtain ⟨g0, g1, g2, g3⟩ := hst.get4
     have HXF := hide (ext_set47 HX.out hge (.string ⟨#[]⟩) (.slice none 0 0) (.slice none 0 0) (.slice none 0 0))
     clear hfi
     go_wp2_with fail
     refine bodyPost_ret (v := .tuple #[.agg #[.string ⟨#[]⟩, .slice none 0 0, .slice none 0 0, .slice none 0 0], .bool false]) ?_ rfl ⟨.string ⟨#[]⟩, .slice none 0 0, .slice none 0 0, .slice none 0 0, by rw [HFI.out]; rfl, ?_, HXF.out⟩
     · simp [results, Tryz.results13, go_sem, g0, g1, g2, g3]
     · rw [HFI.out]
       exact ⟨_, _, _, rfl, Sl.nil, Sl.nil, Sl.nil⟩
end Go.Proofs.YtjoglnjpgkobeaaGreatDoor
