/-
  THE DOCUMENT's ANSWER OF CHAPTER 07: labels, all, All.
-/
import Derived.Test.YtjoglnjpgkobeaaGreatDoorFactsKPk
import Derived.Test.YtjoglnjpgkobeaaGreatDoorNAllPPk
import Derived.Test.YtjoglnjpgkobeaaGreatDoorFactsPk
import Derived.Test.YtjoglnjpgkobeaaGreatDoorVarPk
namespace Go.Proofs.YtjoglnjpgkobeaaGreatDoor
open Go Go.RowKit
set_option linter.all false
set_option linter.unusedVariables false
set_option linter.unusedSimpArgs false
set_option linter.unusedVariables false
set_option linter.unusedSimpArgs false
attribute [local go_sem] run_store_one

set_option maxRecDepth 20000 in
set_option maxHeartbeats 4000000 in
theorem rlabels_lt (B : Nat) (m : Nat) : ∀ (l : List S) (w : World) (v vo : Value) (out : List ByteArray), Sl (RS w B) w B 4 l v → B ≤ w.heap.size → SStr w out vo → out.length + msize sizeS l ≤ 400000000 → msize sizeS l < m →
    Calls Tryz.prog 92 #[vo, v] w fun e w' => ∃ v', e = .returned v' ∧ SStr w' (addAll out (labSs l)) v' ∧ Ext w w' := by
  induction m with
  | zero => intro l w v vo out _ _ _ _ h; omega
  | succ m ih =>
  intro l w v vo out hS hB hO hsz hm
  obtain ⟨a, cap, rfl, hcap, hrow⟩ := hS
  have hln := length_le_msize sizeS l sizeS_pos
  have IH := hide ih
  have HO := hide hO
  clear ih
  go_enter Tryz.func92, Tryz.ntmps92
  go_wp2_with fail
  go_loopw [0, 5] (fun vr i wr => ∃ k : Nat, k ≤ l.length ∧ i = .int .i64 k ∧ SStr wr (addAll out (labSs (l.take k))) vr ∧ Ext w wr) (fun _ i _ => l.length - (intOf i).toNat)
  case atStart => exact ⟨0, Nat.zero_le _, rfl, by simpa [labSs, addAll_nil] using HO.out, Ext.refl _⟩
  case round =>
    obtain ⟨k, hk, rfl, hso, hx⟩ := hrel
    have hle := msize_take_le sizeS l k
    have hlab := labSs_len (l.take k)
    have hall := addAll_le (labSs (l.take k)) out
    by_cases hlt : k < l.length
    · have hsu := msize_take_succ sizeS l k hlt
      have hs1 := msize_take_le sizeS l (k + 1)
      have hs2 := msize_mem sizeS l l[k] (List.getElem_mem hlt)
      have hst := labSs_step hlt
      obtain ⟨b, o, v0, v1, v2, v3, rfl, hbB, hE, hC, o0, o1, o2, o3⟩ := hrow.open4 hlt
      generalize l[k] = y at *
      obtain ⟨_, _, he, hX, hL⟩ := RS_iff.1 hE
      simp only [List.cons.injEq, and_true] at he
      obtain ⟨rfl, rfl, rfl, rfl⟩ := he
      have hCx := hC.ext hx
      obtain ⟨d0, d1, d2, d3⟩ := hCx.get4
      have HC := hide hCx
      have hdef := sizeS_eq y
      have hB' : B ≤ wr.heap.size := Nat.le_trans hB hx.size
      have HL := hide (fun (w' : World) (hw : Ext wr w') => hL.extRS (hx.trans hw) hB)
      have q3 : msize sizeS y.l < m := by omega
      have hlen : (addAll out (labSs (l.take k))).length + 1 + msize sizeS y.l ≤ 400000000 := by omega
      have HX := hide hx
      have HS := hide hso
      have HA := hide (show addAll out (labSs (l.take (k + 1))) = addAll (addAll out (labSs (l.take k))) ((if y.op = 6 then [y.name] else []) ++ labSs y.l) from by rw [hst, addAll_append])
      clear hC hCx hrow hE hsu hX hL hdef hs2 hx hso hst hlab hall hO HO
      generalize addAll out (labSs (l.take k)) = oo at *
      by_cases h6 : y.op = 6
      · have HM := hide (rmore_any oo y.name wr u0 HS.out (by omega))
        rw [if_pos h6] at HA
        rw [h6] at d0
        have hlo : (addOne oo y.name).length ≤ oo.length + 1 := addAll_le [y.name] oo
        clear h6
        generalize y.name = yn at *
        generalize y.l = yl at *
        go_wp2_with fail
        go_at_call 53
        refine HM.out.mono ?_
        rintro _ w1 ⟨v1', rfl, hs1, hx1⟩
        obtain ⟨e0, e1, e2, e3⟩ := (HC.out.ext hx1).get4
        have GI := hide (IH.out yl w1 _ v1' (addOne oo yn) (HL.out w1 hx1) (Nat.le_trans hB' hx1.size) hs1 (by omega) q3)
        have HX1 := hide (HX.out.trans hx1)
        clear hs1 hx1 HM d0 d1 d2 d3
        go_wp2_with fail
        go_at_call 92
        refine GI.out.mono ?_
        rintro _ w2 ⟨v2', rfl, hs2, hx2⟩
        have FIN := hide (And.intro hs2 (HX1.out.trans hx2))
        clear hs2 hx2 GI
        go_wp2_with fail
        go_roundw
        case rel => exact ⟨k + 1, by omega, by go_num, by rw [HA.out, addAll_append]; exact FIN.out.1, FIN.out.2⟩
        case measure => simp [intOf]; omega
      · rw [if_neg h6, List.nil_append] at HA
        have h6' : ((y.op : Int) == 6) = false := by simpa using h6
        have GI := hide (IH.out y.l wr _ u0 oo (HL.out wr (Ext.refl _)) hB' HS.out (by omega) q3)
        clear h6
        generalize y.op = yo at *
        generalize y.name = yn at *
        generalize y.l = yl at *
        go_wp2_with fail
        go_at_call 92
        refine GI.out.mono ?_
        rintro _ w2 ⟨v2', rfl, hs2, hx2⟩
        have FIN := hide (And.intro hs2 (HX.out.trans hx2))
        clear hs2 hx2 GI
        go_wp2_with fail
        go_roundw
        case rel => exact ⟨k + 1, by omega, by go_num, by rw [HA.out]; exact FIN.out.1, FIN.out.2⟩
        case measure => simp [intOf]; omega
    · have hkl : k = l.length := by omega
      subst hkl
      rw [List.take_length] at hso
      go_wp2_with fail
      go_ret
      exact ⟨_, rfl, hso, hx⟩

/-- What is known of the values where an item's own items are come to. -/
def rallF (g : Nat) (v4 v5 v6 vo : Value) (l1 l2 l3 : List ByteArray) (i : Nat) (v : Value) (w : World) : Prop := match i with
  | 0 => v = vo
  | 1 => v = .pointer (some ⟨g, 5, none⟩)
  | 2 => v = v5
  | 3 => SStr w l1 v
  | 4 => v = .pointer (some ⟨g, 6, none⟩)
  | 5 => v = v6
  | 6 => SStr w l2 v
  | 7 => v = .pointer (some ⟨g, 4, none⟩)
  | 8 => v = v4
  | 9 => SStr w l3 v
  | 10 => SStr w l3 v
  | _ => True
theorem rallF_ext {g : Nat} {v4 v5 v6 vo : Value} {l1 l2 l3 : List ByteArray} {i : Nat} {v : Value} {w w' : World} (h : rallF g v4 v5 v6 vo l1 l2 l3 i v w) (hx : Ext w w') : rallF g v4 v5 v6 vo l1 l2 l3 i v w' := by
  unfold rallF at h ⊢
  split at h <;> first | exact h | exact h.ext hx

set_option maxRecDepth 20000 in
set_option maxHeartbeats 8000000 in
theorem rall_lt (B : Nat) (m : Nat) : ∀ (l : List Itm) (w : World) (v vo : Value) (out : List ByteArray), Sl (RI w B) w B 9 l v → B ≤ w.heap.size → SStr w out vo → out.length + 2 * msize sizeI l ≤ 300000000 → msize sizeI l < m →
    Calls Tryz.prog 58 #[vo, v] w fun e w' => ∃ v', e = .returned v' ∧ SStr w' (addAll out (allIs l)) v' ∧ Ext w w' := by
  induction m with
  | zero => intro l w v vo out _ _ _ _ h; omega
  | succ m ih =>
  intro l w v vo out hS hB hO hsz hm
  obtain ⟨a, cap, rfl, hcap, hrow⟩ := hS
  have hln := length_le_msize sizeI l sizeI_pos
  have IH := hide ih
  have HO := hide hO
  clear ih hO
  go_enter Tryz.func58, Tryz.ntmps58
  go_wp2_with fail
  go_loopw [0, 5] (fun vr i wr => ∃ k : Nat, k ≤ l.length ∧ i = .int .i64 k ∧ SStr wr (addAll out (allIs (l.take k))) vr ∧ Ext w wr) (fun _ i _ => l.length - (intOf i).toNat)
  case atStart => exact ⟨0, Nat.zero_le _, rfl, by simpa [allIs, addAll_nil] using HO.out, Ext.refl _⟩
  case round =>
    obtain ⟨k, hk, rfl, hso, hx⟩ := hrel
    have hle := msize_take_le sizeI l k
    have hlab := allIs_len (l.take k)
    have hall := addAll_le (allIs (l.take k)) out
    by_cases hlt : k < l.length
    · have hsu := msize_take_succ sizeI l k hlt
      have hs1 := msize_take_le sizeI l (k + 1)
      have hs2 := msize_mem sizeI l l[k] (List.getElem_mem hlt)
      have hst := allIs_step hlt
      obtain ⟨b, o, v0, v1, v2, v3, v4, v5, v6, v7, v8, rfl, hbB, hE, hC, o0, o1, o2, o3, o4, o5, o6, o7, o8⟩ := hrow.open9 hlt
      generalize l[k] = y at *
      obtain ⟨_, _, _, _, _, _, he, hX, hSS, hL, hE', hP, hBb⟩ := RI_iff.1 hE
      simp only [List.cons.injEq, and_true] at he
      obtain ⟨rfl, rfl, rfl, rfl, rfl, rfl, rfl, rfl, rfl⟩ := he
      obtain ⟨d0, d1, d2, d3, d4, d5, d6, d7, d8⟩ := (hC.ext hx).get9
      obtain ⟨Wb, Wc, hVb, ⟨p0, p1, p2, p3, p4, p5, p6, p7, p8⟩, ⟨q0, q1, q2, q3, q4, q5, q6, q7, q8⟩, hVc, hbc, hxc, -⟩ := varI wr (.int .i64 y.op) (.string y.name) (.string y.of) v3 v4 v5 v6 v7 v8
      have hdef := sizeI_eq y
      have hB' : B ≤ wr.heap.size := Nat.le_trans hB hx.size
      have HL := hide (fun (w' : World) (hw : Ext wr w') => hL.extRI (hx.trans hw) hB)
      have HE := hide (fun (w' : World) (hw : Ext wr w') => hE'.extRI (hx.trans hw) hB)
      have HSS := hide (fun (w' : World) (hw : Ext wr w') => hSS.extRS (hx.trans hw) hB)
      have m1 : msize sizeI y.l < m := by omega
      have m2 : msize sizeI y.els < m := by omega
      have hlen : (addAll out (allIs (l.take k))).length + 2 + 2 * msize sizeI y.l + 2 * msize sizeI y.els + msize sizeS y.s ≤ 300000000 := by omega
      have HX := hide hx
      have HS := hide (hso.ext hxc)
      have HBC := hide hbc
      have HXC := hide hxc
      have HA := hide (show addAll out (allIs (l.take (k + 1))) = addAll (addAll (addAll (addAll (addOne (addAll out (allIs (l.take k))) y.name) (if y.op = 9 then [y.of] else [])) (allIs y.l)) (allIs y.els)) (labSs y.s) from by
        rw [hst, addAll_append]
        show addAll (addOne (addAll out (allIs (l.take k))) y.name) _ = _
        rw [addAll_append, addAll_append, addAll_append])
      have HM := hide (rmore_any (addAll out (allIs (l.take k))) y.name Wc u0 HS.out (by omega))
      have hlo : (addOne (addAll out (allIs (l.take k))) y.name).length ≤ (addAll out (allIs (l.take k))).length + 1 := addAll_le [y.name] _
      have l1 := allIs_len y.l
      have l2 := allIs_len y.els
      have hbn := hbc.get9.2.1
      clear hC hrow hE hsu hX hL hE' hSS hP hBb hdef hs2 hx hso hst hlab hall hbc hxc
      generalize addAll out (allIs (l.take k)) = oo at *
      go_wp2_with fail
      go_at_call 53
      refine HM.out.mono ?_
      rintro _ w1 ⟨x1, rfl, hs1, hx1⟩
      clear hVb hVc p0 p1 p2 p3 p4 p5 p6 p7 p8 q0 q1 q2 q3 q4 q5 q6 q7 q8 d0 d1 d2 d3 d4 d5 d6 d7 d8 hbn
      have hb1 := HBC.out.ext hx1
      obtain ⟨e0, e1, e2, e3, e4, e5, e6, e7, e8⟩ := hb1.get9
      have HB1 := hide hb1
      have HX1 := hide (HXC.out.trans hx1)
      clear hb1 hx1 HM HBC HXC
      generalize addOne oo y.name = o1x at *
      have key : ∀ (wz : World) (xo : Value) (oz : List ByteArray), Ext w1 wz → SStr wz oz xo → oz.length ≤ oo.length + 2 → addAll out (allIs (l.take (k + 1))) = addAll (addAll (addAll oz (allIs y.l)) (allIs y.els)) (labSs y.s) → True := fun _ _ _ _ _ _ _ => trivial
      clear key
      by_cases h9 : y.op = 9
      · rw [if_pos h9, addAll_one] at HA
        rw [h9] at e0
        have HM := hide (rmore_any o1x y.of w1 x1 hs1 (by omega))
        have hl9 : (addOne o1x y.of).length ≤ o1x.length + 1 := addAll_le [y.of] _
        clear h9 hs1
        go_wp2_with fail
        go_at_call 53
        refine HM.out.mono ?_
        rintro _ wz ⟨xo, rfl, hsz, hxz⟩
        have HBZ := hide (HB1.out.ext hxz)
        have HXZ := hide (HX1.out.trans hxz)
        have HSZ := hide hsz
        clear hxz hsz HM HB1 HX1 e0 e1 e2 e3 e4 e5 e6 e7 e8
        obtain ⟨oz, hoz, hozl⟩ : ∃ oz, addOne o1x y.of = oz ∧ oz.length ≤ oo.length + 2 := ⟨_, rfl, by omega⟩
        rw [hoz] at HA HSZ
        clear hoz
        go_wp2_with fail
        obtain ⟨e0, e1, e2, e3, e4, e5, e6, e7, e8⟩ := HBZ.out.later9
        refine wp_region_facts_j (W := wz) (rallF wr.heap.size v4 v5 v6 xo (addAll oz (allIs y.l)) (addAll (addAll oz (allIs y.l)) (allIs y.els)) (addAll (addAll (addAll oz (allIs y.l)) (allIs y.els)) (labSs y.s))) (onceJ 0 10 0 xo) (by kernel_rfl) (by kernel_rfl) ?_ (Ext.refl _) ⟨fun h => (by cases h), fun _ => rfl⟩ ?_ ?_
        · simp [GuardsMet, rallF]
        · refine ⟨?_, ?_, ?_, ?_, ?_, ?_, ?_, ?_, ?_, ?_, ?_, trivial⟩
          · intro L A wa hxa hli haf hsz hd h0 hJ
            obtain ⟨ea, rfl⟩ := Later.mk_ex hxa
            have rr := onceJ_at hJ hli
            unfold tau at rr
            simp at rr
            have HJ := hide hJ
            clear hd h0 hJ haf hli hsz
            go_simp
            first | exact ⟨_, rfl, ea.ext, fun j u h => h, rfl, onceJ_read (d := some 28) rfl (by decide) HJ.out⟩ | exact ⟨_, rfl, rfl, onceJ_read (d := some 28) rfl (by decide) HJ.out⟩ | (trace_state; fail)
          · refine StepJ.plain (S := [0, 10]) (T := [0]) (onceJ_looks 0 10 0 xo) (fun i v w w' h hx => rallF_ext h hx) (by decide) (by decide) ?_
            intro A wa hxa hd h0
            obtain ⟨ea, rfl⟩ := Later.mk_ex hxa
            have r6 := rest_at h0 6 (by kernel_rfl)
            simp at r6
            clear hd h0
            go_simp
            first | exact ⟨_, rfl, Ext.refl _, rfl⟩ | exact ⟨Ext.refl _, rfl⟩ | exact rfl | exact ⟨_, rfl, rfl⟩
          · refine StepJ.plain (S := [0, 10]) (T := [0]) (onceJ_looks 0 10 0 xo) (fun i v w w' h hx => rallF_ext h hx) (by decide) (by decide) ?_
            intro A wa hxa hd h0
            obtain ⟨ea, rfl⟩ := Later.mk_ex hxa
            have q1 := depOn hd 1 29 (by kernel_rfl) rfl
            simp [rallF] at q1
            clear hd h0
            go_simp
            first | exact ⟨_, rfl, Ext.refl _, rfl⟩ | exact ⟨Ext.refl _, rfl⟩ | exact rfl | exact ⟨_, rfl, rfl⟩
          · refine StepJ.plain (S := [0, 10]) (T := [0]) (onceJ_looks 0 10 0 xo) (fun i v w w' h hx => rallF_ext h hx) (by decide) (by decide) ?_
            intro A wa hxa hd h0
            obtain ⟨ea, rfl⟩ := Later.mk_ex hxa
            have q0 := depOn hd 0 28 (by kernel_rfl) rfl
            simp [rallF] at q0
            have q2 := depOn hd 2 30 (by kernel_rfl) rfl
            simp [rallF] at q2
            clear hd h0
            go_simp
            refine (IH.out y.l ea.w _ xo oz (HL.out _ (HXZ.out.trans ea.ext)) (Nat.le_trans hB' (HXZ.out.trans ea.ext).size) (HSZ.out.ext ea.ext) (by omega) m1).mono ?_
            rintro e w2 ⟨y3, rfl, hy3, hx⟩
            go_simp
            first | exact ⟨_, rfl, hx, hy3⟩ | exact ⟨hx, hy3⟩ | exact hy3 | exact ⟨_, rfl, hy3⟩
          · refine StepJ.plain (S := [0, 10]) (T := [0]) (onceJ_looks 0 10 0 xo) (fun i v w w' h hx => rallF_ext h hx) (by decide) (by decide) ?_
            intro A wa hxa hd h0
            obtain ⟨ea, rfl⟩ := Later.mk_ex hxa
            have r6 := rest_at h0 6 (by kernel_rfl)
            simp at r6
            clear hd h0
            go_simp
            first | exact ⟨_, rfl, Ext.refl _, rfl⟩ | exact ⟨Ext.refl _, rfl⟩ | exact rfl | exact ⟨_, rfl, rfl⟩
          · refine StepJ.plain (S := [0, 10]) (T := [0]) (onceJ_looks 0 10 0 xo) (fun i v w w' h hx => rallF_ext h hx) (by decide) (by decide) ?_
            intro A wa hxa hd h0
            obtain ⟨ea, rfl⟩ := Later.mk_ex hxa
            have q4 := depOn hd 4 32 (by kernel_rfl) rfl
            simp [rallF] at q4
            clear hd h0
            go_simp
            first | exact ⟨_, rfl, Ext.refl _, rfl⟩ | exact ⟨Ext.refl _, rfl⟩ | exact rfl | exact ⟨_, rfl, rfl⟩
          · refine StepJ.plain (S := [0, 10]) (T := [0]) (onceJ_looks 0 10 0 xo) (fun i v w w' h hx => rallF_ext h hx) (by decide) (by decide) ?_
            intro A wa hxa hd h0
            obtain ⟨ea, rfl⟩ := Later.mk_ex hxa
            obtain ⟨x3, q3, hs3⟩ : ∃ x, A.tmps.getD 31 undef = x ∧ SStr ea.w (addAll oz (allIs y.l)) x := ⟨_, rfl, depOn hd 3 31 (by kernel_rfl) rfl⟩
            simp at q3
            have q5 := depOn hd 5 33 (by kernel_rfl) rfl
            simp [rallF] at q5
            clear hd h0
            go_simp
            refine (IH.out y.els ea.w _ x3 _ (HE.out _ (HXZ.out.trans ea.ext)) (Nat.le_trans hB' (HXZ.out.trans ea.ext).size) hs3 (by have := addAll_le (allIs y.l) oz; omega) m2).mono ?_
            rintro e w2 ⟨y6, rfl, hy6, hx⟩
            go_simp
            first | exact ⟨_, rfl, hx, hy6⟩ | exact ⟨hx, hy6⟩ | exact hy6 | exact ⟨_, rfl, hy6⟩
          · refine StepJ.plain (S := [0, 10]) (T := [0]) (onceJ_looks 0 10 0 xo) (fun i v w w' h hx => rallF_ext h hx) (by decide) (by decide) ?_
            intro A wa hxa hd h0
            obtain ⟨ea, rfl⟩ := Later.mk_ex hxa
            have r6 := rest_at h0 6 (by kernel_rfl)
            simp at r6
            clear hd h0
            go_simp
            first | exact ⟨_, rfl, Ext.refl _, rfl⟩ | exact ⟨Ext.refl _, rfl⟩ | exact rfl | exact ⟨_, rfl, rfl⟩
          · refine StepJ.plain (S := [0, 10]) (T := [0]) (onceJ_looks 0 10 0 xo) (fun i v w w' h hx => rallF_ext h hx) (by decide) (by decide) ?_
            intro A wa hxa hd h0
            obtain ⟨ea, rfl⟩ := Later.mk_ex hxa
            have q7 := depOn hd 7 35 (by kernel_rfl) rfl
            simp [rallF] at q7
            clear hd h0
            go_simp
            first | exact ⟨_, rfl, Ext.refl _, rfl⟩ | exact ⟨Ext.refl _, rfl⟩ | exact rfl | exact ⟨_, rfl, rfl⟩
          · refine StepJ.plain (S := [0, 10]) (T := [0]) (onceJ_looks 0 10 0 xo) (fun i v w w' h hx => rallF_ext h hx) (by decide) (by decide) ?_
            intro A wa hxa hd h0
            obtain ⟨ea, rfl⟩ := Later.mk_ex hxa
            obtain ⟨x6, q6, hs6⟩ : ∃ x, A.tmps.getD 34 undef = x ∧ SStr ea.w (addAll (addAll oz (allIs y.l)) (allIs y.els)) x := ⟨_, rfl, depOn hd 6 34 (by kernel_rfl) rfl⟩
            simp at q6
            have q8 := depOn hd 8 36 (by kernel_rfl) rfl
            simp [rallF] at q8
            clear hd h0
            go_simp
            refine (rlabels_lt B _ y.s ea.w _ x6 _ (HSS.out _ (HXZ.out.trans ea.ext)) (Nat.le_trans hB' (HXZ.out.trans ea.ext).size) hs6 (by have g1 := addAll_le (allIs y.l) oz; have g2 := addAll_le (allIs y.els) (addAll oz (allIs y.l)); omega) (Nat.lt_succ_self _)).mono ?_
            rintro e w2 ⟨y9, rfl, hy9, hx⟩
            go_simp
            first | exact ⟨_, rfl, hx, hy9⟩ | exact ⟨hx, hy9⟩ | exact hy9 | exact ⟨_, rfl, hy9⟩
          · intro L A wa hxa hli haf hsz hd h0 hJ
            obtain ⟨ea, rfl⟩ := Later.mk_ex hxa
            obtain ⟨x9, q9, hs9⟩ : ∃ x, A.tmps.getD 37 undef = x ∧ SStr ea.w (addAll (addAll (addAll oz (allIs y.l)) (allIs y.els)) (labSs y.s)) x := ⟨_, rfl, depOn hd 9 37 (by kernel_rfl) rfl⟩
            simp at q9
            have hr9 := haf_on haf 0 (by kernel_rfl)
            clear hd h0 hJ haf hli hsz
            
            go_simp
            first | exact ⟨_, rfl, ea.ext, fun j u h => h, hs9, onceJ_write (A := A) (w := ea.w) (u := _) rfl hr9⟩ | exact ⟨_, rfl, hs9, onceJ_write (A := A) (w := ea.w) (u := _) rfl hr9⟩ | (trace_state; fail)
        intro A wa hk hJ
        obtain ⟨hxa, hsz, hdf, hdn, hrs⟩ := hk
        obtain ⟨ea, rfl⟩ := Later.mk_ex hxa
        obtain ⟨x0, k0, hs0⟩ : ∃ x, A.tmps.getD 0 undef = x ∧ SStr ea.w (addAll (addAll (addAll oz (allIs y.l)) (allIs y.els)) (labSs y.s)) x := ⟨_, rfl, hdn 10 0 rfl rfl⟩
        have k1 := rest_at hrs 1 (by kernel_rfl)
        simp at k1
        have k2 := rest_at hrs 2 (by kernel_rfl)
        simp at k2
        have k3 := rest_at hrs 3 (by kernel_rfl)
        simp at k3
        have k4 := rest_at hrs 4 (by kernel_rfl)
        simp at k4
        have k5 := rest_at hrs 5 (by kernel_rfl)
        simp at k5
        have k38 := rest_at hrs 38 (by kernel_rfl)
        simp at k38
        clear hdn hrs
        rw [act_lit hsz hdf]
        simp [List.range, List.range.loop] at k0
        simp [List.range, List.range.loop, k0, k1, k2, k3, k4, k5, k38]
        clear k0 k1 k2 k3 k4 k5 k38 hsz hdf
        generalize A.tmps[6]?.getD undef = A6 at *
        generalize A.tmps[7]?.getD undef = A7 at *
        generalize A.tmps[8]?.getD undef = A8 at *
        generalize A.tmps[9]?.getD undef = A9 at *
        generalize A.tmps[10]?.getD undef = A10 at *
        generalize A.tmps[11]?.getD undef = A11 at *
        generalize A.tmps[12]?.getD undef = A12 at *
        generalize A.tmps[13]?.getD undef = A13 at *
        generalize A.tmps[14]?.getD undef = A14 at *
        generalize A.tmps[15]?.getD undef = A15 at *
        generalize A.tmps[16]?.getD undef = A16 at *
        generalize A.tmps[17]?.getD undef = A17 at *
        generalize A.tmps[18]?.getD undef = A18 at *
        generalize A.tmps[19]?.getD undef = A19 at *
        generalize A.tmps[20]?.getD undef = A20 at *
        generalize A.tmps[21]?.getD undef = A21 at *
        generalize A.tmps[22]?.getD undef = A22 at *
        generalize A.tmps[23]?.getD undef = A23 at *
        generalize A.tmps[24]?.getD undef = A24 at *
        generalize A.tmps[25]?.getD undef = A25 at *
        generalize A.tmps[26]?.getD undef = A26 at *
        generalize A.tmps[27]?.getD undef = A27 at *
        generalize A.tmps[28]?.getD undef = A28 at *
        generalize A.tmps[29]?.getD undef = A29 at *
        generalize A.tmps[30]?.getD undef = A30 at *
        generalize A.tmps[31]?.getD undef = A31 at *
        generalize A.tmps[32]?.getD undef = A32 at *
        generalize A.tmps[33]?.getD undef = A33 at *
        generalize A.tmps[34]?.getD undef = A34 at *
        generalize A.tmps[35]?.getD undef = A35 at *
        generalize A.tmps[36]?.getD undef = A36 at *
        generalize A.tmps[37]?.getD undef = A37 at *
        have FIN := hide (And.intro hs0 (HX.out.trans (HXZ.out.trans ea.ext)))
        clear hs0
        go_wp2_with fail
        go_roundw
        case rel => exact ⟨k + 1, by omega, by go_num, by rw [HA.out]; exact FIN.out.1, FIN.out.2⟩
        case measure => simp [intOf]; omega
      · rw [if_neg h9, addAll_nil] at HA
        have h9' : ((y.op : Int) == 9) = false := by simpa using h9
        have HBZ := HB1
        have HXZ := HX1
        have HSZ := hide hs1
        obtain ⟨wz, hwz⟩ : ∃ wz, wz = w1 := ⟨_, rfl⟩
        subst hwz
        obtain ⟨xo, hxo⟩ : ∃ xo, xo = x1 := ⟨_, rfl⟩
        subst hxo
        obtain ⟨oz, hoz, hozl⟩ : ∃ oz, o1x = oz ∧ oz.length ≤ oo.length + 2 := ⟨_, rfl, by omega⟩
        rw [hoz] at HA HSZ
        clear hoz h9 hs1
        generalize y.op = yo at *
        go_wp2_with fail
        clear e0 e1 e2 e3 e4 e5 e6 e7 e8 h9'
        obtain ⟨e0, e1, e2, e3, e4, e5, e6, e7, e8⟩ := HBZ.out.later9
        refine wp_region_facts_j (W := wz) (rallF wr.heap.size v4 v5 v6 xo (addAll oz (allIs y.l)) (addAll (addAll oz (allIs y.l)) (allIs y.els)) (addAll (addAll (addAll oz (allIs y.l)) (allIs y.els)) (labSs y.s))) (onceJ 0 10 0 xo) (by kernel_rfl) (by kernel_rfl) ?_ (Ext.refl _) ⟨fun h => (by cases h), fun _ => rfl⟩ ?_ ?_
        · simp [GuardsMet, rallF]
        · refine ⟨?_, ?_, ?_, ?_, ?_, ?_, ?_, ?_, ?_, ?_, ?_, trivial⟩
          · intro L A wa hxa hli haf hsz hd h0 hJ
            obtain ⟨ea, rfl⟩ := Later.mk_ex hxa
            have rr := onceJ_at hJ hli
            unfold tau at rr
            simp at rr
            have HJ := hide hJ
            clear hd h0 hJ haf hli hsz
            go_simp
            first | exact ⟨_, rfl, ea.ext, fun j u h => h, rfl, onceJ_read (d := some 28) rfl (by decide) HJ.out⟩ | exact ⟨_, rfl, rfl, onceJ_read (d := some 28) rfl (by decide) HJ.out⟩ | (trace_state; fail)
          · refine StepJ.plain (S := [0, 10]) (T := [0]) (onceJ_looks 0 10 0 xo) (fun i v w w' h hx => rallF_ext h hx) (by decide) (by decide) ?_
            intro A wa hxa hd h0
            obtain ⟨ea, rfl⟩ := Later.mk_ex hxa
            have r6 := rest_at h0 6 (by kernel_rfl)
            simp at r6
            clear hd h0
            go_simp
            first | exact ⟨_, rfl, Ext.refl _, rfl⟩ | exact ⟨Ext.refl _, rfl⟩ | exact rfl | exact ⟨_, rfl, rfl⟩
          · refine StepJ.plain (S := [0, 10]) (T := [0]) (onceJ_looks 0 10 0 xo) (fun i v w w' h hx => rallF_ext h hx) (by decide) (by decide) ?_
            intro A wa hxa hd h0
            obtain ⟨ea, rfl⟩ := Later.mk_ex hxa
            have q1 := depOn hd 1 29 (by kernel_rfl) rfl
            simp [rallF] at q1
            clear hd h0
            go_simp
            first | exact ⟨_, rfl, Ext.refl _, rfl⟩ | exact ⟨Ext.refl _, rfl⟩ | exact rfl | exact ⟨_, rfl, rfl⟩
          · refine StepJ.plain (S := [0, 10]) (T := [0]) (onceJ_looks 0 10 0 xo) (fun i v w w' h hx => rallF_ext h hx) (by decide) (by decide) ?_
            intro A wa hxa hd h0
            obtain ⟨ea, rfl⟩ := Later.mk_ex hxa
            have q0 := depOn hd 0 28 (by kernel_rfl) rfl
            simp [rallF] at q0
            have q2 := depOn hd 2 30 (by kernel_rfl) rfl
            simp [rallF] at q2
            clear hd h0
            go_simp
            refine (IH.out y.l ea.w _ xo oz (HL.out _ (HXZ.out.trans ea.ext)) (Nat.le_trans hB' (HXZ.out.trans ea.ext).size) (HSZ.out.ext ea.ext) (by omega) m1).mono ?_
            rintro e w2 ⟨y3, rfl, hy3, hx⟩
            go_simp
            first | exact ⟨_, rfl, hx, hy3⟩ | exact ⟨hx, hy3⟩ | exact hy3 | exact ⟨_, rfl, hy3⟩
          · refine StepJ.plain (S := [0, 10]) (T := [0]) (onceJ_looks 0 10 0 xo) (fun i v w w' h hx => rallF_ext h hx) (by decide) (by decide) ?_
            intro A wa hxa hd h0
            obtain ⟨ea, rfl⟩ := Later.mk_ex hxa
            have r6 := rest_at h0 6 (by kernel_rfl)
            simp at r6
            clear hd h0
            go_simp
            first | exact ⟨_, rfl, Ext.refl _, rfl⟩ | exact ⟨Ext.refl _, rfl⟩ | exact rfl | exact ⟨_, rfl, rfl⟩
          · refine StepJ.plain (S := [0, 10]) (T := [0]) (onceJ_looks 0 10 0 xo) (fun i v w w' h hx => rallF_ext h hx) (by decide) (by decide) ?_
            intro A wa hxa hd h0
            obtain ⟨ea, rfl⟩ := Later.mk_ex hxa
            have q4 := depOn hd 4 32 (by kernel_rfl) rfl
            simp [rallF] at q4
            clear hd h0
            go_simp
            first | exact ⟨_, rfl, Ext.refl _, rfl⟩ | exact ⟨Ext.refl _, rfl⟩ | exact rfl | exact ⟨_, rfl, rfl⟩
          · refine StepJ.plain (S := [0, 10]) (T := [0]) (onceJ_looks 0 10 0 xo) (fun i v w w' h hx => rallF_ext h hx) (by decide) (by decide) ?_
            intro A wa hxa hd h0
            obtain ⟨ea, rfl⟩ := Later.mk_ex hxa
            obtain ⟨x3, q3, hs3⟩ : ∃ x, A.tmps.getD 31 undef = x ∧ SStr ea.w (addAll oz (allIs y.l)) x := ⟨_, rfl, depOn hd 3 31 (by kernel_rfl) rfl⟩
            simp at q3
            have q5 := depOn hd 5 33 (by kernel_rfl) rfl
            simp [rallF] at q5
            clear hd h0
            go_simp
            refine (IH.out y.els ea.w _ x3 _ (HE.out _ (HXZ.out.trans ea.ext)) (Nat.le_trans hB' (HXZ.out.trans ea.ext).size) hs3 (by have := addAll_le (allIs y.l) oz; omega) m2).mono ?_
            rintro e w2 ⟨y6, rfl, hy6, hx⟩
            go_simp
            first | exact ⟨_, rfl, hx, hy6⟩ | exact ⟨hx, hy6⟩ | exact hy6 | exact ⟨_, rfl, hy6⟩
          · refine StepJ.plain (S := [0, 10]) (T := [0]) (onceJ_looks 0 10 0 xo) (fun i v w w' h hx => rallF_ext h hx) (by decide) (by decide) ?_
            intro A wa hxa hd h0
            obtain ⟨ea, rfl⟩ := Later.mk_ex hxa
            have r6 := rest_at h0 6 (by kernel_rfl)
            simp at r6
            clear hd h0
            go_simp
            first | exact ⟨_, rfl, Ext.refl _, rfl⟩ | exact ⟨Ext.refl _, rfl⟩ | exact rfl | exact ⟨_, rfl, rfl⟩
          · refine StepJ.plain (S := [0, 10]) (T := [0]) (onceJ_looks 0 10 0 xo) (fun i v w w' h hx => rallF_ext h hx) (by decide) (by decide) ?_
            intro A wa hxa hd h0
            obtain ⟨ea, rfl⟩ := Later.mk_ex hxa
            have q7 := depOn hd 7 35 (by kernel_rfl) rfl
            simp [rallF] at q7
            clear hd h0
            go_simp
            first | exact ⟨_, rfl, Ext.refl _, rfl⟩ | exact ⟨Ext.refl _, rfl⟩ | exact rfl | exact ⟨_, rfl, rfl⟩
          · refine StepJ.plain (S := [0, 10]) (T := [0]) (onceJ_looks 0 10 0 xo) (fun i v w w' h hx => rallF_ext h hx) (by decide) (by decide) ?_
            intro A wa hxa hd h0
            obtain ⟨ea, rfl⟩ := Later.mk_ex hxa
            obtain ⟨x6, q6, hs6⟩ : ∃ x, A.tmps.getD 34 undef = x ∧ SStr ea.w (addAll (addAll oz (allIs y.l)) (allIs y.els)) x := ⟨_, rfl, depOn hd 6 34 (by kernel_rfl) rfl⟩
            simp at q6
            have q8 := depOn hd 8 36 (by kernel_rfl) rfl
            simp [rallF] at q8
            clear hd h0
            go_simp
            refine (rlabels_lt B _ y.s ea.w _ x6 _ (HSS.out _ (HXZ.out.trans ea.ext)) (Nat.le_trans hB' (HXZ.out.trans ea.ext).size) hs6 (by have g1 := addAll_le (allIs y.l) oz; have g2 := addAll_le (allIs y.els) (addAll oz (allIs y.l)); omega) (Nat.lt_succ_self _)).mono ?_
            rintro e w2 ⟨y9, rfl, hy9, hx⟩
            go_simp
            first | exact ⟨_, rfl, hx, hy9⟩ | exact ⟨hx, hy9⟩ | exact hy9 | exact ⟨_, rfl, hy9⟩
          · intro L A wa hxa hli haf hsz hd h0 hJ
            obtain ⟨ea, rfl⟩ := Later.mk_ex hxa
            obtain ⟨x9, q9, hs9⟩ : ∃ x, A.tmps.getD 37 undef = x ∧ SStr ea.w (addAll (addAll (addAll oz (allIs y.l)) (allIs y.els)) (labSs y.s)) x := ⟨_, rfl, depOn hd 9 37 (by kernel_rfl) rfl⟩
            simp at q9
            have hr9 := haf_on haf 0 (by kernel_rfl)
            clear hd h0 hJ haf hli hsz
            
            go_simp
            first | exact ⟨_, rfl, ea.ext, fun j u h => h, hs9, onceJ_write (A := A) (w := ea.w) (u := _) rfl hr9⟩ | exact ⟨_, rfl, hs9, onceJ_write (A := A) (w := ea.w) (u := _) rfl hr9⟩ | (trace_state; fail)
        intro A wa hk hJ
        obtain ⟨hxa, hsz, hdf, hdn, hrs⟩ := hk
        obtain ⟨ea, rfl⟩ := Later.mk_ex hxa
        obtain ⟨x0, k0, hs0⟩ : ∃ x, A.tmps.getD 0 undef = x ∧ SStr ea.w (addAll (addAll (addAll oz (allIs y.l)) (allIs y.els)) (labSs y.s)) x := ⟨_, rfl, hdn 10 0 rfl rfl⟩
        have k1 := rest_at hrs 1 (by kernel_rfl)
        simp at k1
        have k2 := rest_at hrs 2 (by kernel_rfl)
        simp at k2
        have k3 := rest_at hrs 3 (by kernel_rfl)
        simp at k3
        have k4 := rest_at hrs 4 (by kernel_rfl)
        simp at k4
        have k5 := rest_at hrs 5 (by kernel_rfl)
        simp at k5
        have k38 := rest_at hrs 38 (by kernel_rfl)
        simp at k38
        clear hdn hrs
        rw [act_lit hsz hdf]
        simp [List.range, List.range.loop] at k0
        simp [List.range, List.range.loop, k0, k1, k2, k3, k4, k5, k38]
        clear k0 k1 k2 k3 k4 k5 k38 hsz hdf
        generalize A.tmps[6]?.getD undef = A6 at *
        generalize A.tmps[7]?.getD undef = A7 at *
        generalize A.tmps[8]?.getD undef = A8 at *
        generalize A.tmps[9]?.getD undef = A9 at *
        generalize A.tmps[10]?.getD undef = A10 at *
        generalize A.tmps[11]?.getD undef = A11 at *
        generalize A.tmps[12]?.getD undef = A12 at *
        generalize A.tmps[13]?.getD undef = A13 at *
        generalize A.tmps[14]?.getD undef = A14 at *
        generalize A.tmps[15]?.getD undef = A15 at *
        generalize A.tmps[16]?.getD undef = A16 at *
        generalize A.tmps[17]?.getD undef = A17 at *
        generalize A.tmps[18]?.getD undef = A18 at *
        generalize A.tmps[19]?.getD undef = A19 at *
        generalize A.tmps[20]?.getD undef = A20 at *
        generalize A.tmps[21]?.getD undef = A21 at *
        generalize A.tmps[22]?.getD undef = A22 at *
        generalize A.tmps[23]?.getD undef = A23 at *
        generalize A.tmps[24]?.getD undef = A24 at *
        generalize A.tmps[25]?.getD undef = A25 at *
        generalize A.tmps[26]?.getD undef = A26 at *
        generalize A.tmps[27]?.getD undef = A27 at *
        generalize A.tmps[28]?.getD undef = A28 at *
        generalize A.tmps[29]?.getD undef = A29 at *
        generalize A.tmps[30]?.getD undef = A30 at *
        generalize A.tmps[31]?.getD undef = A31 at *
        generalize A.tmps[32]?.getD undef = A32 at *
        generalize A.tmps[33]?.getD undef = A33 at *
        generalize A.tmps[34]?.getD undef = A34 at *
        generalize A.tmps[35]?.getD undef = A35 at *
        generalize A.tmps[36]?.getD undef = A36 at *
        generalize A.tmps[37]?.getD undef = A37 at *
        have FIN := hide (And.intro hs0 (HX.out.trans (HXZ.out.trans ea.ext)))
        clear hs0
        go_wp2_with fail
        go_roundw
        case rel => exact ⟨k + 1, by omega, by go_num, by rw [HA.out]; exact FIN.out.1, FIN.out.2⟩
        case measure => simp [intOf]; omega
    · have hkl : k = l.length := by omega
      subst hkl
      rw [List.take_length] at hso
      go_wp2_with fail
      go_ret
      exact ⟨_, rfl, hso, hx⟩

set_option maxRecDepth 20000 in
set_option maxHeartbeats 8000000 in
theorem rAll_any (B : Nat) (m : Mdl) (w : World) (cs : List Value) (hR : RM w B m cs) (hB : B ≤ w.heap.size) (hsz : sizeM m ≤ 100000000) :
    Calls Tryz.prog 27 #[.agg cs.toArray] w fun e w' => ∃ v', e = .returned v' ∧ SStr w' (allM m) v' ∧ Ext w w' := by
  obtain ⟨v1, v2, v3, rfl, hp, hq, hi⟩ := hR
  have o3 := hi.oneCell
  have HI := hide hi
  obtain ⟨pa, pcap, rfl, -, hprow⟩ := hp
  obtain ⟨qa, qcap, rfl, -, hqrow⟩ := hq
  have hme : sizeM m = 1 + msize sizeB m.params + msize sizeP m.ports + msize sizeI m.items := rfl
  have hpl := length_le_msize sizeB m.params sizeB_pos
  have hql := length_le_msize sizeP m.ports sizeP_pos
  have hal0 := addAll_le (allIs m.items) []
  have hil := allIs_len m.items
  have hA0 : (addAll [] (allIs m.items)).length ≤ 200000000 := by simp at hal0; omega
  have hA1 := addAll_le (m.ports.map Prt.name) (addAll [] (allIs m.items))
  rw [List.length_map] at hA1
  obtain ⟨W1, hW1, hx1, hb1⟩ := box4 w (.string m.name) (.slice pa m.params.length pcap) (.slice qa m.ports.length qcap) v3 33
  have hV1 := hW1.symm
  obtain ⟨x0, x1, x2, x3⟩ := hb1.get4
  have GA := hide (rall_lt B _ m.items W1 v3 (.slice none 0 0) [] (HI.out.extRI hx1 hB) (Nat.le_trans hB hx1.size) ⟨none, 0, rfl, Nat.le_refl _, fun k hk => by cases hk⟩ (by simp; omega) (Nat.lt_succ_self _))
  have HPR := hide hprow
  have HQR := hide hqrow
  have HX0 := hide hx1
  have HBX := hide hb1
  have hpb : m.params.length ≤ 100000000 := by omega
  have hqb : m.ports.length ≤ 100000000 := by omega
  clear hW1 hx1 hb1 hprow hqrow hi hme hpl hql hal0 hil hsz
  go_enter Tryz.func27, Tryz.ntmps27
  go_wp2_with fail
  go_at_call 58
  refine GA.out.mono ?_
  rintro _ w1 ⟨v1', rfl, hs1, hx1⟩
  have HS1 := hide hs1
  have HXW1 := hide hx1
  clear hs1 hx1 x0 x1 x2 x3 GA hV1
  go_wp2_with fail
  go_loopw [3, 4] (fun vr i wr => ∃ k : Nat, k ≤ m.ports.length ∧ i = .int .i64 k ∧ SStr wr (addAll (addAll [] (allIs m.items)) ((m.ports.map Prt.name).take k)) vr ∧ Ext w1 wr) (fun _ i _ => m.ports.length - (intOf i).toNat)
  case atStart => exact ⟨0, Nat.zero_le _, rfl, by simpa [addAll_nil] using HS1.out, Ext.refl _⟩
  case round =>
    obtain ⟨k, hk, rfl, hso, hx⟩ := hrel
    have hxw := HXW1.out.trans hx
    obtain ⟨x0, x1, x2, x3⟩ := (HBX.out.ext hxw).get4
    have hal := addAll_le ((m.ports.map Prt.name).take k) (addAll [] (allIs m.items))
    have htl : ((m.ports.map Prt.name).take k).length ≤ m.ports.length := by rw [List.length_take, List.length_map]; omega
    by_cases hlt : k < m.ports.length
    · obtain ⟨b, o, u0, u1, u2, u3', u4, u5, u6, u7, rfl, hbB, hE, hC, -⟩ := HQR.out.open8 hlt
      have hnm : (m.ports.map Prt.name).take (k + 1) = (m.ports.map Prt.name).take k ++ [m.ports[k].name] := by
        rw [List.take_succ_eq_append_getElem (by simpa using hlt), List.getElem_map]
      have hA := show addAll (addAll [] (allIs m.items)) ((m.ports.map Prt.name).take (k + 1)) = addOne (addAll (addAll [] (allIs m.items)) ((m.ports.map Prt.name).take k)) m.ports[k].name from by rw [hnm, addAll_append, addAll_one]
      have HA := hide hA
      obtain ⟨cx, hcs, -⟩ := hE
      simp only [List.cons.injEq] at hcs
      obtain ⟨rfl, rfl, -⟩ := hcs
      obtain ⟨d0, -⟩ := (hC.ext (HX0.out.trans hxw)).get8
      have HM := hide (rmore_any (addAll (addAll [] (allIs m.items)) ((m.ports.map Prt.name).take k)) m.ports[k].name wr u3 hso (by omega))
      have HX := hide hx
      clear hC hso hx hxw hA hnm hal htl
      generalize m.ports[k].name = nmk at *
      generalize addAll (addAll [] (allIs m.items)) ((m.ports.map Prt.name).take k) = oo at *
      go_wp2_with fail
      go_at_call 53
      refine HM.out.mono ?_
      rintro _ w2 ⟨v2', rfl, hs2, hx2⟩
      have FIN := hide (And.intro hs2 (HX.out.trans hx2))
      clear hs2 hx2 HM
      go_wp2_with fail
      go_roundw
      case rel => exact ⟨k + 1, by omega, by go_num, by rw [HA.out]; exact FIN.out.1, FIN.out.2⟩
      case measure => simp [intOf]; omega
    · have hkl : k = m.ports.length := by omega
      subst hkl
      rw [show m.ports.length = (m.ports.map Prt.name).length by simp, List.take_length] at hso
      have HS2 := hide hso
      have HXW2 := hide hxw
      clear hso hx x0 x1 x2 x3 hal htl hxw
      obtain ⟨wq, hwq⟩ : ∃ wq, wq = wr := ⟨_, rfl⟩
      subst hwq
      obtain ⟨x0, x1, x2, x3⟩ := (HBX.out.ext HXW2.out).get4
      go_wp2_with fail
      clear x0 x1 x2 x3
      go_loopw [3, 5] (fun vr i wr => ∃ k : Nat, k ≤ m.params.length ∧ i = .int .i64 k ∧ SStr wr (addAll (addAll (addAll [] (allIs m.items)) (m.ports.map Prt.name)) ((m.params.map Bnd.name).take k)) vr ∧ Ext wq wr) (fun _ i _ => m.params.length - (intOf i).toNat)
      case atStart => exact ⟨0, Nat.zero_le _, rfl, by simpa [addAll_nil] using HS2.out, Ext.refl _⟩
      case round =>
        obtain ⟨k, hk, rfl, hso, hx⟩ := hrel
        have hxw := HXW2.out.trans hx
        obtain ⟨x0, x1, x2, x3⟩ := (HBX.out.ext hxw).get4
        have hal := addAll_le ((m.params.map Bnd.name).take k) (addAll (addAll [] (allIs m.items)) (m.ports.map Prt.name))
        have htl : ((m.params.map Bnd.name).take k).length ≤ m.params.length := by rw [List.length_take, List.length_map]; omega
        by_cases hlt : k < m.params.length
        · obtain ⟨b, o, u0, u1, u2, u3', u4, u5, u6, rfl, hbB, hE, hC, -⟩ := HPR.out.open7 hlt
          have hnm : (m.params.map Bnd.name).take (k + 1) = (m.params.map Bnd.name).take k ++ [m.params[k].name] := by
            rw [List.take_succ_eq_append_getElem (by simpa using hlt), List.getElem_map]
          have hA := show addAll (addAll (addAll [] (allIs m.items)) (m.ports.map Prt.name)) ((m.params.map Bnd.name).take (k + 1)) = addOne (addAll (addAll (addAll [] (allIs m.items)) (m.ports.map Prt.name)) ((m.params.map Bnd.name).take k)) m.params[k].name from by rw [hnm, addAll_append, addAll_one]
          have HA := hide hA
          obtain ⟨cx, hcs, -⟩ := hE
          simp only [List.cons.injEq] at hcs
          obtain ⟨rfl, -⟩ := hcs
          obtain ⟨d0, -⟩ := (hC.ext (HX0.out.trans hxw)).get7
          have HM := hide (rmore_any (addAll (addAll (addAll [] (allIs m.items)) (m.ports.map Prt.name)) ((m.params.map Bnd.name).take k)) m.params[k].name wr u3 hso (by omega))
          have HX := hide hx
          clear hC hso hx hxw hA hnm hal htl
          generalize m.params[k].name = nmk at *
          generalize addAll (addAll (addAll [] (allIs m.items)) (m.ports.map Prt.name)) ((m.params.map Bnd.name).take k) = oo at *
          go_wp2_with fail
          go_at_call 53
          refine HM.out.mono ?_
          rintro _ w2 ⟨v2', rfl, hs2, hx2⟩
          have FIN := hide (And.intro hs2 (HX.out.trans hx2))
          clear hs2 hx2 HM
          go_wp2_with fail
          go_roundw
          case rel => exact ⟨k + 1, by omega, by go_num, by rw [HA.out]; exact FIN.out.1, FIN.out.2⟩
          case measure => simp [intOf]; omega
        · have hkl : k = m.params.length := by omega
          subst hkl
          rw [show m.params.length = (m.params.map Bnd.name).length by simp, List.take_length] at hso
          have FIN := hide (And.intro hso (HX0.out.trans hxw))
          clear hso hx hxw
          go_wp2_with fail
          go_ret
          exact ⟨_, rfl, FIN.out.1, FIN.out.2⟩

end Go.Proofs.YtjoglnjpgkobeaaGreatDoor
