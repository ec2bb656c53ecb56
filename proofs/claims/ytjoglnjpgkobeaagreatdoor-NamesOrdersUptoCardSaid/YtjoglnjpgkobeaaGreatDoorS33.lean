import Derived.Shelf.SlicesE.DeleteFunc
import Derived.Ground.SlgfProg
import Derived.Test.YtjoglnjpgkobeaaGreatDoorProg
import Derived.Test.YtjoglnjpgkobeaaGreatDoorS29
import Derived.Test.YtjoglnjpgkobeaaGreatDoorS25
import Derived.Test.YtjoglnjpgkobeaaGreatDoorS24
import Derived.Test.YtjoglnjpgkobeaaGreatDoorS3
import Derived.Test.YtjoglnjpgkobeaaGreatDoorS4
import Derived.Test.YtjoglnjpgkobeaaGreatDoorS28
import Derived.Test.YtjoglnjpgkobeaaGreatDoorS32
import Derived.Test.YtjoglnjpgkobeaaGreatDoorS11
import Derived.Test.YtjoglnjpgkobeaaGreatDoorS12
import Derived.Test.YtjoglnjpgkobeaaGreatDoorS7
import Derived.Test.YtjoglnjpgkobeaaGreatDoorS27
set_option linter.all false
set_option linter.unusedVariables false
set_option linter.unusedSimpArgs false
namespace Go.Proofs.YtjoglnjpgkobeaaGreatDoor
open Go Go.RowKit
attribute [local go_sem] run_store_one
theorem enters_not2 : Enters Tryz.prog 35 := ⟨fun _ _ => by kernel_rfl⟩
set_option maxRecDepth 20000 in
theorem not2_any (N : ByteArray → Prop) (s : ByteArray) (p : Addr) (mp : Nat) (w : World) (hp : w.cell? p = some (.map (some mp))) (hs : SetB w mp N) :
   Calls Tryz.prog 35 #[.string s, .pointer (some p)] w fun e w' => e = .returned (.bool (yes (¬ N s))) ∧ Ext w w' := by
 have hask := hs.ask Tryz.underlying62 Tryz.underlying9 zeroBool s
 by_cases hN : N s
 · rw [yes_iff.2 hN] at hask
   rw [yes_no.2 (show ¬ ¬ N s from fun h => h hN)]
   clear hN hs
   go_enter Tryz.func35, Tryz.ntmps35
   go_wp2
   go_ret
   exact ⟨rfl, Ext.refl _⟩
 · rw [yes_no.2 hN] at hask
   rw [yes_iff.2 hN]
   clear hN hs
   go_enter Tryz.func35, Tryz.ntmps35
   go_wp2
   go_ret
   exact ⟨rfl, Ext.refl _⟩
noncomputable def checkN (f : List Mdl) : Int := if checkF f = 0 then namesOk f else checkF f
theorem items_le {f : List Mdl} {m : Mdl} (hm : m ∈ f) : msize sizeI m.items ≤ msize sizeM f := by
 have h1 := msize_mem sizeM f m hm
 have h2 : sizeM m = 1 + (msize sizeB m.params + msize sizeP m.ports + msize sizeI m.items) := by unfold sizeM; omega
 omega
structure CInv (w : World) (fb db mp : Nat) (vf : Value) (N : ByteArray → Prop) (X : World) : Prop where
 fbk : Blk X fb 24 [vf]
 dbk : Blk X db 62 [.map (some mp)]
 set : SetB X mp N
 ext : Ext w X
theorem CInv.later {w X Y : World} {fb db mp : Nat} {vf : Value} {N : ByteArray → Prop} (h : CInv w fb db mp vf N X) (hx : Ext X Y) : CInv w fb db mp vf N Y :=
 ⟨h.fbk.ext hx, h.dbk.ext hx, h.set.kept hx.gr (by simp), h.ext.trans hx⟩
theorem CInv.add {w X : World} {fb db mp : Nat} {vf : Value} {N N' : ByteArray → Prop} (h : CInv w fb db mp vf N X) (hm : w.heap.size ≤ mp) (o : Obj) (hs : SetB (setO X mp o) mp N') : CInv w fb db mp vf N' (setO X mp o) := by
 have hg := setO_grown X mp o
 exact ⟨(hg.block fb h.fbk.lt (blk_ne_set h.fbk h.set).symm).trans h.fbk, (hg.block db h.dbk.lt (blk_ne_set h.dbk h.set).symm).trans h.dbk, hs, h.ext.grown hg fun r e => by cases e; exact hm⟩
theorem CInv.congr {w X : World} {fb db mp : Nat} {vf : Value} {N N' : ByteArray → Prop} (h : CInv w fb db mp vf N X) (hN : ∀ s, N s ↔ N' s) : CInv w fb db mp vf N' X := ⟨h.fbk, h.dbk, h.set.congr hN, h.ext⟩
theorem names_take {f : List Mdl} {k : Nat} (hk : k < f.length) : namesF (f.take (k + 1)) = namesF (f.take k) ++ [f[k].name] := by
 unfold namesF
 rw [List.take_succ_eq_append_getElem hk, List.map_append]; rfl
theorem names_sub {f : List Mdl} {k : Nat} (h : (namesF f).Nodup) : (namesF (f.take k)).Nodup := by
 unfold namesF at *
 exact List.Pairwise.sublist ((List.take_sublist k f).map _) h
theorem names_step {f : List Mdl} {k : Nat} (hk : k < f.length) : (namesF (f.take (k + 1))).Nodup ↔ (namesF (f.take k)).Nodup ∧ ¬ f[k].name ∈ namesF (f.take k) := by
 rw [names_take hk, List.nodup_append]
 constructor
 · rintro ⟨h1, -, h3⟩
   exact ⟨h1, fun h => h3 _ h _ (List.mem_singleton.2 rfl) rfl⟩
 · rintro ⟨h1, h2⟩
   exact ⟨h1, by simp, fun a ha b hb e => by rw [List.mem_singleton.1 hb] at e; exact h2 (e ▸ ha)⟩
theorem ok_70 {f : List Mdl} (h : ¬ ((namesF f).Nodup ∧ ∀ m, m ∈ f → rightM m)) : namesOk f = 70 := by unfold namesOk; rw [if_neg h]
theorem ok_71 {f : List Mdl} (h : (namesF f).Nodup ∧ ∀ m, m ∈ f → rightM m) (h2 : ¬ ∀ m, m ∈ f → ∀ s, s ∈ usesM m → s ∈ namesF f) : namesOk f = 71 := by unfold namesOk; rw [if_pos h, if_neg h2]
theorem ok_end {f : List Mdl} (h : (namesF f).Nodup ∧ ∀ m, m ∈ f → rightM m) (h2 : ∀ m, m ∈ f → ∀ s, s ∈ usesM m → s ∈ namesF f) : namesOk f = if (orderF f).length < f.length then 72 else 0 := by unfold namesOk; rw [if_pos h, if_pos h2]
def chkF (vf : Value) (fb n len : Nat) (i : Nat) (v : Value) (w : World) : Prop := match i with
 | 0 => v = .agg #[vf]
 | 1 => ∃ a c, v = .slice a n c
 | 2 => v = .int .i64 n
 | 3 => v = .pointer (some ⟨fb, 0, none⟩)
 | 4 => v = vf
 | 5 => v = .int .i64 len
 | 6 => v = .bool (decide (n < len))
 | _ => True
theorem chkF_ext {vf : Value} {fb n len i : Nat} {v : Value} {w w' : World} (hh : chkF vf fb n len i v w) (hx : Ext w w') : chkF vf fb n len i v w' := hh
set_option maxRecDepth 20000 in
set_option maxHeartbeats 4000000 in
theorem checkN_any (B : Nat) (f : List Mdl) (w : World) (vf : Value) (hT : Tabs w) (hS : Sl (RM w B) w B 4 f vf) (hB : B ≤ w.heap.size) (hsz : msize sizeM f ≤ 10000000) (hvx : ∀ m, m ∈ f → VM m) :
   Calls Tryz.prog 10 #[.agg #[vf]] w fun e w' => e = .returned (.int .i64 (checkN f)) ∧ Ext w w' := by
 have HS := hide hS
 have hln := length_le_msize sizeM f sizeM_pos
 have HIT := hide (fun m (hm : m ∈ f) => Nat.le_trans (items_le hm) hsz)
 have HMZ := hide (fun m (hm : m ∈ f) => Nat.le_trans (msize_mem sizeM f m hm) hsz)
 obtain ⟨a, cap, rfl, hcap, hrow⟩ := hS
 have HROW := hide hrow
 obtain ⟨W1, hW1, hx1, hb1⟩ := box1 w (.slice a f.length cap) 24
 have hV1 := hW1.symm
 have m0 := hb1.get1
 have GC := hide (Check_any B f W1 _ (hT.ext hx1) (HS.out.extRM hx1 hB) (Nat.le_trans hB hx1.size) (by omega) hvx)
 have HX1 := hide hx1
 have HB1 := hide hb1
 clear hcap hrow hx1 hb1 hW1 hT hvx
 by_cases hc0 : checkF f = 0
 · rw [hc0] at GC
   have hN : checkN f = namesOk f := by unfold checkN; rw [if_pos hc0]
   rw [hN]
   clear hN hc0
   go_enter Tryz.func10, Tryz.ntmps10
   go_wp2_with fail
   go_at_call 32
   refine GC.out.mono ?_
   rintro _ w1 ⟨rfl, hx⟩
   obtain ⟨W2, hW2⟩ : ∃ W2, W2 = w1.alloc (.map #[] 0) := ⟨_, rfl⟩
   have hx2 : Ext w1 W2 := by rw [hW2]; exact Ext.new _ _
   have hs2 : SetB W2 w1.heap.size (fun _ => False) := by rw [hW2]; exact SetB.new w1
   obtain ⟨W3, hW3, hx3, hb3⟩ := box1 W2 (.map none) 62
   have m1 := hb3.get1
   have n1 := hb3.free1
   obtain ⟨W4, hW4⟩ : ∃ W4, W4 = W3.setCell ⟨W2.heap.size, 0, none⟩ (.map (some w1.heap.size)) := ⟨_, rfl⟩
   have hb4 : Blk W4 W2.heap.size 62 [.map (some w1.heap.size)] := by rw [hW4]; exact hb3.store1 _
   have hx4 : Ext W2 W4 := by rw [hW4]; exact hx3.setCell (Nat.le_refl _) _
   have hmp : w.heap.size ≤ w1.heap.size := (HX1.out.trans hx).size
   have HC := hide (show CInv w w.heap.size W2.heap.size w1.heap.size (.slice a f.length cap) (fun s => s ∈ namesF (f.take 0)) W4 from
     ⟨HB1.out.ext (hx.trans (hx2.trans hx4)), hb4, (hs2.kept hx4.gr (by simp)).congr (fun s => by simp [namesF]), HX1.out.trans (hx.trans (hx2.trans hx4))⟩)
   have m4 := HC.out.fbk.get1
   have hV2 := hW2.symm
   have hV3 := hW3.symm
   have hV4 := hW4.symm
   have hmm := @run_makeMap Tryz.prog
   clear hx hx2 hs2 hx3 hb3 hb4 hx4 hW2 hW3 hW4 HX1 HB1 GC
   have HC0 := hide HC.out
   go_wp2_with fail
   clear HC
   go_loopw [18] (fun i wr => ∃ k : Nat, k ≤ f.length ∧ i = .int .i64 k ∧ CInv w w.heap.size W2.heap.size w1.heap.size (.slice a f.length cap) (fun s => s ∈ namesF (f.take k)) wr ∧ (namesF (f.take k)).Nodup ∧ ∀ m, m ∈ f.take k → rightM m) (fun i _ => f.length - (intOf i).toNat)
   case atStart => exact ⟨0, Nat.zero_le _, rfl, HC0.out, by simp [namesF], fun m hm => by simp at hm⟩
   case round =>
     obtain ⟨k, hk, rfl, hinv, hnd, hrt⟩ := hrel
     clear m4 m0 m1 n1 hV1 hV2 hV3 hV4 HC0 hmm
     have HV := hide hinv
     have HND := hide hnd
     have HRT := hide hrt
     clear hinv hnd hrt
     by_cases hlt : k < f.length
     · obtain ⟨b, o, v0, v1, v2, v3, rfl, hbB, hR, hC, o0, o1, o2, o3⟩ := HROW.out.open4 hlt
       obtain ⟨d0, d1, d2, d3⟩ := (hC.ext HV.out.ext).get4
       have HRM := hide hR
       obtain ⟨v1', v2', v3', hcs, -, -, -⟩ := hR
       simp only [List.cons.injEq, and_true] at hcs
       obtain ⟨rfl, rfl, rfl, rfl⟩ := hcs
       obtain ⟨Wb, Wc, hVb, ⟨p0, p1, p2, p3⟩, ⟨q0, q1, q2, q3⟩, hVc, hbc, hxc, -⟩ := varM wr (.string f[k].name) v1 v2 v3
       obtain ⟨ec, hec⟩ := Later.mk_ex (Ext.refl Wc)
       replace hVc := hVc.trans hec
       obtain ⟨c0, c1, c2, c3⟩ := hbc.later4
       have HXE := hide (hxc.trans ec.ext)
       have HVE := hide (HV.out.later HXE.out)
       have y0 := HVE.out.dbk.get1
       have hask := HVE.out.set.ask Tryz.underlying62 Tryz.underlying9 zeroBool f[k].name
       have GR := hide (right_any B f[k] ec.w _ (HRM.out.ext HVE.out.ext hB) (Nat.le_trans hB HVE.out.ext.size) (by have := HMZ.out f[k] (List.getElem_mem hlt); omega))
       clear hC hbc hxc hec HV HRM HROW
       by_cases hin : f[k].name ∈ namesF (f.take k)
       · rw [yes_iff.2 hin] at hask
         have FIN := hide (ok_70 (f := f) (fun h => ((names_step hlt).1 (names_sub h.1)).2 hin))
         clear hin GR
         generalize f[k] = x at *
         go_wp2_with (refine ⟨trivial, ?_⟩)
         go_ret
         exact ⟨by rw [FIN.out]; rfl, HVE.out.ext⟩
       · rw [yes_no.2 hin] at hask
         by_cases hr : rightM f[k]
         · rw [yes_iff.2 hr] at GR
           have SND := hide ((names_step hlt).2 ⟨HND.out, hin⟩)
           have SRT := hide (show ∀ m, m ∈ f.take (k + 1) → rightM m from fun m hm => by
             rw [List.take_succ_eq_append_getElem hlt] at hm
             rcases List.mem_append.1 hm with h | h
             · exact HRT.out m h
             · rw [List.mem_singleton.1 h]; exact hr)
           have SNM := hide (fun s => (by rw [names_take hlt]; simp : (s ∈ namesF (f.take k) ∨ s = f[k].name) ↔ s ∈ namesF (f.take (k + 1))))
           clear hin hr HND HRT
           generalize f[k] = x at *
           go_wp2_with fail
           go_at_call 33
           refine GR.out.mono ?_
           rintro _ w2 ⟨rfl, hx2⟩
           have HV2 := hide (HVE.out.later hx2)
           have y2 := HV2.out.dbk.get1
           have c0' := hx2.at_ (c0 ec)
           obtain ⟨oo, hup, hs6⟩ := HV2.out.set.add Tryz.underlying62 Tryz.underlying9 x.name
           have HV6 := hide ((HV2.out.add hmp oo hs6).congr SNM.out)
           clear hs6 hx2 hask y0 c0 c1 c2 c3 GR
           go_wp2_with fail
           go_roundw
           case rel => exact ⟨k + 1, by omega, by go_num, HV6.out, SND.out, SRT.out⟩
           case measure => simp [intOf]; omega
         · rw [yes_no.2 hr] at GR
           have FIN := hide (ok_70 (f := f) (fun h => hr (h.2 _ (List.getElem_mem hlt))))
           clear hin hr
           generalize f[k] = x at *
           go_wp2_with fail
           go_at_call 33
           refine GR.out.mono ?_
           rintro _ w2 ⟨rfl, hx2⟩
           have HX2 := hide (HVE.out.ext.trans hx2)
           clear hx2
           go_wp2_with fail
           go_ret
           exact ⟨by rw [FIN.out]; rfl, HX2.out⟩
     · have hkl : k = f.length := by omega
       subst hkl
       obtain ⟨wq, hwq⟩ : ∃ wq, wq = wr := ⟨_, rfl⟩
       subst hwq
       rw [List.take_length] at HND HRT HV
       have y0 := HV.out.fbk.get1
       have HZ0 := hide (show CInv w w.heap.size W2.heap.size w1.heap.size (.slice a f.length cap) (fun s => s ∈ namesF f) wq from HV.out)
       go_wp2_with fail
       clear HV y0
       have ALL := hide (And.intro HND.out HRT.out)
       clear HND HRT
       go_loopw [38] (fun i wr => ∃ k : Nat, k ≤ f.length ∧ i = .int .i64 k ∧ CInv w w.heap.size W2.heap.size w1.heap.size (.slice a f.length cap) (fun s => s ∈ namesF f) wr ∧ ∀ m, m ∈ f.take k → ∀ s, s ∈ usesM m → s ∈ namesF f) (fun i _ => f.length - (intOf i).toNat)
       case atStart => exact ⟨0, Nat.zero_le _, rfl, HZ0.out, fun m hm => by simp at hm⟩
       case round =>
         obtain ⟨k, hk, rfl, hinv, hus⟩ := hrel
         have HV := hide hinv
         have HUS := hide hus
         clear hinv hus HZ0
         have hmf : ∀ (fn : Fn) (first cap : Array Value) (w : World), (Instr.makeFunc fn first cap).run Tryz.prog w = .ok (.func fn first cap) w := fun _ _ _ _ => rfl
         by_cases hlt : k < f.length
         · obtain ⟨b, o, v0, v1, v2, v3, rfl, hbB, hR, hC, o0, o1, o2, o3⟩ := HROW.out.open4 hlt
           obtain ⟨d0, d1, d2, d3⟩ := (hC.ext HV.out.ext).get4
           have HRM := hide hR
           obtain ⟨v1', v2', v3', hcs, -, -, -⟩ := hR
           simp only [List.cons.injEq, and_true] at hcs
           obtain ⟨rfl, rfl, rfl, rfl⟩ := hcs
           obtain ⟨Wb, Wc, hVb, ⟨p0, p1, p2, p3⟩, ⟨q0, q1, q2, q3⟩, hVc, hbc, hxc, -⟩ := varM wr (.string f[k].name) v1 v2 v3
           obtain ⟨ec, hec⟩ := Later.mk_ex (Ext.refl Wc)
           replace hVc := hVc.trans hec
           obtain ⟨c0, c1, c2, c3⟩ := hbc.later4
           have HXE := hide (hxc.trans ec.ext)
           have HVE := hide (HV.out.later HXE.out)
           have hmem := List.getElem_mem hlt
           have GU := hide (uses_any B f[k] ec.w _ (HRM.out.ext HVE.out.ext hB) (Nat.le_trans hB HVE.out.ext.size) (HIT.out _ hmem))
           have hul := uses_len f[k] (HIT.out _ hmem)
           clear hC hbc hxc hec HV HRM HROW
           by_cases hex : ∃ s, s ∈ usesM f[k] ∧ ¬ s ∈ namesF f
           · have FIN := hide (ok_71 ALL.out (fun h => by obtain ⟨s, h1, h2⟩ := hex; exact h2 (h _ hmem s h1)))
             clear hmem
             generalize f[k] = x at *
             go_wp2_with fail
             go_at_call 16
             refine GU.out.mono ?_
             rintro _ w2 ⟨v, rfl, hown, hx⟩
             have HV2 := hide (HVE.out.later hx)
             have GC := hide (containsS_any 35 enters_not2 (fun s => ¬ s ∈ namesF f) (.pointer (some ⟨W2.heap.size, 0, none⟩)) (usesM x) w2
               (fun y _ w' hw' => not2_any (fun s => s ∈ namesF f) y ⟨W2.heap.size, 0, none⟩ w1.heap.size w' (hw'.at_ HV2.out.dbk.get1) (HV2.out.set.kept hw'.gr (by simp))) v (SStr.of_row hown) (by omega))
             rw [yes_iff.2 hex] at GC
             clear hown hx GU hex
             go_wp2_with fail
             go_at_call 34
             refine GC.out.mono ?_
             rintro _ w3 ⟨rfl, hx3⟩
             have HX3 := hide (HV2.out.ext.trans hx3)
             clear hx3
             go_wp2_with fail
             go_ret
             exact ⟨by rw [FIN.out]; rfl, HX3.out⟩
           · have SUS := hide (show ∀ m, m ∈ f.take (k + 1) → ∀ s, s ∈ usesM m → s ∈ namesF f from fun m hm s hs => by
               rw [List.take_succ_eq_append_getElem hlt] at hm
               rcases List.mem_append.1 hm with h | h
               · exact HUS.out m h s hs
               · rw [List.mem_singleton.1 h] at hs
                 exact Classical.byContradiction fun hc => hex ⟨s, hs, hc⟩)
             clear hmem HUS
             generalize f[k] = x at *
             go_wp2_with fail
             go_at_call 16
             refine GU.out.mono ?_
             rintro _ w2 ⟨v, rfl, hown, hx⟩
             have HV2 := hide (HVE.out.later hx)
             have GC := hide (containsS_any 35 enters_not2 (fun s => ¬ s ∈ namesF f) (.pointer (some ⟨W2.heap.size, 0, none⟩)) (usesM x) w2
               (fun y _ w' hw' => not2_any (fun s => s ∈ namesF f) y ⟨W2.heap.size, 0, none⟩ w1.heap.size w' (hw'.at_ HV2.out.dbk.get1) (HV2.out.set.kept hw'.gr (by simp))) v (SStr.of_row hown) (by omega))
             rw [yes_no.2 hex] at GC
             clear hown hx GU hex
             go_wp2_with fail
             go_at_call 34
             refine GC.out.mono ?_
             rintro _ w3 ⟨rfl, hx3⟩
             have HV3 := hide (HV2.out.later hx3)
             clear hx3
             go_wp2_with fail
             go_roundw
             case rel => exact ⟨k + 1, by omega, by go_num, HV3.out, SUS.out⟩
             case measure => simp [intOf]; omega
         · have hkl : k = f.length := by omega
           subst hkl
           obtain ⟨wz, hwz⟩ : ∃ wz, wz = wr := ⟨_, rfl⟩
           subst hwz
           rw [List.take_length] at HUS
           have FIN := hide (ok_end ALL.out HUS.out)
           have y1 := fun e : Later wz => e.ext.at_ HV.out.fbk.get1
           have GO := hide (fun e : Later wz => order_any B f e.w _ (HS.out.extRM (HV.out.ext.trans e.ext) hB) (Nat.le_trans hB (HV.out.ext.trans e.ext).size) (by omega) HIT.out)
           have hol := (orderF_end f).1.le
           clear ALL HUS
           go_wp2_with fail
           refine wp_region_facts_g (W := wz) (chkF (.slice a f.length cap) w.heap.size (orderF f).length f.length) (by kernel_rfl) (by kernel_rfl) ?_ (Ext.refl _) (fun i v w w' h hx => chkF_ext h hx) ?_ ?_
           · simp [GuardsMet, chkF]
           · refine ⟨?_, ?_, ?_, ?_, ?_, ?_, ?_, trivial⟩
             · intro A wa hxa hd h0
               obtain ⟨ea, rfl⟩ := Later.mk_ex hxa
               have r1 := rest_at h0 1 (by kernel_rfl)
               simp at r1
               clear hd h0
               go_simp
               first | exact ⟨_, rfl, Ext.refl _, rfl⟩ | exact ⟨Ext.refl _, rfl⟩ | exact rfl | exact ⟨_, rfl, rfl⟩
             · intro A wa hxa hd h0
               obtain ⟨ea, rfl⟩ := Later.mk_ex hxa
               have q0 := depOn hd 0 47 (by kernel_rfl) rfl
               simp [chkF] at q0
               clear hd h0
               go_simp
               refine (GO.out ea).mono ?_
               rintro e w2 ⟨v, rfl, hown, hx⟩
               obtain ⟨va, vc, rfl⟩ := row_slice_n hown
               go_simp
               first | exact ⟨_, rfl, hx, ⟨va, vc, rfl⟩⟩ | exact ⟨hx, ⟨va, vc, rfl⟩⟩ | exact ⟨va, vc, rfl⟩ | exact ⟨_, rfl, ⟨va, vc, rfl⟩⟩
             · intro A wa hxa hd h0
               obtain ⟨ea, rfl⟩ := Later.mk_ex hxa
               obtain ⟨qa, qc, q1⟩ := depOn hd 1 48 (by kernel_rfl) rfl
               simp at q1
               clear hd h0
               go_simp
               first | exact ⟨_, rfl, Ext.refl _, rfl⟩ | exact ⟨Ext.refl _, rfl⟩ | exact rfl | exact ⟨_, rfl, rfl⟩
             · intro A wa hxa hd h0
               obtain ⟨ea, rfl⟩ := Later.mk_ex hxa
               have r1 := rest_at h0 1 (by kernel_rfl)
               simp at r1
               clear hd h0
               go_simp
               first | exact ⟨_, rfl, Ext.refl _, rfl⟩ | exact ⟨Ext.refl _, rfl⟩ | exact rfl | exact ⟨_, rfl, rfl⟩
             · intro A wa hxa hd h0
               obtain ⟨ea, rfl⟩ := Later.mk_ex hxa
               have q3 := depOn hd 3 50 (by kernel_rfl) rfl
               simp [chkF] at q3
               clear hd h0
               go_simp
               first | exact ⟨_, rfl, Ext.refl _, rfl⟩ | exact ⟨Ext.refl _, rfl⟩ | exact rfl | exact ⟨_, rfl, rfl⟩
             · intro A wa hxa hd h0
               obtain ⟨ea, rfl⟩ := Later.mk_ex hxa
               have q4 := depOn hd 4 51 (by kernel_rfl) rfl
               simp [chkF] at q4
               clear hd h0
               go_simp
               first | exact ⟨_, rfl, Ext.refl _, rfl⟩ | exact ⟨Ext.refl _, rfl⟩ | exact rfl | exact ⟨_, rfl, rfl⟩
             · intro A wa hxa hd h0
               obtain ⟨ea, rfl⟩ := Later.mk_ex hxa
               have q2 := depOn hd 2 49 (by kernel_rfl) rfl
               simp [chkF] at q2
               have q5 := depOn hd 5 52 (by kernel_rfl) rfl
               simp [chkF] at q5
               clear hd h0
               go_simp
               first | exact ⟨_, rfl, Ext.refl _, rfl⟩ | exact ⟨Ext.refl _, rfl⟩ | exact rfl | exact ⟨_, rfl, rfl⟩
           · intro A wa hk
             obtain ⟨hxa, hsz, hdf, hdn, hrs⟩ := hk
             obtain ⟨ea, rfl⟩ := Later.mk_ex hxa
             have k53 : A.tmps.getD 53 undef = .bool (decide ((orderF f).length < f.length)) := hdn 6 53 rfl rfl
             clear hdn hrs
             rw [act_lit hsz hdf]
             simp [List.range, List.range.loop] at k53
             simp [List.range, List.range.loop, k53]
             clear k53 hsz hdf
             generalize A.tmps[0]?.getD undef = A0 at *
             generalize A.tmps[1]?.getD undef = A1 at *
             generalize A.tmps[2]?.getD undef = A2 at *
             generalize A.tmps[3]?.getD undef = A3 at *
             generalize A.tmps[4]?.getD undef = A4 at *
             generalize A.tmps[5]?.getD undef = A5 at *
             generalize A.tmps[6]?.getD undef = A6 at *
             generalize A.tmps[7]?.getD undef = A7 at *
             generalize A.tmps[8]?.getD undef = A8 at *
             generalize A.tmps[9]?.getD undef = A9 at *
             generalize A.tmps[10]?.getD undef = A10 at *
             generalize A.tmps[11]?.getD undef = A11 at *
             generalize A.tmps[12]?.getD undef = A12 at *
             generalize A.tmps[13]?.getD undef = A13 at *
             generalize A.tmps[14]?.getD undef = A14 at *
             generalize A.tmps[15]?.getD undef = A15 at *
             generalize A.tmps[16]?.getD undef = A16 at *
             generalize A.tmps[17]?.getD undef = A17 at *
             generalize A.tmps[18]?.getD undef = A18 at *
             generalize A.tmps[19]?.getD undef = A19 at *
             generalize A.tmps[20]?.getD undef = A20 at *
             generalize A.tmps[21]?.getD undef = A21 at *
             generalize A.tmps[22]?.getD undef = A22 at *
             generalize A.tmps[23]?.getD undef = A23 at *
             generalize A.tmps[24]?.getD undef = A24 at *
             generalize A.tmps[25]?.getD undef = A25 at *
             generalize A.tmps[26]?.getD undef = A26 at *
             generalize A.tmps[27]?.getD undef = A27 at *
             generalize A.tmps[28]?.getD undef = A28 at *
             generalize A.tmps[29]?.getD undef = A29 at *
             generalize A.tmps[30]?.getD undef = A30 at *
             generalize A.tmps[31]?.getD undef = A31 at *
             generalize A.tmps[32]?.getD undef = A32 at *
             generalize A.tmps[33]?.getD undef = A33 at *
             generalize A.tmps[34]?.getD undef = A34 at *
             generalize A.tmps[35]?.getD undef = A35 at *
             generalize A.tmps[36]?.getD undef = A36 at *
             generalize A.tmps[37]?.getD undef = A37 at *
             generalize A.tmps[38]?.getD undef = A38 at *
             generalize A.tmps[39]?.getD undef = A39 at *
             generalize A.tmps[40]?.getD undef = A40 at *
             generalize A.tmps[41]?.getD undef = A41 at *
             generalize A.tmps[42]?.getD undef = A42 at *
             generalize A.tmps[43]?.getD undef = A43 at *
             generalize A.tmps[44]?.getD undef = A44 at *
             generalize A.tmps[45]?.getD undef = A45 at *
             generalize A.tmps[46]?.getD undef = A46 at *
             generalize A.tmps[47]?.getD undef = A47 at *
             generalize A.tmps[48]?.getD undef = A48 at *
             generalize A.tmps[49]?.getD undef = A49 at *
             generalize A.tmps[50]?.getD undef = A50 at *
             generalize A.tmps[51]?.getD undef = A51 at *
             generalize A.tmps[52]?.getD undef = A52 at *
             by_cases hlt2 : (orderF f).length < f.length
             · have hd : decide ((orderF f).length < f.length) = true := decide_eq_true hlt2
               have FN2 := hide (show namesOk f = 72 by rw [FIN.out, if_pos hlt2])
               rw [hd]
               clear hlt2 hd hlt hk
               go_wp2_with fail
               go_ret
               exact ⟨by rw [FN2.out]; rfl, HV.out.ext.trans (Later.ext _)⟩
             · have hd : decide ((orderF f).length < f.length) = false := decide_eq_false hlt2
               have FN2 := hide (show namesOk f = 0 by rw [FIN.out, if_neg hlt2])
               rw [hd]
               clear hlt2 hd hlt hk
               go_wp2_with fail
               go_ret
               exact ⟨by rw [FN2.out]; rfl, HV.out.ext.trans (Later.ext _)⟩
 · have hN : checkN f = checkF f := by unfold checkN; rw [if_neg hc0]
   rw [hN]
   have hne : (checkF f != 0) = true := by simpa using hc0
   obtain ⟨c, hc⟩ : ∃ c, c = checkF f := ⟨_, rfl⟩
   rw [← hc] at hne GC ⊢
   clear hN hc0 hc
   go_enter Tryz.func10, Tryz.ntmps10
   go_wp2_with fail
   go_at_call 32
   refine GC.out.mono ?_
   rintro _ w1 ⟨rfl, hx⟩
   have FX := hide (HX1.out.trans hx)
   clear hx GC HX1 HB1
   go_wp2_with fail
   go_ret
   exact ⟨rfl, FX.out⟩
theorem row_lower {X : World} {base base' k : Nat} {v : Value} {xs : List Value} (h : X.ownsRow base 9 1 v k xs) (hb : base' ≤ base) : X.ownsRow base' 9 1 v k xs := by
 refine ⟨h.1, ?_⟩
 rcases h.2 with h0 | ⟨g, cap, cur, h1, h2, h3⟩
 · exact .inl h0
 · exact .inr ⟨g, cap, cur, h1, Nat.le_trans hb h2, h3⟩
set_option maxRecDepth 20000 in
set_option maxHeartbeats 1000000 in
theorem orderN_any (B : Nat) (f : List Mdl) (w : World) (vf : Value) (hT : Tabs w) (hS : Sl (RM w B) w B 4 f vf) (hB : B ≤ w.heap.size) (hsz : msize sizeM f ≤ 10000000) (hvx : ∀ m, m ∈ f → VM m) :
   Calls Tryz.prog 18 #[.agg #[vf]] w fun e w' => ∃ v, e = .returned (.tuple #[v, .int .i64 (checkN f)]) ∧ Ext w w' ∧ (checkN f = 0 → w'.ownsRow w.heap.size 9 1 v (orderF f).length ((orderF f).map .string)) ∧ (checkN f ≠ 0 → v = .slice none 0 0) := by
 have HS := hide hS
 have hln := length_le_msize sizeM f sizeM_pos
 have HIT := hide (fun m (hm : m ∈ f) => Nat.le_trans (items_le hm) hsz)
 obtain ⟨a, cap, rfl, hcap, hrow⟩ := hS
 obtain ⟨W1, e1, hV1, hx1, hz1, a0⟩ := boxL1 w (.slice a f.length cap) 24
 have HX := hide (hx1.trans e1.ext)
 have GC := hide (checkN_any B f e1.w _ (hT.ext HX.out) (HS.out.extRM HX.out hB) (Nat.le_trans hB HX.out.size) hsz hvx)
 clear hcap hrow hx1 hz1 hT hvx
 obtain ⟨c, hc⟩ : ∃ c, c = checkN f := ⟨_, rfl⟩
 rw [← hc] at GC ⊢
 have HC := hide hc
 clear hc
 go_enter Tryz.func18, Tryz.ntmps18
 go_wp2_with fail
 go_at_call 10
 refine GC.out.mono ?_
 rintro _ w1 ⟨rfl, hx⟩
 obtain ⟨e2, rfl⟩ := Later.mk_ex (e1.ext.trans hx)
 have HX2 := hide (HX.out.trans hx)
 have a1 := a0 e2
 clear hx GC a0
 by_cases h0 : c = 0
 · have hne : (c != 0) = false := by simpa using h0
   have H0 := hide h0
   clear h0
   have GO := hide (order_any B f e2.w _ (HS.out.extRM HX2.out hB) (Nat.le_trans hB HX2.out.size) (by omega) HIT.out)
   go_wp2_with fail
   go_at_call 36
   refine GO.out.mono ?_
   rintro _ w2 ⟨v, rfl, hown, hx3⟩
   have FIN := hide (And.intro (row_lower hown HX2.out.size) (HX2.out.trans hx3))
   clear hown hx3 GO
   go_wp2_with fail
   go_ret2
   exact ⟨v, by rw [H0.out]; rfl, FIN.out.2, fun _ => FIN.out.1, fun h => absurd H0.out h⟩
 · have hne : (c != 0) = true := by simpa using h0
   have H0 := hide h0
   clear h0
   go_wp2_with fail
   go_ret2
   exact ⟨_, rfl, HX2.out, fun h => absurd h H0.out, fun _ => rfl⟩
structure DInv (w : World) (fb mb db mp : Nat) (vf : Value) (N : ByteArray → Prop) (X : World) : Prop where
 fbk : Blk X fb 24 [vf]
 mbk : Blk X mb 62 [.map (some mp)]
 dbk : Blk X db 65 [.func (.func 50) #[] #[.pointer (some ⟨fb, 0, none⟩), .pointer (some ⟨mb, 0, none⟩), .pointer (some ⟨db, 0, none⟩)]]
 set : SetB X mp N
 ext : Ext w X
theorem DInv.later {w X Y : World} {fb mb db mp : Nat} {vf : Value} {N : ByteArray → Prop} (h : DInv w fb mb db mp vf N X) (hx : Ext X Y) : DInv w fb mb db mp vf N Y :=
 ⟨h.fbk.ext hx, h.mbk.ext hx, h.dbk.ext hx, h.set.kept hx.gr (by simp), h.ext.trans hx⟩
theorem DInv.add {w X : World} {fb mb db mp : Nat} {vf : Value} {N N' : ByteArray → Prop} (h : DInv w fb mb db mp vf N X) (hm : w.heap.size ≤ mp) (o : Obj) (hs : SetB (setO X mp o) mp N') : DInv w fb mb db mp vf N' (setO X mp o) := by
 have hg := setO_grown X mp o
 exact ⟨(hg.block fb h.fbk.lt (blk_ne_set h.fbk h.set).symm).trans h.fbk, (hg.block mb h.mbk.lt (blk_ne_set h.mbk h.set).symm).trans h.mbk, (hg.block db h.dbk.lt (blk_ne_set h.dbk h.set).symm).trans h.dbk, hs, h.ext.grown hg fun r e => by cases e; exact hm⟩
theorem enters_down : Enters Tryz.prog 50 := ⟨fun _ _ => by kernel_rfl⟩
def DownC (w : World) (fb mb db mp : Nat) (vf : Value) (f : List Mdl) (N : ByteArray → Prop) : Prop := ∀ (name : ByteArray) (X : World), DInv w fb mb db mp vf N X →
 Calls Tryz.prog 50 #[.string name, .pointer (some ⟨fb, 0, none⟩), .pointer (some ⟨mb, 0, none⟩), .pointer (some ⟨db, 0, none⟩)] X fun e X' => e = .returned (.bool (findM f name).isSome) ∧ X.grownBy X' (some mp) ∧ ∃ N', DownOk f N name N' ∧ DInv w fb mb db mp vf N' X'
set_option maxRecDepth 20000 in
set_option maxHeartbeats 4000000 in
theorem down_step (w : World) (B fb mb db mp : Nat) (vf : Value) (f : List Mdl) (hS : Sl (RM w B) w B 4 f vf) (hB : B ≤ w.heap.size) (hsz : f.length ≤ 1000000000) (hit : ∀ m, m ∈ f → msize sizeI m.items ≤ 10000000) (hmp : w.heap.size ≤ mp) (N : ByteArray → Prop)
   (IH : ∀ N', unm f N' < unm f N → DownC w fb mb db mp vf f N') : DownC w fb mb db mp vf f N := by
 intro name X hI
 have HI := hide hI
 have HIH := hide IH
 have HIT := hide hit
 have HS := hide hS
 have hw := hI.ext
 have y0 := hI.fbk.get1
 have GF := hide (find_any B f name X vf (hS.extRM hw hB) (Nat.le_trans hB hw.size) hsz)
 have hask := hI.set.ask Tryz.underlying62 Tryz.underlying9 zeroBool name
 clear hI IH hit hS hw hask
 go_enter Tryz.func50, Tryz.ntmps50
 go_wp2_with fail
 go_at_call 12
 refine GF.out.mono ?_
 rintro _ w1 ⟨c0, c1, c2, c3, rfl, hR, hx1⟩
 have HRW := hide (RM.keep (w' := w) (fun p hp => ((HI.out.ext.trans hx1).cell (by omega)).symm) (Nat.le_refl _) _ _ hR)
 obtain ⟨v1, v2, v3, hcs, hp1, hq1, hi1⟩ := hR
 simp only [List.cons.injEq, and_true] at hcs
 obtain ⟨rfl, rfl, rfl, rfl⟩ := hcs
 have o1 := hp1.oneCell
 have o2 := hq1.oneCell
 have o3 := hi1.oneCell
 obtain ⟨Wb, Wc, hVb, ⟨p0, p1, p2, p3⟩, ⟨q0, q1, q2, q3⟩, hVc, hbc, hxc, -⟩ := varM w1 (.string ((findM f name).getD zeroM).name) c1 c2 c3
 obtain ⟨ec, hec⟩ := Later.mk_ex (Ext.refl Wc)
 replace hVc := hVc.trans hec
 have HXE := hide (hx1.trans (hxc.trans ec.ext))
 have HE := hide (HI.out.later HXE.out)
 have HBC := hide (hbc.ext ec.ext)
 have y1 := HE.out.mbk.get1
 have hask := HE.out.set.ask Tryz.underlying62 Tryz.underlying9 zeroBool name
 clear hp1 hq1 hi1 hbc hxc hec hx1 GF
 obtain ⟨x, hgm⟩ : ∃ x, (findM f name).getD zeroM = x := ⟨_, rfl⟩
 rw [hgm] at HRW HBC hVc ⊢
 by_cases hfound : ∃ m, findM f name = some m
 · obtain ⟨m, hm⟩ := hfound
   have hsome : (findM f name).isSome = true := by rw [hm]; rfl
   have HSO := hide hsome
   have hgs : (findM f name).isSome = true := hsome
   obtain rfl : x = m := by rw [← hgm, hm]; rfl
   clear hgm
   by_cases hN : N name
   · rw [yes_iff.2 hN] at hask
     have FIN := hide (And.intro (gr_none (r := some mp) HXE.out) (And.intro (down_skip (f := f) (.inr hN)) HE.out))
     clear hN hm hsome
     go_wp2_with fail
     go_ret
     exact ⟨by rw [HSO.out]; rfl, FIN.out.1, N, FIN.out.2⟩
   · rw [yes_no.2 hN] at hask
     have hnm : name ∈ namesF f := find_isSome.1 hsome
     have HLT := hide (unm_lt hnm hN)
     obtain ⟨hmf, hme⟩ := find_spec2 hm
     have HITm := HIT.out x hmf
     have hul := uses_len x HITm
     have HM := hide (And.intro hm (And.intro hN hsome))
     obtain ⟨oo, hup, hs6⟩ := HE.out.set.add Tryz.underlying62 Tryz.underlying9 name
     obtain ⟨W5, hW5⟩ : ∃ W5, setO ec.w mp oo = W5 := ⟨_, rfl⟩
     have HE5 := hide (show DInv w fb mb db mp vf (fun s => N s ∨ s = name) W5 from hW5 ▸ HE.out.add hmp oo hs6)
     have hg5 : ec.w.grownBy W5 (some mp) := hW5 ▸ setO_grown ec.w mp oo
     have hb5 : Blk W5 w1.heap.size 33 [.string x.name, c1, c2, c3] := (hg5.block _ HBC.out.lt (blk_ne_set HBC.out HE.out.set).symm).trans HBC.out
     obtain ⟨d0, d1, d2, d3⟩ := hb5.get4
     have GU := hide (uses_any B x W5 _ (HRW.out.ext HE5.out.ext hB) (Nat.le_trans hB HE5.out.ext.size) HITm)
     have HG5 := hide (gr_trans (gr_none (r := some mp) HXE.out) hg5)
     clear hs6 hm hN hsome hnm hmf hme HITm hg5 hb5 HE HBC HRW
     go_wp2_with fail
     go_at_call 16
     refine GU.out.mono ?_
     rintro _ w2 ⟨v, rfl, hown, hx2⟩
     obtain ⟨va, vc, rfl⟩ := row_slice_n hown
     have HE2 := hide (HE5.out.later hx2)
     have HG2 := hide (gr_trans HG5.out (gr_none hx2))
     have HOWN := hide hown
     clear hown hx2 GU HE5 HG5 hask
     go_wp2_with fail
     have HL0 := hide (loop_start f N name)
     go_loopw [28] (fun i wr => ∃ k : Nat, k ≤ (usesM x).length ∧ i = .int .i64 k ∧ ∃ Nk, LoopOk f N name ((usesM x).take k) Nk ∧ DInv w fb mb db mp vf Nk wr ∧ X.grownBy wr (some mp) ∧ wr.ownsRow W5.heap.size 9 1 (.slice va (usesM x).length vc) (usesM x).length ((usesM x).map .string)) (fun i _ => (usesM x).length - (intOf i).toNat)
     case atStart => exact ⟨0, Nat.zero_le _, rfl, _, HL0.out, HE2.out, HG2.out, HOWN.out⟩
     case round =>
       obtain ⟨k, hk, rfl, Nk, hlo, hdi, hgr, how⟩ := hrel
       have HLO := hide hlo
       have HDI := hide hdi
       have HGR := hide hgr
       have HOW := hide how
       clear hlo hdi hgr HL0 HE2 HG2 HOWN
       by_cases hlt : k < (usesM x).length
       · obtain ⟨a', cap', he, -, hr⟩ := SStr.of_row how
         obtain ⟨rfl, -, rfl⟩ := Value.slice.inj he
         obtain ⟨b, o, rfl, hcell⟩ := hr k hlt
         have hcf := enters_down.out
         have yd := HDI.out.dbk.get1
         have GD := hide (HIH.out Nk (Nat.lt_of_le_of_lt (unm_le f (fun s hs => hs.elim (HLO.out.old s) (fun e => e ▸ HLO.out.me))) HLT.out) (usesM x)[k] wr HDI.out)
         have STEP := hide (fun (N2 : ByteArray → Prop) (h : DownOk f Nk (usesM x)[k] N2) => show LoopOk f N name ((usesM x).take (k + 1)) N2 from by
           rw [List.take_succ_eq_append_getElem hlt]; exact HLO.out.step h HM.out.1 (List.getElem_mem hlt))
         clear how hr he
         generalize (usesM x)[k] = u at *
         go_wp2_with fail
         go_at_call 50
         refine GD.out.mono ?_
         rintro _ w3 ⟨rfl, hg3, N2, hd2, hi3⟩
         have R := hide (And.intro (STEP.out N2 hd2) (And.intro hi3 (And.intro (gr_trans HGR.out hg3) (HOW.out.kept hg3 (.inr (set_ne_row HDI.out.set HOW.out).symm)))))
         clear hg3 hd2 hi3 STEP GD
         go_wp2_with fail
         go_roundw
         case rel => exact ⟨k + 1, by omega, by go_num, N2, R.out⟩
         case measure => simp [intOf]; omega
       · have hkl : k = (usesM x).length := by omega
         subst hkl
         rw [List.take_length] at HLO
         have FIN := hide (And.intro HGR.out (And.intro (HLO.out.done HM.out.1) HDI.out))
         clear how
         go_wp2_with fail
         go_ret
         exact ⟨by rw [HSO.out]; rfl, FIN.out.1, Nk, FIN.out.2⟩
 · have hnone : findM f name = none := by
     cases h : findM f name with
     | none => rfl
     | some m => exact absurd ⟨m, h⟩ hfound
   have hsome : (findM f name).isSome = false := by rw [hnone]; rfl
   have HSO := hide hsome
   have hgs : (findM f name).isSome = false := hsome
   have FIN := hide (And.intro (gr_none (r := some mp) HXE.out) (And.intro (down_skip (f := f) (N := N) (.inl hnone)) HE.out))
   clear hfound hnone hsome hask
   go_wp2_with fail
   go_ret
   exact ⟨by rw [HSO.out]; rfl, FIN.out.1, N, FIN.out.2⟩
theorem down_any (w : World) (B fb mb db mp : Nat) (vf : Value) (f : List Mdl) (hS : Sl (RM w B) w B 4 f vf) (hB : B ≤ w.heap.size) (hsz : f.length ≤ 1000000000) (hit : ∀ m, m ∈ f → msize sizeI m.items ≤ 10000000) (hmp : w.heap.size ≤ mp) :
   ∀ (n : Nat) (N : ByteArray → Prop), unm f N < n → DownC w fb mb db mp vf f N := by
 intro n
 induction n with
 | zero => intro N hN; omega
 | succ n ih => intro N hN; exact down_step w B fb mb db mp vf f hS hB hsz hit hmp N fun N' hN' => ih N' (by omega)
end Go.Proofs.YtjoglnjpgkobeaaGreatDoor
namespace Go.Proofs.YtjoglnjpgkobeaaGreatDoor
open Go Go.RowKit Go.Shelf Go.Sort Go.Proofs
attribute [local go_sem] run_store_one
def lDel_ren : Go.Shelf.Ren := ⟨fun | 10 => 51 | 6 => 75 | n => n, fun | 22 => 38 | 23 => 9 | 25 => 65 | 3 => 3 | 4 => 4 | 0 => 0 | n => n, fun | n => n⟩
theorem lDel : Go.Proofs.SlLaysH.n10 Tryz.prog lDel_ren := {
 mixed := by kernel_rfl
 f6 := ⟨Tryz.f75.name, by decide, Tryz.func75.trans (congrArg some (by kernel_rfl))⟩
 f10 := ⟨Tryz.f51.name, by decide, Tryz.func51.trans (congrArg some (by kernel_rfl))⟩
 t0 := Tryz.underlying0
 a0 := Tryz.isAgg0
 z0 := Tryz.sizeOf0
 v0 := Tryz.zeroValue0
 t3 := Tryz.underlying3
 a3 := Tryz.isAgg3
 z3 := Tryz.sizeOf3
 v3 := Tryz.zeroValue3
 t4 := Tryz.underlying4
 a4 := Tryz.isAgg4
 z4 := Tryz.sizeOf4
 v4 := Tryz.zeroValue4
 t22 := Tryz.underlying38
 a22 := Tryz.isAgg38
 z22 := Tryz.sizeOf38
 v22 := Tryz.zeroValue38
 a23 := Tryz.isAgg9
 z23 := Tryz.sizeOf9
 t25 := Tryz.underlying65
 a25 := Tryz.isAgg65
 z25 := Tryz.sizeOf65
 v25 := Tryz.zeroValue65 }
theorem enters_not3 : Enters Tryz.prog 52 := ⟨fun _ _ => by kernel_rfl⟩
set_option maxRecDepth 20000 in
theorem not3_any (N : ByteArray → Prop) (s : ByteArray) (p : Addr) (mp : Nat) (w : World) (hp : w.cell? p = some (.map (some mp))) (hs : SetB w mp N) :
   FnGives Tryz.prog 52 #[.pointer (some p)] #[.string s] (.bool (yes (¬ N s))) w := by
 show Calls Tryz.prog 52 #[.string s, .pointer (some p)] w _
 have hask := hs.ask Tryz.underlying62 Tryz.underlying9 zeroBool s
 by_cases hN : N s
 · rw [yes_iff.2 hN] at hask
   rw [yes_no.2 (show ¬ ¬ N s from fun h => h hN)]
   clear hN hs
   go_enter Tryz.func52, Tryz.ntmps52
   go_wp2
   go_ret
   exact ⟨rfl, 0, rfl⟩
 · rw [yes_no.2 hN] at hask
   rw [yes_iff.2 hN]
   clear hN hs
   go_enter Tryz.func52, Tryz.ntmps52
   go_wp2
   go_ret
   exact ⟨rfl, 0, rfl⟩
theorem zeroStr : ∀ w : World, (zeroValue 9).run Tryz.prog w = .ok (.string ⟨#[]⟩) w := fun _ => by kernel_rfl
theorem grownBy_put {w : World} {g n off : Nat} {os : Array Obj} (d : Array ByteArray) : w.grownBy (grow (putRow Value.string (Sort.ahead w n) g off d) os) (some g) := by
 refine ⟨rfl, rfl, rfl, by simp, fun k hk hne => ?_⟩
 rw [heap_grow_old _ _ (by simpa using hk)]
 have : g ≠ k := fun e => hne (by rw [e])
 simp [putRow, mapBlock, Sort.ahead, Array.getElem?_modify, this]
theorem heap_put {w : World} {g n : Nat} {cur : Array Value} {e : TypeId} {fr : Nat × Nat} (d : Array ByteArray) (hb : w.heap[g]? = some (.cells cur e fr)) :
   (putRow Value.string (Sort.ahead w n) g 0 d).heap[g]? = some (.cells (putCells Value.string 0 d cur) e fr) := by
 simp [putRow, mapBlock, Sort.ahead, Array.getElem?_modify, hb, onCells]
theorem take_put (cur : Array Value) (ts zs : List ByteArray) (h : ts.length ≤ cur.size) : (putCells Value.string 0 (ts ++ zs).toArray cur).toList.take ts.length = ts.map .string := by
 apply List.ext_getElem?
 intro j
 by_cases hj : j < ts.length
 · rw [List.getElem?_take_of_lt hj, Array.getElem?_toList]
   have h1 : j < (ts ++ zs).length := by rw [List.length_append]; omega
   have h2 : (ts ++ zs).toArray[j]! = ts[j] := by
     rw [getElem!_pos _ j (by simpa using h1)]
     simp [List.getElem_append_left hj]
   simp [putCells, show j < cur.size by omega, show j < ts.length + zs.length by omega, hj]
 · rw [List.getElem?_take_eq_none (by omega), List.getElem?_eq_none (by simp; omega)]
theorem del_any (N : ByteArray → Prop) (p : Addr) (mp base : Nat) (l : List ByteArray) (v : Value) (w : World) (hp : w.cell? p = some (.map (some mp))) (hlt : p.block < w.heap.size) (hs : SetB w mp N) (hown : w.ownsRow base 9 1 v l.length (l.map .string))
   (hne : some p.block ≠ v.ownBlock) (hl : 0 < l.length) :
   Calls Tryz.prog 51 #[v, .func (.func 52) #[] #[.pointer (some p)]] w fun e w' => ∃ v', e = .returned v' ∧ w'.ownsRow base 9 1 v' (l.filter fun s => yes (N s)).length ((l.filter fun s => yes (N s)).map .string) ∧ w.grownBy w' v.ownBlock := by
 rcases hown.2 with ⟨rfl, h0⟩ | ⟨g, cap, cur, rfl, hge, hg, hn, hm, hcs, htake⟩
 · omega
 · have hfl : (l.filter fun x => !yes (¬ N x)) = l.filter fun s => yes (N s) := by
     congr 1
     funext x
     by_cases h : N x
     · rw [yes_iff.2 h, yes_no.2 (show ¬ ¬ N x from fun k => k h)]; rfl
     · rw [yes_no.2 h, yes_iff.2 h]; rfl
   have hpg : p.block ≠ g := fun e => hne (by rw [e]; rfl)
   have hHolds : Holds Value.string w g 0 l.toArray := by
     intro j hj
     have hj' : j < l.length := by simpa using hj
     refine ⟨?_, by simp [World.frozen?, hg]⟩
     rw [hown.cellAt (0 + j) (by omega), Nat.zero_add, List.getElem?_map, List.getElem?_eq_getElem hj', getElem!_pos _ j (by simpa using hj')]
     simp
   have hover : PredOver Tryz.prog 52 #[.pointer (some p)] Value.string (fun x => yes (¬ N x)) g 0 l.toArray.size w := fun n os dk x _ => by
     have hgr : w.grownBy (sortWorld Value.string w g 0 n dk os) (some g) := grownBy_put dk
     exact not3_any N x p mp _ ((hgr.cell hp (fun e => hpg (by injection e))) ) (hs.kept hgr (fun e => by
       have e1 : g = mp := by injection e
       subst e1
       obtain ⟨es, clock, hb, -⟩ := hs
       rw [hg] at hb; cases hb))
   have hcon := AnyE.slices_DeleteFunc lDel Value.string (fun _ => rfl) (fun x => yes (¬ N x)) 52 #[.pointer (some p)] enters_not3.out ⟨#[]⟩ zeroStr g 0 cap l.toArray w
     (fun W x hb => not3_any N x p mp W ((hb.cell hlt).trans hp) (hs.kept (Ext.gr hb) (by simp))) hover hHolds (by simp [maxLen] at *; omega) (by simpa using hn)
   change Calls Tryz.prog 51 _ _ _ at hcon
   rw [List.size_toArray] at hcon
   refine hcon.mono ?_
   rintro e w' ⟨rfl, q, rfl⟩
   rw [hfl]
   have hle := List.length_filter_le (fun s => yes (N s)) l
   refine ⟨_, rfl, ⟨by simp, .inr ⟨g, cap, _, rfl, hge, heap_put _ hg, by omega, hm, by simp [putCells, hcs], ?_⟩⟩, ?_⟩
   · rw [Nat.mul_one]
     exact take_put cur _ _ (by omega)
   · have := grownBy_put (w := w) (g := g) (n := q) (off := 0) (os := #[]) ((l.filter fun s => yes (N s)) ++ List.replicate (l.length - (l.filter fun s => yes (N s)).length) (⟨#[]⟩ : ByteArray)).toArray
     rw [grow_empty] at this
     exact this
theorem check_facts {f : List Mdl} (h : checkN f = 0) : checkF f = 0 ∧ (namesF f).Nodup ∧ (∀ m, m ∈ f → rightM m) ∧ (∀ m, m ∈ f → ∀ s, s ∈ usesM m → s ∈ namesF f) ∧ (orderF f).length = f.length := by
 have h0 : checkF f = 0 := by
   unfold checkN at h
   by_cases hc : checkF f = 0
   · exact hc
   · rw [if_neg hc] at h; exact h
 unfold checkN at h
 rw [if_pos h0] at h
 by_cases h1 : (namesF f).Nodup ∧ ∀ m, m ∈ f → rightM m
 · by_cases h2 : ∀ m, m ∈ f → ∀ s, s ∈ usesM m → s ∈ namesF f
   · rw [ok_end h1 h2] at h
     refine ⟨h0, h1.1, h1.2, h2, ?_⟩
     have := (orderF_end f).1.le
     by_cases h3 : (orderF f).length < f.length
     · rw [if_pos h3] at h; omega
     · omega
   · rw [ok_71 h1 h2] at h; omega
 · rw [ok_70 h1] at h; omega
set_option maxRecDepth 20000 in
set_option maxHeartbeats 2000000 in
theorem below_any (B : Nat) (f : List Mdl) (top : ByteArray) (w : World) (vf : Value) (hT : Tabs w) (hS : Sl (RM w B) w B 4 f vf) (hB : B ≤ w.heap.size) (hsz : msize sizeM f ≤ 10000000) (hvx : ∀ m, m ∈ f → VM m) :
   Calls Tryz.prog 20 #[.agg #[vf], .string top] w fun e w' => ∃ v c, e = .returned (.tuple #[v, .int .i64 c]) ∧ Ext w w' ∧ c = (if checkN f = 0 then if (findM f top).isSome then 0 else 71 else checkN f) ∧
     (c = 0 → w'.ownsRow w.heap.size 9 1 v (belowN f top).length ((belowN f top).map .string)) ∧ (c ≠ 0 → v = .slice none 0 0) := by
 have HS := hide hS
 have hln := length_le_msize sizeM f sizeM_pos
 have HIT := hide (fun m (hm : m ∈ f) => Nat.le_trans (items_le hm) hsz)
 obtain ⟨a, cap, rfl, hcap, hrow⟩ := hS
 obtain ⟨W1, hW1, hx1, hb1⟩ := box1 w (.slice a f.length cap) 24
 have hV1 := hW1.symm
 have HX := hide hx1
 have HB1 := hide hb1
 have y0 := hb1.get1
 have GC := hide (orderN_any B f W1 _ (hT.ext HX.out) (HS.out.extRM HX.out hB) (Nat.le_trans hB HX.out.size) hsz hvx)
 clear hcap hrow hx1 hb1 hT hvx hW1
 obtain ⟨c, hc⟩ : ∃ c, c = checkN f := ⟨_, rfl⟩
 rw [← hc] at GC ⊢
 have HC := hide hc
 clear hc
 go_enter Tryz.func20, Tryz.ntmps20
 go_wp2_with fail
 go_at_call 18
 refine GC.out.mono ?_
 rintro _ w1 ⟨v, rfl, hx, ho, hv0⟩
 have HX1 := hide (HX.out.trans hx)
 have HB := hide (HB1.out.ext hx)
 have HO := hide ho
 have HV0 := hide hv0
 clear hx ho hv0 GC y0 HB1
 by_cases h0 : c = 0
 · have hne : (c != 0) = false := by simpa using h0
   have H0 := hide h0
   have hown := HO.out h0
   clear h0
   obtain ⟨W2, hW2⟩ : ∃ W2, W2 = w1.alloc (.map #[] 0) := ⟨_, rfl⟩
   have hx2 : Ext w1 W2 := by rw [hW2]; exact Ext.new _ _
   have hs2 : SetB W2 w1.heap.size (fun _ => False) := by rw [hW2]; exact SetB.new w1
   obtain ⟨W3, hW3, hx3, hb3⟩ := box1 W2 (.map none) 62
   have m1 := hb3.get1
   have n1 := hb3.free1
   obtain ⟨W4, hW4⟩ : ∃ W4, W4 = W3.setCell ⟨W2.heap.size, 0, none⟩ (.map (some w1.heap.size)) := ⟨_, rfl⟩
   have hb4 : Blk W4 W2.heap.size 62 [.map (some w1.heap.size)] := by rw [hW4]; exact hb3.store1 _
   have hx4 : Ext W2 W4 := by rw [hW4]; exact hx3.setCell (Nat.le_refl _) _
   obtain ⟨W5, hW5, hx5, hb5⟩ := box1 W4 .nilFunc 65
   have m5 := hb5.get1
   have n5 := hb5.free1
   obtain ⟨W6, hW6⟩ : ∃ W6, W6 = W5.setCell ⟨W4.heap.size, 0, none⟩ (.func (.func 50) #[] #[.pointer (some ⟨w.heap.size, 0, none⟩), .pointer (some ⟨W2.heap.size, 0, none⟩), .pointer (some ⟨W4.heap.size, 0, none⟩)]) := ⟨_, rfl⟩
   have hb6 : Blk W6 W4.heap.size 65 [.func (.func 50) #[] #[.pointer (some ⟨w.heap.size, 0, none⟩), .pointer (some ⟨W2.heap.size, 0, none⟩), .pointer (some ⟨W4.heap.size, 0, none⟩)]] := by rw [hW6]; exact hb5.store1 _
   have hx6 : Ext W4 W6 := by rw [hW6]; exact hx5.setCell (Nat.le_refl _) _
   have hmp : w.heap.size ≤ w1.heap.size := HX1.out.size
   have HD := hide (show DInv w w.heap.size W2.heap.size W4.heap.size w1.heap.size (.slice a f.length cap) (fun _ => False) W6 from
     ⟨HB.out.ext (hx2.trans (hx4.trans hx6)), hb4.ext hx6, hb6, hs2.kept (hx4.trans hx6).gr (by simp), HX1.out.trans (hx2.trans (hx4.trans hx6))⟩)
   have HOW := hide (ownsRow_ext (row_lower hown HX.out.size) (hx2.trans (hx4.trans hx6)))
   have GD := hide (down_any w B w.heap.size W2.heap.size W4.heap.size w1.heap.size (.slice a f.length cap) f HS.out hB (by omega) HIT.out hmp (unm f (fun _ => False) + 1) (fun _ => False) (by omega) top W6 HD.out)
   have y6 := hb6.get1
   have hV2 := hW2.symm
   have hV3 := hW3.symm
   have hV4 := hW4.symm
   have hV5 := hW5.symm
   have hV6 := hW6.symm
   have hmm := @run_makeMap Tryz.prog
   have hmf : ∀ (fn : Fn) (first cap : Array Value) (w : World), (Instr.makeFunc fn first cap).run Tryz.prog w = .ok (.func fn first cap) w := fun _ _ _ _ => rfl
   have hcf := enters_down.out
   have of1 : (Value.func (.func 50) #[] #[.pointer (some ⟨w.heap.size, 0, none⟩), .pointer (some ⟨W2.heap.size, 0, none⟩), .pointer (some ⟨W4.heap.size, 0, none⟩)]).oneCell' = true := rfl
   obtain ⟨va, vc, rfl⟩ := row_slice_n hown
   clear hx2 hs2 hx3 hb3 hb4 hx4 hx5 hb5 hb6 hx6 hW2 hW3 hW4 hW5 hW6 hown HO HV0 HB
   go_wp2_with fail
   go_at_call 50
   refine GD.out.mono ?_
   rintro _ w2 ⟨rfl, hg, N', hd, hi⟩
   have HI2 := hide hi
   have HDN := hide hd
   have HOW2 := hide (HOW.out.kept hg (.inr (set_ne_row HD.out.set HOW.out).symm))
   clear hi hd hg GD
   by_cases hsome : (findM f top).isSome = true
   · have HSO := hide hsome
     have hgs := hsome
     have hreach := down_reach HDN.out hsome
     have hbn : ((orderF f).filter fun s => yes (N' s)) = belowN f top := by
       unfold belowN
       congr 1
       funext s
       by_cases h : N' s
       · rw [yes_iff.2 h, yes_iff.2 ((hreach s).1 h)]
       · rw [yes_no.2 h, yes_no.2 (fun k => h ((hreach s).2 k))]
     have GL := hide (del_any N' ⟨W2.heap.size, 0, none⟩ w1.heap.size w.heap.size (orderF f) _ w2 HI2.out.mbk.get1 HI2.out.mbk.lt HI2.out.set HOW2.out (blk_ne_row (by decide) HI2.out.mbk HOW2.out) (by
       have h1 := (check_facts (HC.out.symm.trans H0.out)).2.2.2.2
       have h2 := find_isSome.1 hsome
       unfold namesF at h2
       have h3 : 0 < f.length := by
         cases f with
         | nil => cases h2
         | cons _ _ => simp
       omega))
     rw [hbn] at GL
     clear hreach hbn hsome
     go_wp2_with fail
     go_at_call 51
     refine GL.out.mono ?_
     rintro _ w3 ⟨v', rfl, hown, hg⟩
     have FIN := hide (And.intro hown (HI2.out.ext.grown hg fun r e => (HOW2.out.lt r e).1))
     clear hown hg GL
     go_wp2_with fail
     go_ret2
     exact ⟨_, _, rfl, FIN.out.2, by first | rfl | rw [if_pos H0.out, if_pos HSO.out], fun _ => FIN.out.1, fun h => absurd rfl h⟩
   · have hgs : (findM f top).isSome = false := by simpa using hsome
     have HSO := hide hgs
     clear hsome
     go_wp2_with fail
     go_ret2
     exact ⟨_, _, rfl, HI2.out.ext, by first | rfl | rw [if_pos H0.out, if_neg (by rw [HSO.out]; decide)], fun h => absurd h (by decide), fun _ => rfl⟩
 · have hne : (c != 0) = true := by simpa using h0
   have H0 := hide h0
   clear h0
   go_wp2_with fail
   go_ret2
   refine ⟨_, _, rfl, HX1.out, ?_, fun h => absurd h H0.out, fun _ => rfl⟩
   first | rfl | rw [if_neg H0.out]
end Go.Proofs.YtjoglnjpgkobeaaGreatDoor
namespace Go.Proofs.YtjoglnjpgkobeaaGreatDoor
open Go Go.RowKit
theorem name_once {f : List Mdl} : (namesF f).Nodup → ∀ m, m ∈ f → ∀ m', m' ∈ f → m.name = m'.name → m = m' := by
 induction f with
 | nil => intro _ m hm; cases hm
 | cons a r ih =>
   intro h m hm m' hm' e
   obtain ⟨h1, h2⟩ := List.nodup_cons.1 (show (a.name :: namesF r).Nodup from h)
   rcases List.mem_cons.1 hm with rfl | hm
   · rcases List.mem_cons.1 hm' with rfl | hm'
     · rfl
     · exact absurd (show m.name ∈ namesF r from List.mem_map.2 ⟨m', hm', e.symm⟩) h1
   · rcases List.mem_cons.1 hm' with rfl | hm'
     · exact absurd (show m'.name ∈ namesF r from List.mem_map.2 ⟨m, by assumption, e⟩) h1
     · exact ih h2 m hm m' hm' e
theorem find_mem {f : List Mdl} (h : (namesF f).Nodup) {m : Mdl} (hm : m ∈ f) : findM f m.name = some m := by
 have hs : (findM f m.name).isSome = true := find_isSome.2 (List.mem_map.2 ⟨m, hm, rfl⟩)
 obtain ⟨m', h'⟩ := Option.isSome_iff_exists.1 hs
 obtain ⟨h1, h2⟩ := find_spec2 h'
 rw [h', name_once h m' h1 m hm h2]
theorem order_law {f : List Mdl} (h : checkN f = 0) (i : Nat) (hi : i < (orderF f).length) :
   ∃ m, findM f (orderF f)[i] = some m ∧ m ∈ f ∧ ¬ (orderF f)[i] ∈ (orderF f).take i ∧ ∀ s, s ∈ usesM m → s ∈ (orderF f).take i := by
 obtain ⟨-, hn, -, -, -⟩ := check_facts h
 obtain ⟨m, h1, h2, h3⟩ := (orderF_end f).1.pre i hi
 exact ⟨m, by rw [← h2]; exact find_mem hn h1, h1, ((nodup_take hi).1 (nodup_part (k := i + 1) (orderF_end f).1.nodup)).2, h3⟩
theorem all_in {o l : List ByteArray} (ho : o.Nodup) (hs : ∀ s, s ∈ o → s ∈ l) (hl : l.length ≤ o.length) : ∀ s, s ∈ l → s ∈ o := by
 intro s h
 by_cases hso : s ∈ o
 · exact hso
 · have := nodup_le (o := s :: o) (l := l) (List.nodup_cons.2 ⟨hso, ho⟩) (fun t ht => by
     rcases List.mem_cons.1 ht with rfl | ht
     · exact h
     · exact hs t ht)
   rw [List.length_cons] at this
   omega
theorem order_all {f : List Mdl} (h : checkN f = 0) (s : ByteArray) : s ∈ orderF f ↔ s ∈ namesF f := by
 obtain ⟨-, -, -, -, hl⟩ := check_facts h
 exact ⟨(orderF_end f).1.sub s, all_in (orderF_end f).1.nodup (orderF_end f).1.sub (by simp [namesF, hl]) s⟩
theorem reach_uses {f : List Mdl} (h : checkN f = 0) {top b : ByteArray} {m : Mdl} (hr : Reach f top b) (hm : findM f b = some m) {s : ByteArray} (hs : s ∈ usesM m) : Reach f top s := by
 obtain ⟨-, -, -, hu, -⟩ := check_facts h
 exact .step hr hm hs (find_isSome.2 (hu m (find_spec2 hm).1 s hs))
theorem below_sub (f : List Mdl) (top : ByteArray) : List.Sublist (belowN f top) (orderF f) := List.filter_sublist
end Go.Proofs.YtjoglnjpgkobeaaGreatDoor
namespace Go.Proofs.YtjoglnjpgkobeaaGreatDoor
open Go Go.RowKit
attribute [local go_sem] run_store_one
def fewP (n d : Nat) : Prop := n ≤ 2000 ∧ d ≤ 100
set_option maxRecDepth 20000 in
set_option maxHeartbeats 1000000 in
theorem few7_any (B : Nat) (l : List Mdl) (w : World) (v : Value) (hS : Sl (RM w B) w B 4 l v) (hB : B ≤ w.heap.size) (hsz : msize sizeM l ≤ 1000000000) :
   Calls Tryz.prog 9 #[.agg #[v]] w fun e w' => e = .returned (.bool (yes (fewP (msize sizeM l) (mdeep deepM l)))) ∧ Ext w w' := by
 have HS := hide hS
 have hov := hS.oneCell
 have hdl := deepML_le l
 obtain ⟨W1, e1, hV1, hx1, hs1, c0⟩ := boxL1 w v 24
 have hB1 : B ≤ W1.heap.size := Nat.le_trans hB hx1.size
 have G1 := hide (show ECalls Tryz.prog 30 #[.agg #[v]] W1 (.int .i64 (msize sizeM l)) from
   fun w' hw => refSize_any B l w' v (HS.out.extRM (hx1.trans hw) hB) (Nat.le_trans hB1 hw.size) hsz)
 have G2 := hide (show ECalls Tryz.prog 31 #[.agg #[v]] W1 (.int .i64 (mdeep deepM l)) from
   fun w' hw => refDeep_any B l w' v (HS.out.extRM (hx1.trans hw) hB) (Nat.le_trans hB1 hw.size) hsz)
 obtain ⟨res, hres⟩ : ∃ res, res = yes (fewP (msize sizeM l) (mdeep deepM l)) := ⟨_, rfl⟩
 rw [← hres]
 have R := hide hres
 clear hS hres HS
 generalize msize sizeM l = s1 at *
 generalize mdeep deepM l = s2 at *
 go_enter Tryz.func9, Tryz.ntmps9
 go_wp2_with (first
   | (go_at_call 30; refine (G1.out.at_ _).mono ?_; rintro _ _ ⟨rfl, e, rfl⟩)
   | (go_at_call 31; refine (G2.out.at_ _).mono ?_; rintro _ _ ⟨rfl, e, rfl⟩))
 all_goals
   go_ret
   refine ⟨?_, hx1.trans (Later.ext _)⟩
   rw [R.out]
   refine congrArg (fun b => Ending.returned (Value.bool b)) ?_
   rw [Bool.eq_iff_iff, yes_iff]
   unfold fewP
   clear R G1 G2 hV1 c0
   simp at *
   try omega
theorem module7_any (nm : ByteArray) (a : Option Addr) (n c : Nat) (w : World) :
   Calls Tryz.prog 29 #[.string nm, .slice a n c] w fun e w' => e = .returned (.agg #[.string nm, .slice none 0 0, .slice none 0 0, .slice a n c]) ∧ Ext w w' := by
 obtain ⟨Wb, Wc, hVb, ⟨p0, p1, p2, p3⟩, ⟨q0, q1, q2, q3⟩, hVc, hbc, hxc, -⟩ := varM w (.string nm) (.slice none 0 0) (.slice none 0 0) (.slice a n c)
 obtain ⟨r0, r1, r2, r3⟩ := hbc.get4
 go_enter Tryz.func29, Tryz.ntmps29
 go_wp2
 refine bodyPost_ret (v := .agg #[.string nm, .slice none 0 0, .slice none 0 0, .slice a n c]) ?_ rfl ⟨rfl, hxc⟩
 simp [results, Tryz.results29, go_sem, r0, r1, r2, r3]
theorem inst7_any (nm of : ByteArray) (w : World) :
   Calls Tryz.prog 28 #[.string nm, .string of] w fun e w' => e = .returned (.agg #[.int .i64 7, .string nm, .string of, .slice none 0 0, .slice none 0 0, .slice none 0 0, .slice none 0 0, .slice none 0 0, .slice none 0 0]) ∧ Ext w w' := by
 obtain ⟨Wb, Wc, hVb, ⟨p0, p1, p2, p3, p4, p5, p6, p7, p8⟩, ⟨q0, q1, q2, q3, q4, q5, q6, q7, q8⟩, hVc, hbc, hxc, -⟩ := varI w (.int .i64 7) (.string nm) (.string of) (.slice none 0 0) (.slice none 0 0) (.slice none 0 0) (.slice none 0 0) (.slice none 0 0) (.slice none 0 0)
 obtain ⟨r0, r1, r2, r3, r4, r5, r6, r7, r8⟩ := hbc.get9
 go_enter Tryz.func28, Tryz.ntmps28
 go_wp2
 refine bodyPost_ret (v := .agg #[.int .i64 7, .string nm, .string of, .slice none 0 0, .slice none 0 0, .slice none 0 0, .slice none 0 0, .slice none 0 0, .slice none 0 0]) ?_ rfl ⟨rfl, hxc⟩
 simp [results, Tryz.results28, go_sem, r0, r1, r2, r3, r4, r5, r6, r7, r8]
theorem one7_any (w : World) :
   Calls Tryz.prog 25 #[] w fun e w' => e = .returned (.agg #[.int .i64 1, .string ⟨#[]⟩, .int .i64 0, .int .i64 0, .int .u64 1, .slice none 0 0]) ∧ Ext w w' := by
 obtain ⟨Wb, Wc, hVb, ⟨p0, p1, p2, p3, p4, p5⟩, ⟨q0, q1, q2, q3, q4, q5⟩, hVc, hbc, hxc, -⟩ := varX w (.int .i64 1) (.string ⟨#[]⟩) (.int .i64 0) (.int .i64 0) (.int .u64 1) (.slice none 0 0)
 obtain ⟨r0, r1, r2, r3, r4, r5⟩ := hbc.get6
 go_enter Tryz.func25, Tryz.ntmps25
 go_wp2
 refine bodyPost_ret (v := .agg #[.int .i64 1, .string ⟨#[]⟩, .int .i64 0, .int .i64 0, .int .u64 1, .slice none 0 0]) ?_ rfl ⟨rfl, hxc⟩
 simp [results, Tryz.results25, go_sem, r0, r1, r2, r3, r4, r5]
end Go.Proofs.YtjoglnjpgkobeaaGreatDoor
namespace Go.Proofs.YtjoglnjpgkobeaaGreatDoor
open Go Go.RowKit
def tU : ByteArray := ⟨#[117]⟩
def tW : ByteArray := ⟨#[119]⟩
def tC : ByteArray := ⟨#[99]⟩
def xOne : X := .mk 1 tE 0 0 1 []
def iU (of : ByteArray) : Itm := .mk 7 tU of [] [] [] [] [] []
def iW (nm : ByteArray) : Itm := .mk 2 nm tE [xOne] [] [] [] [] []
def mA (of : ByteArray) : Mdl := ⟨tA, [], [], [iU of]⟩
def mB : Mdl := ⟨tB, [], [], []⟩
def fF : List Mdl := [mA tB, mB]
def fG : List Mdl := [⟨tA, [], [], [iW tW, iW tW]⟩]
def fH : List Mdl := [mA tA]
theorem nameP_U : nameP tU := ⟨by decide, by decide, by decide, by decide⟩
theorem nameP_W : nameP tW := ⟨by decide, by decide, by decide, by decide⟩
theorem may_xOne : MayX xOne := .mk _ ⟨.inl ⟨.inl rfl, rfl⟩, .inr (.inr (.inr ⟨by decide, rfl⟩)), .inr ⟨rfl, by decide, by decide, .inl rfl⟩, .inr ⟨by unfold isNamed; decide, rfl⟩⟩ (fun y hy => by cases hy)
theorem may_iU {of : ByteArray} (h : nameP of) : MayI (iU of) := .mk _ ⟨by show (1 : Int) ≤ 7; decide, by show (7 : Int) ≤ 10; decide, .inl ⟨(show (7 : Int) ≠ 4 ∧ (7 : Int) ≠ 5 ∧ (7 : Int) ≠ 6 ∧ (7 : Int) ≠ 8 by decide), nameP_U⟩, .inl ⟨.inl rfl, h⟩, rfl, (fun h => absurd h (show ¬ (7 : Int) = 4 by decide)), .inr (.inr rfl), .inr (.inr rfl), .inr rfl, .inl rfl⟩
 (fun y hy => by cases hy) (fun y hy => by cases hy) (fun y hy => by cases hy) (fun y hy => by cases hy) (fun y hy => by cases hy) (fun y hy => by cases hy)
theorem may_iW {nm : ByteArray} (h : nameP nm) : MayI (iW nm) := .mk _ ⟨by show (1 : Int) ≤ 2; decide, by show (2 : Int) ≤ 10; decide, .inl ⟨(show (2 : Int) ≠ 4 ∧ (2 : Int) ≠ 5 ∧ (2 : Int) ≠ 6 ∧ (2 : Int) ≠ 8 by decide), h⟩, .inr ⟨(show ¬ ((2 : Int) = 7 ∨ (2 : Int) = 9) by decide), rfl⟩, rfl, (fun h => absurd h (show ¬ (2 : Int) = 4 by decide)), .inr (.inr rfl), .inr (.inr rfl), .inr rfl, .inr ⟨rfl, rfl⟩⟩
 (all_one may_xOne) (fun y hy => by cases hy) (fun y hy => by cases hy) (fun y hy => by cases hy) (fun y hy => by cases hy) (fun y hy => by cases hy)
theorem may_mA {of : ByteArray} (h : nameP of) : MayM (mA of) := ⟨nameP_A, (fun y hy => by cases hy), (fun y hy => by cases hy), all_one (may_iU h)⟩
theorem may_mB : MayM mB := ⟨nameP_B, (fun y hy => by cases hy), (fun y hy => by cases hy), (fun y hy => by cases hy)⟩
theorem checkF_F : checkF fF = 0 := by
 unfold checkF
 rw [if_neg (by decide), yes_iff.2 (show ∀ m, m ∈ fF → MayM m from all_two (may_mA nameP_B) may_mB)]
 decide
theorem checkF_G : checkF fG = 0 := by
 unfold checkF
 rw [if_neg (by decide), yes_iff.2 (show ∀ m, m ∈ fG → MayM m from all_one (show MayM ⟨tA, [], [], [iW tW, iW tW]⟩ from ⟨nameP_A, (fun y hy => by cases hy), (fun y hy => by cases hy), all_two (may_iW nameP_W) (may_iW nameP_W)⟩))]
 decide
theorem checkF_H : checkF fH = 0 := by
 unfold checkF
 rw [if_neg (by decide), yes_iff.2 (show ∀ m, m ∈ fH → MayM m from all_one (may_mA nameP_A))]
 decide
theorem ab_ne : ¬ tA = tB := fun h => absurd (congrArg ByteArray.data h) (by decide)
theorem cA_ne : ¬ tA = tC := fun h => absurd (congrArg ByteArray.data h) (by decide)
theorem cB_ne : ¬ tB = tC := fun h => absurd (congrArg ByteArray.data h) (by decide)
theorem uses_mA (of : ByteArray) : usesM (mA of) = [of] := by
 have h : ofIs (mA of).items = [of] := by show ofIs [iU of] = [of]; simp [ofIs, ofI, iU]
 unfold usesM
 rw [h]
 exact addOne_out (by simp)
theorem uses_mB : usesM mB = [] := by
 have h : ofIs mB.items = [] := rfl
 unfold usesM
 rw [h]; rfl
theorem tn_iU (of : ByteArray) : tnIs [iU of] = [tU] := by simp [tnIs, tnI, iU, isDecl]
theorem right_mA (of : ByteArray) : rightM (mA of) := by
 refine ⟨?_, ?_, ?_⟩
 · show tokIs [iU of]
   simp [tokIs, tokI, iU]
 · show (tnIs [iU of] ++ []).Nodup
   rw [tn_iU]; simp
 · show inIs _ [iU of]
   simp [inIs, inI, iU, lpSs]
theorem right_mB : rightM mB := by
 refine ⟨?_, ?_, ?_⟩
 · show tokIs []
   simp [tokIs]
 · show (tnIs [] ++ []).Nodup
   simp [tnIs]
 · show inIs _ []
   simp [inIs]
theorem next_F0 : nextM fF [] = some mB := by
 refine next_at (f := fF) (i := 1) (by decide) (show readyM [] mB from ⟨by simp, fun s hs => by rw [uses_mB] at hs; cases hs⟩) (fun j h' hj => ?_)
 obtain rfl : j = 0 := by omega
 show ¬ readyM [] (mA tB)
 intro h
 have := h.2 tB (by rw [uses_mA]; simp)
 cases this
theorem next_F1 : nextM fF [tB] = some (mA tB) := by
 refine next_at (f := fF) (i := 0) (by decide) (show readyM [tB] (mA tB) from ⟨fun h => ab_ne (List.mem_singleton.1 h), fun s hs => by rw [uses_mA] at hs; exact hs⟩) (fun j h' hj => by omega)
theorem order_F : orderF fF = [tB, tA] := by
 unfold orderF
 show orderN fF 2 [] = _
 unfold orderN
 rw [next_F0]
 show orderN fF 1 [tB] = _
 unfold orderN
 rw [next_F1]
 rfl
theorem names_F : namesOk fF = 0 := by
 have h := ok_end (f := fF) ⟨by show [tA, tB].Nodup; simp [ab_ne], all_two (right_mA tB) right_mB⟩ (fun m hm s hs => by
   rcases List.mem_cons.1 hm with rfl | hm
   · rw [uses_mA] at hs; rw [List.mem_singleton.1 hs]; show tB ∈ [tA, tB]; simp
   · rw [List.mem_singleton.1 hm, uses_mB] at hs; cases hs)
 rw [h, order_F]
 rfl
theorem checkN_F : checkN fF = 0 := by unfold checkN; rw [if_pos checkF_F]; exact names_F
theorem checkN_G : checkN fG = 70 := by
 unfold checkN
 rw [if_pos checkF_G]
 refine ok_70 fun h => ?_
 have h1 := (h.2 _ (List.mem_singleton.2 rfl)).2.1
 have h2 : ownN ⟨tA, [], [], [iW tW, iW tW]⟩ = [tW, tW] := by show tnIs [iW tW, iW tW] ++ [] = _; simp [tnIs, tnI, iW, isDecl]
 rw [h2] at h1
 simp at h1
theorem next_H : nextM fH [] = none := by
 refine next_no fun x hx h => ?_
 rw [List.mem_singleton.1 hx] at h
 have := h.2 tA (by rw [uses_mA]; simp)
 cases this
theorem checkN_H : checkN fH = 72 := by
 unfold checkN
 rw [if_pos checkF_H]
 have h := ok_end (f := fH) ⟨by show [tA].Nodup; simp, all_one (right_mA tA)⟩ (fun m hm s hs => by
   rw [List.mem_singleton.1 hm, uses_mA] at hs; rw [List.mem_singleton.1 hs]; show tA ∈ [tA]; simp)
 have ho : orderF fH = [] := order_fuel _ next_H
 rw [h, ho]
 rfl
theorem find_FB : findM fF tB = some mB := findM_at (f := fF) (i := 1) (by decide) rfl (fun j h' hj => by
 obtain rfl : j = 0 := by omega
 exact ab_ne)
theorem find_FC : findM fF tC = none := findM_no (by
 intro x hx
 rcases List.mem_cons.1 hx with rfl | hx
 · exact cA_ne
 · rw [List.mem_singleton.1 hx]; exact cB_ne)
theorem reach_F {s : ByteArray} (h : Reach fF tB s) : s = tB := by
 induction h with
 | refl => rfl
 | step _ hm hc hs ih =>
   rw [ih, find_FB] at hm
   cases hm
   rw [uses_mB] at hc
   cases hc
theorem below_F : belowN fF tB = [tB] := by
 unfold belowN
 rw [order_F, List.filter_cons_of_pos (by exact yes_iff.2 .refl), List.filter_cons_of_neg (by rw [yes_no.2 (fun h => ab_ne (reach_F h))]; decide)]
 rfl
theorem vi_iU {of : ByteArray} (h : of.size < 4294967281) : VI (iU of) := .mk _ (show tU.size < 4294967281 by decide) h (fun y hy => by cases hy) (fun y hy => by cases hy) (fun y hy => by cases hy) (fun y hy => by cases hy) (fun y hy => by cases hy) (fun y hy => by cases hy)
theorem vx_xOne : VX xOne := .mk _ (show (0 : Int) ≤ 1 by decide) (show (1 : Int) < 18446744073709551616 by decide) (show tE.size < 4294967281 by decide) (fun y hy => by cases hy)
theorem vi_iW {nm : ByteArray} (h : nm.size < 4294967281) : VI (iW nm) := .mk _ h (show tE.size < 4294967281 by decide) (all_one vx_xOne) (fun y hy => by cases hy) (fun y hy => by cases hy) (fun y hy => by cases hy) (fun y hy => by cases hy) (fun y hy => by cases hy)
theorem vm_F : ∀ m, m ∈ fF → VM m := all_two ⟨by decide, (fun y hy => by cases hy), (fun y hy => by cases hy), all_one (vi_iU (by decide))⟩ ⟨by decide, (fun y hy => by cases hy), (fun y hy => by cases hy), (fun y hy => by cases hy)⟩
theorem vm_G : ∀ m, m ∈ fG → VM m := all_one ⟨by decide, (fun y hy => by cases hy), (fun y hy => by cases hy), all_two (vi_iW (by decide)) (vi_iW (by decide))⟩
theorem vm_H : ∀ m, m ∈ fH → VM m := all_one ⟨by decide, (fun y hy => by cases hy), (fun y hy => by cases hy), all_one (vi_iU (by decide))⟩
end Go.Proofs.YtjoglnjpgkobeaaGreatDoor
namespace Go.Proofs.YtjoglnjpgkobeaaGreatDoor
open Go Go.RowKit
attribute [local go_sem] run_store_one
theorem Sl.pair {α : Type} {R : α → List Value → Prop} {w : World} {B sz g : Nat} {x y : α} {cs ds : List Value} (hb : g < B) (hl : cs.length = sz) (hl2 : ds.length = sz) (hc : Cells w g 0 (cs ++ ds)) (ho : ∀ v, v ∈ cs ++ ds → v.oneCell' = true) (hr : R x cs) (hr2 : R y ds) :
   Sl R w B sz [x, y] (.slice (some ⟨g, 0, none⟩) 2 2) := by
 refine ⟨_, 2, rfl, Nat.le_refl _, fun k hk => ?_⟩
 match k, hk with
 | 0, _ => exact ⟨g, 0, cs, rfl, hb, hl, fun j v hj => by
     have := hc j v (by rw [List.getElem?_append_left (List.getElem?_eq_some_iff.1 hj).1]; exact hj)
     simpa using this, fun v hv => ho v (List.mem_append_left _ hv), hr⟩
 | 1, _ => exact ⟨g, 0, ds, rfl, hb, hl2, fun j v hj => by
     have := hc (cs.length + j) v (by rw [List.getElem?_append_right (by omega), Nat.add_sub_cancel_left]; exact hj)
     rw [hl] at this
     simpa using this, fun v hv => ho v (List.mem_append_right _ hv), hr2⟩
def cU (of : ByteArray) : List Value := [.int .i64 7, .string tU, .string of, .slice none 0 0, .slice none 0 0, .slice none 0 0, .slice none 0 0, .slice none 0 0, .slice none 0 0]
def cX : List Value := [.int .i64 1, .string tE, .int .i64 0, .int .i64 0, .int .u64 1, .slice none 0 0]
def cW (nm : ByteArray) (g : Nat) : List Value := [.int .i64 2, .string nm, .string tE, .slice (some ⟨g, 0, none⟩) 1 1, .slice none 0 0, .slice none 0 0, .slice none 0 0, .slice none 0 0, .slice none 0 0]
def cM (nm : ByteArray) (v : Value) : List Value := [.string nm, .slice none 0 0, .slice none 0 0, v]
section
variable {w : World} {B : Nat}
theorem ri_iU (of : ByteArray) : RI w B (iU of) (cU of) := RI_iff.2 ⟨_, _, _, _, _, _, rfl, Sl.nil, Sl.nil, Sl.nil, Sl.nil, Sl.nil, Sl.nil⟩
theorem rx_xOne : RX w B xOne cX := RX_iff.2 ⟨_, rfl, Sl.nil⟩
theorem ri_iW {g : Nat} (nm : ByteArray) (hb : g < B) (hc : Cells w g 0 cX) : RI w B (iW nm) (cW nm g) := RI_iff.2 ⟨_, _, _, _, _, _, rfl, Sl.one hb rfl hc (by simp [cX, Value.oneCell']) rx_xOne, Sl.nil, Sl.nil, Sl.nil, Sl.nil, Sl.nil⟩
theorem rm_mA {g : Nat} (of : ByteArray) (hb : g < B) (hc : Cells w g 0 (cU of)) : RM w B (mA of) (cM tA (.slice (some ⟨g, 0, none⟩) 1 1)) := ⟨_, _, _, rfl, Sl.nil, Sl.nil, Sl.one hb rfl hc (by simp [cU, Value.oneCell']) (ri_iU of)⟩
theorem rm_mB : RM w B mB (cM tB (.slice none 0 0)) := ⟨_, _, _, rfl, Sl.nil, Sl.nil, Sl.nil⟩
end
set_option maxRecDepth 20000 in
theorem wire7_any (nm : ByteArray) (w : World) :
   Calls Tryz.prog 24 #[.string nm] w fun e w' => ∃ g, e = .returned (.agg #[.int .i64 2, .string nm, .string ⟨#[]⟩, .slice (some ⟨g, 0, none⟩) 1 1, .slice none 0 0, .slice none 0 0, .slice none 0 0, .slice none 0 0, .slice none 0 0]) ∧ Blk w' g 49 cX ∧ w.heap.size ≤ g ∧ Ext w w' := by
 obtain ⟨W1, hW1, hx1, hb1⟩ := box9 w (.int .i64 0) (.string ⟨#[]⟩) (.string ⟨#[]⟩) (.slice none 0 0) (.slice none 0 0) (.slice none 0 0) (.slice none 0 0) (.slice none 0 0) (.slice none 0 0) 53
 have hV1 := hW1.symm
 have HB := hide hb1
 have HX := hide hx1
 have G1 := hide (one7_any W1)
 clear hW1 hb1 hx1
 go_enter Tryz.func24, Tryz.ntmps24
 go_wp2_with fail
 go_at_call 25
 refine G1.out.mono ?_
 rintro _ w2 ⟨rfl, hx2⟩
 obtain ⟨W3, hW3, hx3, hb3⟩ := box6 w2 (.int .i64 1) (.string ⟨#[]⟩) (.int .i64 0) (.int .i64 0) (.int .u64 1) (.slice none 0 0) 49
 have hV3 := hW3.symm
 have hb := HB.out.ext (hx2.trans hx3)
 obtain ⟨p0, p1, p2, p3, p4, p5, p6, p7, p8⟩ := hb.get9
 obtain ⟨q0, q1, q2, q3, q4, q5, q6, q7, q8⟩ := hb.free9
 have hbs := hb.store9 (.int .i64 2) (.string nm) (.string ⟨#[]⟩) (.slice (some ⟨w2.heap.size, 0, none⟩) 1 1) (.slice none 0 0) (.slice none 0 0) (.slice none 0 0) (.slice none 0 0) (.slice none 0 0)
 obtain ⟨Wc, hWc⟩ : ∃ Wc, Wc = (((((((((W3.setCell ⟨w.heap.size, 0, none⟩ (.int .i64 2)).setCell ⟨w.heap.size, 1, none⟩ (.string nm)).setCell ⟨w.heap.size, 2, none⟩ (.string ⟨#[]⟩)).setCell ⟨w.heap.size, 3, none⟩ (.slice (some ⟨w2.heap.size, 0, none⟩) 1 1)).setCell ⟨w.heap.size, 4, none⟩ (.slice none 0 0)).setCell ⟨w.heap.size, 5, none⟩ (.slice none 0 0)).setCell ⟨w.heap.size, 6, none⟩ (.slice none 0 0)).setCell ⟨w.heap.size, 7, none⟩ (.slice none 0 0)).setCell ⟨w.heap.size, 8, none⟩ (.slice none 0 0)) := ⟨_, rfl⟩
 rw [← hWc] at hbs
 have hxw := (HX.out.trans hx2).trans hx3
 have hxc : Ext w Wc := by
   rw [hWc]
   exact (((((((((hxw.setCell (Nat.le_refl _) _).setCell (Nat.le_refl _) _).setCell (Nat.le_refl _) _).setCell (Nat.le_refl _) _).setCell (Nat.le_refl _) _).setCell (Nat.le_refl _) _).setCell (Nat.le_refl _) _).setCell (Nat.le_refl _) _).setCell (Nat.le_refl _) _)
 have hlt : w.heap.size < w2.heap.size := Nat.lt_of_lt_of_le HB.out.lt hx2.size
 have hnn : w2.heap.size ≠ w.heap.size := by omega
 have hb3c : Blk Wc w2.heap.size 49 cX := by
   rw [hWc]
   exact ((((((((hb3.far hnn _).far hnn _).far hnn _).far hnn _).far hnn _).far hnn _).far hnn _).far hnn _).far hnn _
 obtain ⟨r0, r1, r2, r3, r4, r5, r6, r7, r8⟩ := hbs.get9
 have hVc := hWc.symm
 have FIN := hide (And.intro hb3c hxc)
 clear hb hbs hxw hxc hb3c hb3 hx3 hx2 hW3 hWc
 go_wp2_with fail
 refine bodyPost_ret (v := .agg #[.int .i64 2, .string nm, .string ⟨#[]⟩, .slice (some ⟨w2.heap.size, 0, none⟩) 1 1, .slice none 0 0, .slice none 0 0, .slice none 0 0, .slice none 0 0, .slice none 0 0]) ?_ rfl ⟨_, rfl, FIN.out.1, by omega, FIN.out.2⟩
 simp [results, Tryz.results24, go_sem, r0, r1, r2, r3, r4, r5, r6, r7, r8]
theorem sstr_blk {w : World} {g : Nat} (l : List ByteArray) (hb : Blk w g 9 (l.map .string)) : SStr w l (.slice (some ⟨g, 0, none⟩) l.length l.length) :=
 ⟨_, _, rfl, Nat.le_refl _, fun k hk => ⟨g, 0, rfl, by rw [Nat.zero_add, hb.cell k, List.getElem?_map, List.getElem?_eq_getElem hk]; rfl⟩⟩
set_option maxRecDepth 200000 in
set_option maxHeartbeats 8000000 in
theorem live7_any (w : World) (hT : Tabs w) : Calls Tryz.prog 8 #[] w fun e w' => e = .returned (.bool true) ∧ Ext w w' := by
 have HT := hide hT
 clear hT
 go_enter Tryz.func8, Tryz.ntmps8
 go_wp2_with fail
 go_at_call 28
 refine (inst7_any tU tB w).mono ?_
 rintro _ w1 ⟨rfl, hx1⟩
 obtain ⟨W2, hW2, hx2, hb2⟩ := box9 w1 (.int .i64 7) (.string tU) (.string tB) (.slice none 0 0) (.slice none 0 0) (.slice none 0 0) (.slice none 0 0) (.slice none 0 0) (.slice none 0 0) 53
 have hV2 := hW2.symm
 have HB2 := hide hb2
 have X2 := hide (hx1.trans hx2)
 clear hW2 hb2 hx1 hx2
 go_wp2_with fail
 go_at_call 29
 refine (module7_any tA _ _ _ W2).mono ?_
 rintro _ w3 ⟨rfl, hx3⟩
 go_wp2_with fail
 go_at_call 29
 refine (module7_any tB _ _ _ w3).mono ?_
 rintro _ w4 ⟨rfl, hx4⟩
 obtain ⟨W5, hW5, hx5, hb5⟩ := box8 w4 (.string tA) (.slice none 0 0) (.slice none 0 0) (.slice (some ⟨w1.heap.size, 0, none⟩) 1 1) (.string tB) (.slice none 0 0) (.slice none 0 0) (.slice none 0 0) 33
 have hV5 := hW5.symm
 obtain ⟨W6, hW6, hx6, hb6⟩ := box1 W5 (.slice none 0 0) 24
 have hV6 := hW6.symm
 have m6 := hb6.get1
 have n6 := hb6.free1
 obtain ⟨W7, hW7⟩ : ∃ W7, W7 = W6.setCell ⟨W5.heap.size, 0, none⟩ (.slice (some ⟨w4.heap.size, 0, none⟩) 2 2) := ⟨_, rfl⟩
 have hV7 := hW7.symm
 have hb7 : Blk W7 W5.heap.size 24 [.slice (some ⟨w4.heap.size, 0, none⟩) 2 2] := by rw [hW7]; exact hb6.store1 _
 have hx57 : Ext W5 W7 := by rw [hW7]; exact hx6.setCell (Nat.le_refl _) _
 have hx27 : Ext W2 W7 := (hx3.trans hx4).trans (hx5.trans hx57)
 have SF := hide (show Sl (RM W7 W7.heap.size) W7 W7.heap.size 4 fF (.slice (some ⟨w4.heap.size, 0, none⟩) 2 2) from
   Sl.pair (Nat.lt_of_lt_of_le hb5.lt hx57.size) rfl rfl (hb5.ext hx57).cells (by simp [cM, Value.oneCell']) (rm_mA tB (Nat.lt_of_lt_of_le HB2.out.lt hx27.size) (HB2.out.ext hx27).cells) rm_mB)
 have BF := hide (And.intro hb7 (hb5.ext hx57))
 have RA := hide (show RM W7 W7.heap.size (mA tB) (cM tA (.slice (some ⟨w1.heap.size, 0, none⟩) 1 1)) from rm_mA tB (Nat.lt_of_lt_of_le HB2.out.lt hx27.size) (HB2.out.ext hx27).cells)
 have X7 := hide (X2.out.trans hx27)
 clear hW5 hx5 hb5 hW6 hx6 hb6 hW7 hb7 hx57 hx27 hx3 hx4 HB2 X2
 go_wp2_with fail
 go_at_call 24
 refine (wire7_any tW W7).mono ?_
 rintro _ w8 ⟨ga, rfl, hba, hga, hx8⟩
 clear hV2 hV5 hV6 hV7 m6 n6
 go_wp2_with fail
 go_at_call 24
 refine (wire7_any tW w8).mono ?_
 rintro _ w9 ⟨gb, rfl, hbb, hgb, hx9⟩
 obtain ⟨W10, hW10⟩ : ∃ W10, W10 = w9.alloc (.cells #[.int .i64 2, .string tW, .string ⟨#[]⟩, .slice (some ⟨ga, 0, none⟩) 1 1, .slice none 0 0, .slice none 0 0, .slice none 0 0, .slice none 0 0, .slice none 0 0, .int .i64 2, .string tW, .string ⟨#[]⟩, .slice (some ⟨gb, 0, none⟩) 1 1, .slice none 0 0, .slice none 0 0, .slice none 0 0, .slice none 0 0, .slice none 0 0] 53) := ⟨_, rfl⟩
 have hV10 := hW10.symm
 have hb10 : Blk W10 w9.heap.size 53 (cW tW ga ++ cW tW gb) := by rw [hW10]; exact Blk.new w9 _ (cW tW ga ++ cW tW gb)
 have hx10 : Ext w9 W10 := by rw [hW10]; exact Ext.new _ _
 have HA := hide (And.intro ((hba.ext hx9).ext hx10) (And.intro (hbb.ext hx10) hb10))
 have X10 := hide (((X7.out.trans hx8).trans hx9).trans hx10)
 have Y10 := hide ((hx8.trans hx9).trans hx10)
 clear hba hbb hga hgb hx8 hx9 hx10 hb10 hW10
 go_wp2_with fail
 go_at_call 29
 refine (module7_any tA _ _ _ W10).mono ?_
 rintro _ w11 ⟨rfl, hx11⟩
 obtain ⟨W12, hW12, hx12, hb12⟩ := box4 w11 (.string tA) (.slice none 0 0) (.slice none 0 0) (.slice (some ⟨w9.heap.size, 0, none⟩) 2 2) 33
 have hV12 := hW12.symm
 obtain ⟨W13, hW13, hx13, hb13⟩ := box1 W12 (.slice none 0 0) 24
 have hV13 := hW13.symm
 have m13 := hb13.get1
 have n13 := hb13.free1
 obtain ⟨W14, hW14⟩ : ∃ W14, W14 = W13.setCell ⟨W12.heap.size, 0, none⟩ (.slice (some ⟨w11.heap.size, 0, none⟩) 1 1) := ⟨_, rfl⟩
 have hV14 := hW14.symm
 have hb14 : Blk W14 W12.heap.size 24 [.slice (some ⟨w11.heap.size, 0, none⟩) 1 1] := by rw [hW14]; exact hb13.store1 _
 have hx134 : Ext W12 W14 := by rw [hW14]; exact hx13.setCell (Nat.le_refl _) _
 have hx104 : Ext W10 W14 := hx11.trans (hx12.trans hx134)
 have SG := hide (show Sl (RM W14 W14.heap.size) W14 W14.heap.size 4 fG (.slice (some ⟨w11.heap.size, 0, none⟩) 1 1) from
   Sl.one (Nat.lt_of_lt_of_le hb12.lt hx134.size) rfl (hb12.ext hx134).cells (by simp [Value.oneCell']) ⟨_, _, _, rfl, Sl.nil, Sl.nil,
     Sl.pair (Nat.lt_of_lt_of_le HA.out.2.2.lt hx104.size) rfl rfl (HA.out.2.2.ext hx104).cells (by simp [cW, Value.oneCell'])
       (ri_iW tW (Nat.lt_of_lt_of_le HA.out.1.lt hx104.size) (HA.out.1.ext hx104).cells) (ri_iW tW (Nat.lt_of_lt_of_le HA.out.2.1.lt hx104.size) (HA.out.2.1.ext hx104).cells)⟩)
 have BG := hide hb14
 have X14 := hide (X10.out.trans hx104)
 have Y14 := hide (Y10.out.trans hx104)
 clear hW12 hx12 hb12 hW13 hx13 hb13 hW14 hb14 hx134 hx104 hx11 HA X10 Y10 hV10
 go_wp2_with fail
 go_at_call 28
 refine (inst7_any tU tA W14).mono ?_
 rintro _ w15 ⟨rfl, hx15⟩
 obtain ⟨W16, hW16, hx16, hb16⟩ := box9 w15 (.int .i64 7) (.string tU) (.string tA) (.slice none 0 0) (.slice none 0 0) (.slice none 0 0) (.slice none 0 0) (.slice none 0 0) (.slice none 0 0) 53
 have hV16 := hW16.symm
 clear hV12 hV13 hV14 m13 n13 hW16
 go_wp2_with fail
 go_at_call 29
 refine (module7_any tA _ _ _ W16).mono ?_
 rintro _ w17 ⟨rfl, hx17⟩
 obtain ⟨W18, hW18, hx18, hb18⟩ := box4 w17 (.string tA) (.slice none 0 0) (.slice none 0 0) (.slice (some ⟨w15.heap.size, 0, none⟩) 1 1) 33
 have hV18 := hW18.symm
 obtain ⟨W19, hW19, hx19, hb19⟩ := box1 W18 (.slice none 0 0) 24
 have hV19 := hW19.symm
 have m19 := hb19.get1
 have n19 := hb19.free1
 obtain ⟨W20, hW20⟩ : ∃ W20, W20 = W19.setCell ⟨W18.heap.size, 0, none⟩ (.slice (some ⟨w17.heap.size, 0, none⟩) 1 1) := ⟨_, rfl⟩
 have hV20 := hW20.symm
 have hb20 : Blk W20 W18.heap.size 24 [.slice (some ⟨w17.heap.size, 0, none⟩) 1 1] := by rw [hW20]; exact hb19.store1 _
 have hx180 : Ext W18 W20 := by rw [hW20]; exact hx19.setCell (Nat.le_refl _) _
 have hx160 : Ext W16 W20 := hx17.trans (hx18.trans hx180)
 have hx140 : Ext W14 W20 := hx15.trans (hx16.trans hx160)
 have SH := hide (show Sl (RM W20 W20.heap.size) W20 W20.heap.size 4 fH (.slice (some ⟨w17.heap.size, 0, none⟩) 1 1) from
   Sl.one (Nat.lt_of_lt_of_le hb18.lt hx180.size) rfl (hb18.ext hx180).cells (by simp [Value.oneCell']) (rm_mA tA (Nat.lt_of_lt_of_le hb16.lt hx160.size) (hb16.ext hx160).cells))
 have BH := hide hb20
 have X20 := hide (X14.out.trans hx140)
 have SG2 := hide ((SG.out.extRM hx140 (Nat.le_refl _)).moreRM hx140.size)
 have SF2 := hide ((SF.out.extRM (Y14.out.trans hx140) (Nat.le_refl _)).moreRM (Y14.out.trans hx140).size)
 have BF2 := hide (And.intro (BF.out.1.ext (Y14.out.trans hx140)) (BF.out.2.ext (Y14.out.trans hx140)))
 have BG2 := hide (BG.out.ext hx140)
 have RA2 := hide ((RA.out.ext (Y14.out.trans hx140) (Nat.le_refl _)).more (Y14.out.trans hx140).size)
 clear hx16 hb16 hW18 hx18 hb18 hW19 hx19 hb19 hW20 hb20 hx180 hx160 hx140 hx15 hx17 SG SF BF BG RA X14 Y14 X7
 have GO := hide (orderN_any W20.heap.size fF W20 _ (HT.out.ext X20.out) SF2.out (Nat.le_refl _) (by decide) vm_F)
 have y0 := BF2.out.1.get1
 go_wp2_with fail
 go_at_call 18
 refine GO.out.mono ?_
 rintro _ w21 ⟨v, rfl, hx21, ho, -⟩
 rw [checkN_F]
 have HOW := hide (SStr.of_row (ho checkN_F))
 have Y21 := hide hx21
 have y1 := (BF2.out.1.ext hx21).get1
 clear hx21 ho GO y0 hV16 hV18 hV19 hV20 m19 n19
 have GB := hide (below_any W20.heap.size fF tB w21 _ (HT.out.ext (X20.out.trans Y21.out)) (SF2.out.extRM Y21.out (Nat.le_refl _)) Y21.out.size (by decide) vm_F)
 go_wp2_with fail
 go_at_call 20
 refine GB.out.mono ?_
 rintro _ w22 ⟨v2, c2, rfl, hx22, hc2, hb2, -⟩
 obtain rfl : c2 = 0 := by rw [hc2, if_pos checkN_F, find_FB]; rfl
 have HBW := hide (SStr.of_row (hb2 rfl))
 have Y22 := hide (Y21.out.trans hx22)
 have HOW2 := hide (HOW.out.ext hx22)
 have y2 := (BF2.out.1.ext Y22.out).get1
 clear hx22 hc2 hb2 GB y1 HOW
 have GF := hide (find_any W20.heap.size fF tB w22 _ (SF2.out.extRM Y22.out (Nat.le_refl _)) Y22.out.size (by decide))
 rw [find_FB] at GF
 go_wp2_with fail
 go_at_call 12
 refine GF.out.mono ?_
 rintro _ w23 ⟨c0, c1, c2, c3, rfl, hR, hx23⟩
 obtain ⟨u1, u2, u3, hcs, hp1, hq1, hi1⟩ := hR
 simp only [List.cons.injEq, and_true] at hcs
 obtain ⟨rfl, rfl, rfl, rfl⟩ := hcs
 have o1 := hp1.oneCell
 have o2 := hq1.oneCell
 have o3 := hi1.oneCell
 obtain ⟨Wb, W24, hVb, ⟨p0, p1, p2, p3⟩, ⟨q0, q1, q2, q3⟩, hVc, hb24, hx24, -⟩ := varM w23 (.string tB) c1 c2 c3
 have Y24 := hide ((Y22.out.trans hx23).trans hx24)
 have HOW3 := hide ((HOW2.out.ext hx23).ext hx24)
 have HBW3 := hide ((HBW.out.ext hx23).ext hx24)
 have B24 := hide hb24
 have y4 := (BF2.out.1.ext Y24.out).get1
 clear hp1 hq1 hi1 hb24 hx24 hx23 GF y2 HOW2 HBW
 rw [show ((some mB).getD zeroM).name = tB from rfl, show (some mB).isSome = true from rfl]
 have GF := hide (find_any W20.heap.size fF tC W24 _ (SF2.out.extRM Y24.out (Nat.le_refl _)) Y24.out.size (by decide))
 rw [find_FC] at GF
 go_wp2_with fail
 go_at_call 12
 refine GF.out.mono ?_
 rintro _ w25 ⟨d0, d1, d2, d3, rfl, hR, hx25⟩
 clear hVb hVc p0 p1 p2 p3 q0 q1 q2 q3 o1 o2 o3
 obtain ⟨u1, u2, u3, hcs, hp1, hq1, hi1⟩ := hR
 simp only [List.cons.injEq, and_true] at hcs
 obtain ⟨rfl, rfl, rfl, rfl⟩ := hcs
 have o1 := hp1.oneCell
 have o2 := hq1.oneCell
 have o3 := hi1.oneCell
 rw [show ((none : Option Mdl).getD zeroM).name = tE from rfl, show (none : Option Mdl).isSome = false from rfl]
 obtain ⟨Wb, W26, hVb, ⟨p0, p1, p2, p3⟩, ⟨q0, q1, q2, q3⟩, hVc, hb26, hx26, -⟩ := varM w25 (.string tE) d1 d2 d3
 obtain ⟨W27, hW27, hx27, hb27⟩ := box2 W26 (.string ⟨#[98]⟩) (.string ⟨#[97]⟩) 9
 have hV27 := hW27.symm
 have Y27 := hide (((Y24.out.trans hx25).trans hx26).trans hx27)
 have HBW4 := hide (((HBW3.out.ext hx25).ext hx26).ext hx27)
 have B27 := hide (((B24.out.ext hx25).ext hx26).ext hx27)
 have HOT := hide (show Calls Tryz.prog 15 #[v, .slice (some ⟨W26.heap.size, 0, none⟩) 2 2] W27 fun e w' => e = .returned (.bool true) ∧ Ext W27 w' from
   (refTexts_any (orderF fF) [tB, tA] W27 _ _ (((HOW3.out.ext hx25).ext hx26).ext hx27) (sstr_blk [tB, tA] hb27) (by rw [order_F]; decide) (by decide)).mono fun e w' h => ⟨by rw [h.1, yes_iff.2 order_F], h.2⟩)
 clear hp1 hq1 hi1 hb26 hx26 hx25 hx27 hb27 hW27 GF y4 HOW3 HBW3 B24
 go_wp2_with fail
 go_at_call 15
 refine HOT.out.mono ?_
 rintro _ w28 ⟨rfl, hx28⟩
 clear hVb hVc p0 p1 p2 p3 q0 q1 q2 q3 o1 o2 o3 hV27 HOT
 obtain ⟨W29, hW29, hx29, hb29⟩ := box1 w28 (.string ⟨#[98]⟩) 9
 have hV29 := hW29.symm
 have Y29 := hide ((Y27.out.trans hx28).trans hx29)
 have B29 := hide ((B27.out.ext hx28).ext hx29)
 have HOT := hide (show Calls Tryz.prog 15 #[v2, .slice (some ⟨w28.heap.size, 0, none⟩) 1 1] W29 fun e w' => e = .returned (.bool true) ∧ Ext W29 w' from
   (refTexts_any (belowN fF tB) [tB] W29 _ _ ((HBW4.out.ext hx28).ext hx29) (sstr_blk [tB] hb29) (by rw [below_F]; decide) (by decide)).mono fun e w' h => ⟨by rw [h.1, yes_iff.2 below_F], h.2⟩)
 clear hW29 hx29 hb29 hx28 HBW4 Y27 B27
 go_wp2_with fail
 go_at_call 15
 refine HOT.out.mono ?_
 rintro _ w30 ⟨rfl, hx30⟩
 have Y30 := hide (Y29.out.trans hx30)
 have B30 := hide (B29.out.ext hx30)
 have y30 := (BF2.out.1.ext Y30.out).get1
 obtain ⟨z0, z1, z2, z3, -, -, -, -⟩ := (BF2.out.2.ext Y30.out).get8
 have GU := hide (uses_any W20.heap.size (mA tB) w30 _ (RA2.out.ext Y30.out (Nat.le_refl _)) Y30.out.size (by decide))
 clear hx30 HOT hV29 Y29 B29
 go_wp2_with fail
 go_at_call 16
 refine GU.out.mono ?_
 rintro _ w31 ⟨v3, rfl, hown, hx31⟩
 obtain ⟨W32, hW32, hx32, hb32⟩ := box1 w31 (.string ⟨#[98]⟩) 9
 have hV32 := hW32.symm
 have Y32 := hide ((Y30.out.trans hx31).trans hx32)
 have B32 := hide ((B30.out.ext hx31).ext hx32)
 have HOT := hide (show Calls Tryz.prog 15 #[v3, .slice (some ⟨w31.heap.size, 0, none⟩) 1 1] W32 fun e w' => e = .returned (.bool true) ∧ Ext W32 w' from
   (refTexts_any (usesM (mA tB)) [tB] W32 _ _ ((SStr.of_row hown).ext hx32) (sstr_blk [tB] hb32) (by rw [uses_mA]; decide) (by decide)).mono fun e w' h => ⟨by rw [h.1, yes_iff.2 (uses_mA tB)], h.2⟩)
 clear hW32 hx32 hb32 hx31 hown GU y30 z0 z1 z2 z3 Y30 B30
 go_wp2_with fail
 go_at_call 15
 refine HOT.out.mono ?_
 rintro _ w33 ⟨rfl, hx33⟩
 have Y33 := hide (Y32.out.trans hx33)
 have b0 := (B32.out.ext hx33).get4.1
 have yg := (BG2.out.ext Y33.out).get1
 have CG := hide (checkN_any W20.heap.size fG w33 _ (HT.out.ext (X20.out.trans Y33.out)) (SG2.out.extRM Y33.out (Nat.le_refl _)) Y33.out.size (by decide) vm_G)
 rw [checkN_G] at CG
 clear hx33 HOT hV32 Y32 B32
 have hb8 : tB.toList = [98] := by rw [ByteArray.toList_eq]; rfl
 go_wp2_with fail
 go_at_call 10
 refine CG.out.mono ?_
 rintro _ w34 ⟨rfl, hx34⟩
 have Y34 := hide (Y33.out.trans hx34)
 have yh := (BH.out.ext Y34.out).get1
 have CH := hide (checkN_any W20.heap.size fH w34 _ (HT.out.ext (X20.out.trans Y34.out)) (SH.out.extRM Y34.out (Nat.le_refl _)) Y34.out.size (by decide) vm_H)
 rw [checkN_H] at CH
 clear hx34 CG yg b0
 go_wp2_with fail
 go_at_call 10
 refine CH.out.mono ?_
 rintro _ w35 ⟨rfl, hx35⟩
 have Y35 := hide (Y34.out.trans hx35)
 have yf := (BF2.out.1.ext Y35.out).get1
 have CF := hide (checkN_any W20.heap.size fF w35 _ (HT.out.ext (X20.out.trans Y35.out)) (SF2.out.extRM Y35.out (Nat.le_refl _)) Y35.out.size (by decide) vm_F)
 rw [checkN_F] at CF
 clear hx35 CH yh
 go_wp2_with fail
 go_at_call 10
 refine CF.out.mono ?_
 rintro _ w36 ⟨rfl, hx36⟩
 have Y36 := hide (X20.out.trans (Y35.out.trans hx36))
 clear hx36 CF yf
 go_wp2_with fail
 go_ret
 exact ⟨rfl, Y36.out⟩
def finF (w0 : World) (B : Nat) (W : World) (vf vl : Value) (k : Nat) (p : Addr) (s : ByteArray) (x : Mdl) (fo : Bool) (i : Nat) (v : Value) (w : World) : Prop := match i with
 | 0 => v = .agg #[vf]
 | 1 => v = vl
 | 2 => v = .int .i64 k
 | 3 => v = .pointer (some p)
 | 4 => v = .string s
 | 5 => ∃ c0 c1 c2 c3, v = .tuple #[.agg #[c0, c1, c2, c3], .bool fo] ∧ RM w0 B x [c0, c1, c2, c3]
 | 6 => ∃ c0 c1 c2 c3, v = .tuple #[.agg #[c0, c1, c2, c3], .bool fo] ∧ RM w0 B x [c0, c1, c2, c3]
 | 7 => ∃ c0 c1 c2 c3, v = .agg #[c0, c1, c2, c3] ∧ RM w0 B x [c0, c1, c2, c3]
 | 8 => v = .bool fo
 | 9 => ∃ g d0 d1 d2 d3, v = .pointer (some ⟨g, 0, none⟩) ∧ W.heap.size ≤ g ∧ Blk w g 33 [d0, d1, d2, d3]
 | 11 => v = .bool fo
 | _ => True
def finG (w0 : World) (B : Nat) (W : World) (x : Mdl) (v : Value) (w : World) : Prop := ∃ g c0 c1 c2 c3, v = .pointer (some ⟨g, 0, none⟩) ∧ W.heap.size ≤ g ∧ Blk w g 33 [c0, c1, c2, c3] ∧ RM w0 B x [c0, c1, c2, c3]
theorem finF_other {w0 : World} {B : Nat} {W : World} {vf vl : Value} {k : Nat} {p : Addr} {s : ByteArray} {x : Mdl} {fo : Bool} {i : Nat} {v : Value} (w w' : World) (hi : i ≠ 9) (h : finF w0 B W vf vl k p s x fo i v w) : finF w0 B W vf vl k p s x fo i v w' := by
 unfold finF at h ⊢
 split at h <;> first | exact h | exact absurd rfl hi
theorem finF_ext {w0 : World} {B : Nat} {W : World} {vf vl : Value} {k : Nat} {p : Addr} {s : ByteArray} {x : Mdl} {fo : Bool} {i : Nat} {v : Value} {w w' : World} (h : finF w0 B W vf vl k p s x fo i v w) (hx : Ext w w') : finF w0 B W vf vl k p s x fo i v w' := by
 by_cases hi : i = 9
 · subst hi
   obtain ⟨g, d0, d1, d2, d3, h1, h2, h3⟩ := h
   exact ⟨g, d0, d1, d2, d3, h1, h2, h3.ext hx⟩
 · exact finF_other _ _ hi h
theorem finG_ext {w0 : World} {B : Nat} {W : World} {x : Mdl} {v : Value} {w w' : World} (h : finG w0 B W x v w) (hx : Ext w w') : finG w0 B W x v w' := by
 obtain ⟨g, c0, c1, c2, c3, h1, h2, h3, h4⟩ := h
 exact ⟨g, c0, c1, c2, c3, h1, h2, h3.ext hx, h4⟩
theorem finF_store {w0 : World} {B : Nat} {W : World} {vf vl : Value} {k : Nat} {p : Addr} {s : ByteArray} {x : Mdl} {fo : Bool} {w : World} {g0 : Nat} (u0 u1 u2 u3 : Value) {j : Nat} {v : Value} (h : finF w0 B W vf vl k p s x fo j v w) : finF w0 B W vf vl k p s x fo j v ((((w.setCell ⟨g0, 0, none⟩ u0).setCell ⟨g0, 1, none⟩ u1).setCell ⟨g0, 2, none⟩ u2).setCell ⟨g0, 3, none⟩ u3) := by
 by_cases hi : j = 9
 · subst hi
   obtain ⟨g, d0, d1, d2, d3, h1, h2, h3⟩ := h
   by_cases hg : g = g0
   · subst hg
     exact ⟨g, u0, u1, u2, u3, h1, h2, h3.store4 u0 u1 u2 u3⟩
   · exact ⟨g, d0, d1, d2, d3, h1, h2, (((h3.far hg _).far hg _).far hg _).far hg _⟩
 · exact finF_other _ _ hi h
theorem ext_store4 {W w : World} (hx : Ext W w) {g : Nat} (hg : W.heap.size ≤ g) (u0 u1 u2 u3 : Value) : Ext W ((((w.setCell ⟨g, 0, none⟩ u0).setCell ⟨g, 1, none⟩ u1).setCell ⟨g, 2, none⟩ u2).setCell ⟨g, 3, none⟩ u3) :=
 (((hx.setCell hg _).setCell hg _).setCell hg _).setCell hg _
theorem rm_back {w0 w1 : World} {B : Nat} {x : Mdl} {cs : List Value} (h : RM w1 B x cs) (hx : Ext w0 w1) (hB : B ≤ w0.heap.size) : RM w0 B x cs := RM.keep (w' := w0) (fun p hp => (hx.cell (by omega)).symm) (Nat.le_refl _) _ _ h
end Go.Proofs.YtjoglnjpgkobeaaGreatDoor
