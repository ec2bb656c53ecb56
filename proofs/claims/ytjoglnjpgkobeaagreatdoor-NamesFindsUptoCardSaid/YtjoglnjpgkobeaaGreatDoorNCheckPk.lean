/-
  PACKAGE names: Check, Order.
-/
import Derived.Test.YtjoglnjpgkobeaaGreatDoorNUsesPk
import Derived.Test.YtjoglnjpgkobeaaGreatDoorNInnerPk
import Derived.Test.YtjoglnjpgkobeaaGreatDoorCheckPk
import Derived.Test.YtjoglnjpgkobeaaGreatDoorFactsPk
namespace Go.Proofs.YtjoglnjpgkobeaaGreatDoor
open Go Go.RowKit
set_option linter.all false
set_option linter.unusedVariables false
set_option linter.unusedSimpArgs false
set_option linter.unusedVariables false
set_option linter.unusedSimpArgs false
attribute [local go_sem] run_store_one

theorem enters_not2 : Enters Tryz.prog 35 := ⟨fun _ _ => by kernel_rfl⟩
set_option maxRecDepth 20000 in
theorem not2_any (N : ByteArray → Prop) (s : ByteArray) (p : Addr) (mp : Nat) (w : World) (hp : w.cell? p = some (.map (some mp))) (hs : SetB w mp N) :
    Calls Tryz.prog 35 #[.string s, .pointer (some p)] w fun e w' => e = .returned (.bool (yes (¬ N s))) ∧ Ext w w' := by
  have hask := hs.ask Tryz.underlying62 Tryz.underlying9 zeroBool s
  by_cases hN : N s
  · rw [yes_iff.2 hN] at hask
    rw [yes_no.2 (show ¬ ¬ N s from fun h => h hN)]
    clear hN hs
    go_enter Tryz.func35, Tryz.ntmps35
    go_wp2
    go_ret
    exact ⟨rfl, Ext.refl _⟩
  · rw [yes_no.2 hN] at hask
    rw [yes_iff.2 hN]
    clear hN hs
    go_enter Tryz.func35, Tryz.ntmps35
    go_wp2
    go_ret
    exact ⟨rfl, Ext.refl _⟩
/-- What names.Check says. -/
noncomputable def checkN (f : List Mdl) : Int := if checkF f = 0 then namesOk f else checkF f
theorem items_le {f : List Mdl} {m : Mdl} (hm : m ∈ f) : msize sizeI m.items ≤ msize sizeM f := by
  have h1 := msize_mem sizeM f m hm
  have h2 : sizeM m = 1 + (msize sizeB m.params + msize sizeP m.ports + msize sizeI m.items) := by unfold sizeM; omega
  omega
/-- What Check holds: two boxes, a set. -/
structure CInv (w : World) (fb db mp : Nat) (vf : Value) (N : ByteArray → Prop) (X : World) : Prop where
  fbk : Blk X fb 24 [vf]
  dbk : Blk X db 62 [.map (some mp)]
  set : SetB X mp N
  ext : Ext w X
theorem CInv.later {w X Y : World} {fb db mp : Nat} {vf : Value} {N : ByteArray → Prop} (h : CInv w fb db mp vf N X) (hx : Ext X Y) : CInv w fb db mp vf N Y :=
  ⟨h.fbk.ext hx, h.dbk.ext hx, h.set.kept hx.gr (by simp), h.ext.trans hx⟩
theorem CInv.add {w X : World} {fb db mp : Nat} {vf : Value} {N N' : ByteArray → Prop} (h : CInv w fb db mp vf N X) (hm : w.heap.size ≤ mp) (o : Obj) (hs : SetB (setO X mp o) mp N') : CInv w fb db mp vf N' (setO X mp o) := by
  have hg := setO_grown X mp o
  exact ⟨(hg.block fb h.fbk.lt (blk_ne_set h.fbk h.set).symm).trans h.fbk, (hg.block db h.dbk.lt (blk_ne_set h.dbk h.set).symm).trans h.dbk, hs, h.ext.grown hg fun r e => by cases e; exact hm⟩
theorem CInv.congr {w X : World} {fb db mp : Nat} {vf : Value} {N N' : ByteArray → Prop} (h : CInv w fb db mp vf N X) (hN : ∀ s, N s ↔ N' s) : CInv w fb db mp vf N' X := ⟨h.fbk, h.dbk, h.set.congr hN, h.ext⟩
theorem names_take {f : List Mdl} {k : Nat} (hk : k < f.length) : namesF (f.take (k + 1)) = namesF (f.take k) ++ [f[k].name] := by
  unfold namesF
  rw [List.take_succ_eq_append_getElem hk, List.map_append]; rfl
theorem names_sub {f : List Mdl} {k : Nat} (h : (namesF f).Nodup) : (namesF (f.take k)).Nodup := by
  unfold namesF at *
  exact List.Pairwise.sublist ((List.take_sublist k f).map _) h
theorem names_step {f : List Mdl} {k : Nat} (hk : k < f.length) : (namesF (f.take (k + 1))).Nodup ↔ (namesF (f.take k)).Nodup ∧ ¬ f[k].name ∈ namesF (f.take k) := by
  rw [names_take hk, List.nodup_append]
  constructor
  · rintro ⟨h1, -, h3⟩
    exact ⟨h1, fun h => h3 _ h _ (List.mem_singleton.2 rfl) rfl⟩
  · rintro ⟨h1, h2⟩
    exact ⟨h1, by simp, fun a ha b hb e => by rw [List.mem_singleton.1 hb] at e; exact h2 (e ▸ ha)⟩
theorem ok_70 {f : List Mdl} (h : ¬ ((namesF f).Nodup ∧ ∀ m, m ∈ f → rightM m)) : namesOk f = 70 := by unfold namesOk; rw [if_neg h]
theorem ok_71 {f : List Mdl} (h : (namesF f).Nodup ∧ ∀ m, m ∈ f → rightM m) (h2 : ¬ ∀ m, m ∈ f → ∀ s, s ∈ usesM m → s ∈ namesF f) : namesOk f = 71 := by unfold namesOk; rw [if_pos h, if_neg h2]
theorem ok_end {f : List Mdl} (h : (namesF f).Nodup ∧ ∀ m, m ∈ f → rightM m) (h2 : ∀ m, m ∈ f → ∀ s, s ∈ usesM m → s ∈ namesF f) : namesOk f = if (orderF f).length < f.length then 72 else 0 := by unfold namesOk; rw [if_pos h, if_pos h2]

/-- What is known of the values of the last region. -/
def chkF (vf : Value) (fb n len : Nat) (i : Nat) (v : Value) (w : World) : Prop := match i with
  | 0 => v = .agg #[vf]
  | 1 => ∃ a c, v = .slice a n c
  | 2 => v = .int .i64 n
  | 3 => v = .pointer (some ⟨fb, 0, none⟩)
  | 4 => v = vf
  | 5 => v = .int .i64 len
  | 6 => v = .bool (decide (n < len))
  | _ => True
theorem chkF_ext {vf : Value} {fb n len i : Nat} {v : Value} {w w' : World} (hh : chkF vf fb n len i v w) (hx : Ext w w') : chkF vf fb n len i v w' := hh

set_option maxRecDepth 20000 in
set_option maxHeartbeats 4000000 in
theorem checkN_any (B : Nat) (f : List Mdl) (w : World) (vf : Value) (hT : Tabs w) (hS : Sl (RM w B) w B 4 f vf) (hB : B ≤ w.heap.size) (hsz : msize sizeM f ≤ 10000000) (hvx : ∀ m, m ∈ f → VM m) :
    Calls Tryz.prog 10 #[.agg #[vf]] w fun e w' => e = .returned (.int .i64 (checkN f)) ∧ Ext w w' := by
  have HS := hide hS
  have hln := length_le_msize sizeM f sizeM_pos
  have HIT := hide (fun m (hm : m ∈ f) => Nat.le_trans (items_le hm) hsz)
  have HMZ := hide (fun m (hm : m ∈ f) => Nat.le_trans (msize_mem sizeM f m hm) hsz)
  obtain ⟨a, cap, rfl, hcap, hrow⟩ := hS
  have HROW := hide hrow
  obtain ⟨W1, hW1, hx1, hb1⟩ := box1 w (.slice a f.length cap) 24
  have hV1 := hW1.symm
  have m0 := hb1.get1
  have GC := hide (Check_any B f W1 _ (hT.ext hx1) (HS.out.extRM hx1 hB) (Nat.le_trans hB hx1.size) (by omega) hvx)
  have HX1 := hide hx1
  have HB1 := hide hb1
  clear hcap hrow hx1 hb1 hW1 hT hvx
  by_cases hc0 : checkF f = 0
  · rw [hc0] at GC
    have hN : checkN f = namesOk f := by unfold checkN; rw [if_pos hc0]
    rw [hN]
    clear hN hc0
    go_enter Tryz.func10, Tryz.ntmps10
    go_wp2_with fail
    go_at_call 32
    refine GC.out.mono ?_
    rintro _ w1 ⟨rfl, hx⟩
    obtain ⟨W2, hW2⟩ : ∃ W2, W2 = w1.alloc (.map #[] 0) := ⟨_, rfl⟩
    have hx2 : Ext w1 W2 := by rw [hW2]; exact Ext.new _ _
    have hs2 : SetB W2 w1.heap.size (fun _ => False) := by rw [hW2]; exact SetB.new w1
    obtain ⟨W3, hW3, hx3, hb3⟩ := box1 W2 (.map none) 62
    have m1 := hb3.get1
    have n1 := hb3.free1
    obtain ⟨W4, hW4⟩ : ∃ W4, W4 = W3.setCell ⟨W2.heap.size, 0, none⟩ (.map (some w1.heap.size)) := ⟨_, rfl⟩
    have hb4 : Blk W4 W2.heap.size 62 [.map (some w1.heap.size)] := by rw [hW4]; exact hb3.store1 _
    have hx4 : Ext W2 W4 := by rw [hW4]; exact hx3.setCell (Nat.le_refl _) _
    have hmp : w.heap.size ≤ w1.heap.size := (HX1.out.trans hx).size
    have HC := hide (show CInv w w.heap.size W2.heap.size w1.heap.size (.slice a f.length cap) (fun s => s ∈ namesF (f.take 0)) W4 from
      ⟨HB1.out.ext (hx.trans (hx2.trans hx4)), hb4, (hs2.kept hx4.gr (by simp)).congr (fun s => by simp [namesF]), HX1.out.trans (hx.trans (hx2.trans hx4))⟩)
    have m4 := HC.out.fbk.get1
    have hV2 := hW2.symm
    have hV3 := hW3.symm
    have hV4 := hW4.symm
    have hmm := @run_makeMap Tryz.prog
    clear hx hx2 hs2 hx3 hb3 hb4 hx4 hW2 hW3 hW4 HX1 HB1 GC
    have HC0 := hide HC.out
    go_wp2_with fail
    clear HC
    go_loopw [18] (fun i wr => ∃ k : Nat, k ≤ f.length ∧ i = .int .i64 k ∧ CInv w w.heap.size W2.heap.size w1.heap.size (.slice a f.length cap) (fun s => s ∈ namesF (f.take k)) wr ∧ (namesF (f.take k)).Nodup ∧ ∀ m, m ∈ f.take k → rightM m) (fun i _ => f.length - (intOf i).toNat)
    case atStart => exact ⟨0, Nat.zero_le _, rfl, HC0.out, by simp [namesF], fun m hm => by simp at hm⟩
    case round =>
      obtain ⟨k, hk, rfl, hinv, hnd, hrt⟩ := hrel
      clear m4 m0 m1 n1 hV1 hV2 hV3 hV4 HC0 hmm
      have HV := hide hinv
      have HND := hide hnd
      have HRT := hide hrt
      clear hinv hnd hrt
      by_cases hlt : k < f.length
      · obtain ⟨b, o, v0, v1, v2, v3, rfl, hbB, hR, hC, o0, o1, o2, o3⟩ := HROW.out.open4 hlt
        obtain ⟨d0, d1, d2, d3⟩ := (hC.ext HV.out.ext).get4
        have HRM := hide hR
        obtain ⟨v1', v2', v3', hcs, -, -, -⟩ := hR
        simp only [List.cons.injEq, and_true] at hcs
        obtain ⟨rfl, rfl, rfl, rfl⟩ := hcs
        obtain ⟨Wb, Wc, hVb, ⟨p0, p1, p2, p3⟩, ⟨q0, q1, q2, q3⟩, hVc, hbc, hxc, -⟩ := varM wr (.string f[k].name) v1 v2 v3
        obtain ⟨ec, hec⟩ := Later.mk_ex (Ext.refl Wc)
        replace hVc := hVc.trans hec
        obtain ⟨c0, c1, c2, c3⟩ := hbc.later4
        have HXE := hide (hxc.trans ec.ext)
        have HVE := hide (HV.out.later HXE.out)
        have y0 := HVE.out.dbk.get1
        have hask := HVE.out.set.ask Tryz.underlying62 Tryz.underlying9 zeroBool f[k].name
        have GR := hide (right_any B f[k] ec.w _ (HRM.out.ext HVE.out.ext hB) (Nat.le_trans hB HVE.out.ext.size) (by have := HMZ.out f[k] (List.getElem_mem hlt); omega))
        clear hC hbc hxc hec HV HRM HROW
        by_cases hin : f[k].name ∈ namesF (f.take k)
        · rw [yes_iff.2 hin] at hask
          have FIN := hide (ok_70 (f := f) (fun h => ((names_step hlt).1 (names_sub h.1)).2 hin))
          clear hin GR
          generalize f[k] = x at *
          go_wp2_with (refine ⟨trivial, ?_⟩)
          go_ret
          exact ⟨by rw [FIN.out]; rfl, HVE.out.ext⟩
        · rw [yes_no.2 hin] at hask
          by_cases hr : rightM f[k]
          · rw [yes_iff.2 hr] at GR
            have SND := hide ((names_step hlt).2 ⟨HND.out, hin⟩)
            have SRT := hide (show ∀ m, m ∈ f.take (k + 1) → rightM m from fun m hm => by
              rw [List.take_succ_eq_append_getElem hlt] at hm
              rcases List.mem_append.1 hm with h | h
              · exact HRT.out m h
              · rw [List.mem_singleton.1 h]; exact hr)
            have SNM := hide (fun s => (by rw [names_take hlt]; simp : (s ∈ namesF (f.take k) ∨ s = f[k].name) ↔ s ∈ namesF (f.take (k + 1))))
            clear hin hr HND HRT
            generalize f[k] = x at *
            go_wp2_with fail
            go_at_call 33
            refine GR.out.mono ?_
            rintro _ w2 ⟨rfl, hx2⟩
            have HV2 := hide (HVE.out.later hx2)
            have y2 := HV2.out.dbk.get1
            have c0' := hx2.at_ (c0 ec)
            obtain ⟨oo, hup, hs6⟩ := HV2.out.set.add Tryz.underlying62 Tryz.underlying9 x.name
            have HV6 := hide ((HV2.out.add hmp oo hs6).congr SNM.out)
            clear hs6 hx2 hask y0 c0 c1 c2 c3 GR
            go_wp2_with fail
            go_roundw
            case rel => exact ⟨k + 1, by omega, by go_num, HV6.out, SND.out, SRT.out⟩
            case measure => simp [intOf]; omega
          · rw [yes_no.2 hr] at GR
            have FIN := hide (ok_70 (f := f) (fun h => hr (h.2 _ (List.getElem_mem hlt))))
            clear hin hr
            generalize f[k] = x at *
            go_wp2_with fail
            go_at_call 33
            refine GR.out.mono ?_
            rintro _ w2 ⟨rfl, hx2⟩
            have HX2 := hide (HVE.out.ext.trans hx2)
            clear hx2
            go_wp2_with fail
            go_ret
            exact ⟨by rw [FIN.out]; rfl, HX2.out⟩
      · have hkl : k = f.length := by omega
        subst hkl
        obtain ⟨wq, hwq⟩ : ∃ wq, wq = wr := ⟨_, rfl⟩
        subst hwq
        rw [List.take_length] at HND HRT HV
        have y0 := HV.out.fbk.get1
        have HZ0 := hide (show CInv w w.heap.size W2.heap.size w1.heap.size (.slice a f.length cap) (fun s => s ∈ namesF f) wq from HV.out)
        go_wp2_with fail
        clear HV y0
        have ALL := hide (And.intro HND.out HRT.out)
        clear HND HRT
        go_loopw [38] (fun i wr => ∃ k : Nat, k ≤ f.length ∧ i = .int .i64 k ∧ CInv w w.heap.size W2.heap.size w1.heap.size (.slice a f.length cap) (fun s => s ∈ namesF f) wr ∧ ∀ m, m ∈ f.take k → ∀ s, s ∈ usesM m → s ∈ namesF f) (fun i _ => f.length - (intOf i).toNat)
        case atStart => exact ⟨0, Nat.zero_le _, rfl, HZ0.out, fun m hm => by simp at hm⟩
        case round =>
          obtain ⟨k, hk, rfl, hinv, hus⟩ := hrel
          have HV := hide hinv
          have HUS := hide hus
          clear hinv hus HZ0
          have hmf : ∀ (fn : Fn) (first cap : Array Value) (w : World), (Instr.makeFunc fn first cap).run Tryz.prog w = .ok (.func fn first cap) w := fun _ _ _ _ => rfl
          by_cases hlt : k < f.length
          · obtain ⟨b, o, v0, v1, v2, v3, rfl, hbB, hR, hC, o0, o1, o2, o3⟩ := HROW.out.open4 hlt
            obtain ⟨d0, d1, d2, d3⟩ := (hC.ext HV.out.ext).get4
            have HRM := hide hR
            obtain ⟨v1', v2', v3', hcs, -, -, -⟩ := hR
            simp only [List.cons.injEq, and_true] at hcs
            obtain ⟨rfl, rfl, rfl, rfl⟩ := hcs
            obtain ⟨Wb, Wc, hVb, ⟨p0, p1, p2, p3⟩, ⟨q0, q1, q2, q3⟩, hVc, hbc, hxc, -⟩ := varM wr (.string f[k].name) v1 v2 v3
            obtain ⟨ec, hec⟩ := Later.mk_ex (Ext.refl Wc)
            replace hVc := hVc.trans hec
            obtain ⟨c0, c1, c2, c3⟩ := hbc.later4
            have HXE := hide (hxc.trans ec.ext)
            have HVE := hide (HV.out.later HXE.out)
            have hmem := List.getElem_mem hlt
            have GU := hide (uses_any B f[k] ec.w _ (HRM.out.ext HVE.out.ext hB) (Nat.le_trans hB HVE.out.ext.size) (HIT.out _ hmem))
            have hul := uses_len f[k] (HIT.out _ hmem)
            clear hC hbc hxc hec HV HRM HROW
            by_cases hex : ∃ s, s ∈ usesM f[k] ∧ ¬ s ∈ namesF f
            · have FIN := hide (ok_71 ALL.out (fun h => by obtain ⟨s, h1, h2⟩ := hex; exact h2 (h _ hmem s h1)))
              clear hmem
              generalize f[k] = x at *
              go_wp2_with fail
              go_at_call 16
              refine GU.out.mono ?_
              rintro _ w2 ⟨v, rfl, hown, hx⟩
              have HV2 := hide (HVE.out.later hx)
              have GC := hide (containsS_any 35 enters_not2 (fun s => ¬ s ∈ namesF f) (.pointer (some ⟨W2.heap.size, 0, none⟩)) (usesM x) w2
                (fun y _ w' hw' => not2_any (fun s => s ∈ namesF f) y ⟨W2.heap.size, 0, none⟩ w1.heap.size w' (hw'.at_ HV2.out.dbk.get1) (HV2.out.set.kept hw'.gr (by simp))) v (SStr.of_row hown) (by omega))
              rw [yes_iff.2 hex] at GC
              clear hown hx GU hex
              go_wp2_with fail
              go_at_call 34
              refine GC.out.mono ?_
              rintro _ w3 ⟨rfl, hx3⟩
              have HX3 := hide (HV2.out.ext.trans hx3)
              clear hx3
              go_wp2_with fail
              go_ret
              exact ⟨by rw [FIN.out]; rfl, HX3.out⟩
            · have SUS := hide (show ∀ m, m ∈ f.take (k + 1) → ∀ s, s ∈ usesM m → s ∈ namesF f from fun m hm s hs => by
                rw [List.take_succ_eq_append_getElem hlt] at hm
                rcases List.mem_append.1 hm with h | h
                · exact HUS.out m h s hs
                · rw [List.mem_singleton.1 h] at hs
                  exact Classical.byContradiction fun hc => hex ⟨s, hs, hc⟩)
              clear hmem HUS
              generalize f[k] = x at *
              go_wp2_with fail
              go_at_call 16
              refine GU.out.mono ?_
              rintro _ w2 ⟨v, rfl, hown, hx⟩
              have HV2 := hide (HVE.out.later hx)
              have GC := hide (containsS_any 35 enters_not2 (fun s => ¬ s ∈ namesF f) (.pointer (some ⟨W2.heap.size, 0, none⟩)) (usesM x) w2
                (fun y _ w' hw' => not2_any (fun s => s ∈ namesF f) y ⟨W2.heap.size, 0, none⟩ w1.heap.size w' (hw'.at_ HV2.out.dbk.get1) (HV2.out.set.kept hw'.gr (by simp))) v (SStr.of_row hown) (by omega))
              rw [yes_no.2 hex] at GC
              clear hown hx GU hex
              go_wp2_with fail
              go_at_call 34
              refine GC.out.mono ?_
              rintro _ w3 ⟨rfl, hx3⟩
              have HV3 := hide (HV2.out.later hx3)
              clear hx3
              go_wp2_with fail
              go_roundw
              case rel => exact ⟨k + 1, by omega, by go_num, HV3.out, SUS.out⟩
              case measure => simp [intOf]; omega
          · have hkl : k = f.length := by omega
            subst hkl
            obtain ⟨wz, hwz⟩ : ∃ wz, wz = wr := ⟨_, rfl⟩
            subst hwz
            rw [List.take_length] at HUS
            have FIN := hide (ok_end ALL.out HUS.out)
            have y1 := fun e : Later wz => e.ext.at_ HV.out.fbk.get1
            have GO := hide (fun e : Later wz => order_any B f e.w _ (HS.out.extRM (HV.out.ext.trans e.ext) hB) (Nat.le_trans hB (HV.out.ext.trans e.ext).size) (by omega) HIT.out)
            have hol := (orderF_end f).1.le
            clear ALL HUS
            go_wp2_with fail
            refine wp_region_facts_g (W := wz) (chkF (.slice a f.length cap) w.heap.size (orderF f).length f.length) (by kernel_rfl) (by kernel_rfl) ?_ (Ext.refl _) (fun i v w w' h hx => chkF_ext h hx) ?_ ?_
            · simp [GuardsMet, chkF]
            · refine ⟨?_, ?_, ?_, ?_, ?_, ?_, ?_, trivial⟩
              · intro A wa hxa hd h0
                obtain ⟨ea, rfl⟩ := Later.mk_ex hxa
                have r1 := rest_at h0 1 (by kernel_rfl)
                simp at r1
                clear hd h0
                go_simp
                first | exact ⟨_, rfl, Ext.refl _, rfl⟩ | exact ⟨Ext.refl _, rfl⟩ | exact rfl | exact ⟨_, rfl, rfl⟩
              · intro A wa hxa hd h0
                obtain ⟨ea, rfl⟩ := Later.mk_ex hxa
                have q0 := depOn hd 0 47 (by kernel_rfl) rfl
                simp [chkF] at q0
                clear hd h0
                go_simp
                refine (GO.out ea).mono ?_
                rintro e w2 ⟨v, rfl, hown, hx⟩
                obtain ⟨va, vc, rfl⟩ := row_slice_n hown
                go_simp
                first | exact ⟨_, rfl, hx, ⟨va, vc, rfl⟩⟩ | exact ⟨hx, ⟨va, vc, rfl⟩⟩ | exact ⟨va, vc, rfl⟩ | exact ⟨_, rfl, ⟨va, vc, rfl⟩⟩
              · intro A wa hxa hd h0
                obtain ⟨ea, rfl⟩ := Later.mk_ex hxa
                obtain ⟨qa, qc, q1⟩ := depOn hd 1 48 (by kernel_rfl) rfl
                simp at q1
                clear hd h0
                go_simp
                first | exact ⟨_, rfl, Ext.refl _, rfl⟩ | exact ⟨Ext.refl _, rfl⟩ | exact rfl | exact ⟨_, rfl, rfl⟩
              · intro A wa hxa hd h0
                obtain ⟨ea, rfl⟩ := Later.mk_ex hxa
                have r1 := rest_at h0 1 (by kernel_rfl)
                simp at r1
                clear hd h0
                go_simp
                first | exact ⟨_, rfl, Ext.refl _, rfl⟩ | exact ⟨Ext.refl _, rfl⟩ | exact rfl | exact ⟨_, rfl, rfl⟩
              · intro A wa hxa hd h0
                obtain ⟨ea, rfl⟩ := Later.mk_ex hxa
                have q3 := depOn hd 3 50 (by kernel_rfl) rfl
                simp [chkF] at q3
                clear hd h0
                go_simp
                first | exact ⟨_, rfl, Ext.refl _, rfl⟩ | exact ⟨Ext.refl _, rfl⟩ | exact rfl | exact ⟨_, rfl, rfl⟩
              · intro A wa hxa hd h0
                obtain ⟨ea, rfl⟩ := Later.mk_ex hxa
                have q4 := depOn hd 4 51 (by kernel_rfl) rfl
                simp [chkF] at q4
                clear hd h0
                go_simp
                first | exact ⟨_, rfl, Ext.refl _, rfl⟩ | exact ⟨Ext.refl _, rfl⟩ | exact rfl | exact ⟨_, rfl, rfl⟩
              · intro A wa hxa hd h0
                obtain ⟨ea, rfl⟩ := Later.mk_ex hxa
                have q2 := depOn hd 2 49 (by kernel_rfl) rfl
                simp [chkF] at q2
                have q5 := depOn hd 5 52 (by kernel_rfl) rfl
                simp [chkF] at q5
                clear hd h0
                go_simp
                first | exact ⟨_, rfl, Ext.refl _, rfl⟩ | exact ⟨Ext.refl _, rfl⟩ | exact rfl | exact ⟨_, rfl, rfl⟩
            · intro A wa hk
              obtain ⟨hxa, hsz, hdf, hdn, hrs⟩ := hk
              obtain ⟨ea, rfl⟩ := Later.mk_ex hxa
              have k53 : A.tmps.getD 53 undef = .bool (decide ((orderF f).length < f.length)) := hdn 6 53 rfl rfl
              clear hdn hrs
              rw [act_lit hsz hdf]
              simp [List.range, List.range.loop] at k53
              simp [List.range, List.range.loop, k53]
              clear k53 hsz hdf
              generalize A.tmps[0]?.getD undef = A0 at *
              generalize A.tmps[1]?.getD undef = A1 at *
              generalize A.tmps[2]?.getD undef = A2 at *
              generalize A.tmps[3]?.getD undef = A3 at *
              generalize A.tmps[4]?.getD undef = A4 at *
              generalize A.tmps[5]?.getD undef = A5 at *
              generalize A.tmps[6]?.getD undef = A6 at *
              generalize A.tmps[7]?.getD undef = A7 at *
              generalize A.tmps[8]?.getD undef = A8 at *
              generalize A.tmps[9]?.getD undef = A9 at *
              generalize A.tmps[10]?.getD undef = A10 at *
              generalize A.tmps[11]?.getD undef = A11 at *
              generalize A.tmps[12]?.getD undef = A12 at *
              generalize A.tmps[13]?.getD undef = A13 at *
              generalize A.tmps[14]?.getD undef = A14 at *
              generalize A.tmps[15]?.getD undef = A15 at *
              generalize A.tmps[16]?.getD undef = A16 at *
              generalize A.tmps[17]?.getD undef = A17 at *
              generalize A.tmps[18]?.getD undef = A18 at *
              generalize A.tmps[19]?.getD undef = A19 at *
              generalize A.tmps[20]?.getD undef = A20 at *
              generalize A.tmps[21]?.getD undef = A21 at *
              generalize A.tmps[22]?.getD undef = A22 at *
              generalize A.tmps[23]?.getD undef = A23 at *
              generalize A.tmps[24]?.getD undef = A24 at *
              generalize A.tmps[25]?.getD undef = A25 at *
              generalize A.tmps[26]?.getD undef = A26 at *
              generalize A.tmps[27]?.getD undef = A27 at *
              generalize A.tmps[28]?.getD undef = A28 at *
              generalize A.tmps[29]?.getD undef = A29 at *
              generalize A.tmps[30]?.getD undef = A30 at *
              generalize A.tmps[31]?.getD undef = A31 at *
              generalize A.tmps[32]?.getD undef = A32 at *
              generalize A.tmps[33]?.getD undef = A33 at *
              generalize A.tmps[34]?.getD undef = A34 at *
              generalize A.tmps[35]?.getD undef = A35 at *
              generalize A.tmps[36]?.getD undef = A36 at *
              generalize A.tmps[37]?.getD undef = A37 at *
              generalize A.tmps[38]?.getD undef = A38 at *
              generalize A.tmps[39]?.getD undef = A39 at *
              generalize A.tmps[40]?.getD undef = A40 at *
              generalize A.tmps[41]?.getD undef = A41 at *
              generalize A.tmps[42]?.getD undef = A42 at *
              generalize A.tmps[43]?.getD undef = A43 at *
              generalize A.tmps[44]?.getD undef = A44 at *
              generalize A.tmps[45]?.getD undef = A45 at *
              generalize A.tmps[46]?.getD undef = A46 at *
              generalize A.tmps[47]?.getD undef = A47 at *
              generalize A.tmps[48]?.getD undef = A48 at *
              generalize A.tmps[49]?.getD undef = A49 at *
              generalize A.tmps[50]?.getD undef = A50 at *
              generalize A.tmps[51]?.getD undef = A51 at *
              generalize A.tmps[52]?.getD undef = A52 at *
              by_cases hlt2 : (orderF f).length < f.length
              · have hd : decide ((orderF f).length < f.length) = true := decide_eq_true hlt2
                have FN2 := hide (show namesOk f = 72 by rw [FIN.out, if_pos hlt2])
                rw [hd]
                clear hlt2 hd hlt hk
                go_wp2_with fail
                go_ret
                exact ⟨by rw [FN2.out]; rfl, HV.out.ext.trans (Later.ext _)⟩
              · have hd : decide ((orderF f).length < f.length) = false := decide_eq_false hlt2
                have FN2 := hide (show namesOk f = 0 by rw [FIN.out, if_neg hlt2])
                rw [hd]
                clear hlt2 hd hlt hk
                go_wp2_with fail
                go_ret
                exact ⟨by rw [FN2.out]; rfl, HV.out.ext.trans (Later.ext _)⟩
  · have hN : checkN f = checkF f := by unfold checkN; rw [if_neg hc0]
    rw [hN]
    have hne : (checkF f != 0) = true := by simpa using hc0
    obtain ⟨c, hc⟩ : ∃ c, c = checkF f := ⟨_, rfl⟩
    rw [← hc] at hne GC ⊢
    clear hN hc0 hc
    go_enter Tryz.func10, Tryz.ntmps10
    go_wp2_with fail
    go_at_call 32
    refine GC.out.mono ?_
    rintro _ w1 ⟨rfl, hx⟩
    have FX := hide (HX1.out.trans hx)
    clear hx GC HX1 HB1
    go_wp2_with fail
    go_ret
    exact ⟨rfl, FX.out⟩

end Go.Proofs.YtjoglnjpgkobeaaGreatDoor
