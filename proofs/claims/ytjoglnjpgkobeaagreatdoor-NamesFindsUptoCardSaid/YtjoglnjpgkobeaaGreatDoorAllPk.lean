/-
  THE CONTRACTS OF PACKAGE ast's 'all': is it so of all?
-/
import Derived.Test.YtjoglnjpgkobeaaGreatDoorTabPk
namespace Go.Proofs.YtjoglnjpgkobeaaGreatDoor
open Go Go.RowKit
set_option linter.all false
set_option linter.unusedVariables false
set_option linter.unusedSimpArgs false
set_option linter.unusedVariables false
set_option linter.unusedSimpArgs false
attribute [local go_sem] run_store_one

theorem all_take' {α : Type} {P : α → Prop} {l : List α} {k : Nat} (hk : k < l.length) (h : ∀ y, y ∈ l.take k → P y) (hy : P l[k]) : ∀ y, y ∈ l.take (k + 1) → P y := by
  intro y hm
  rw [List.take_succ_eq_append_getElem hk, List.mem_append] at hm
  rcases hm with hm | hm
  · exact h y hm
  · simp at hm; subst hm; exact hy

set_option maxRecDepth 20000 in
set_option maxHeartbeats 1000000 in
theorem allX_any (f : Nat) (hcall : Enters Tryz.prog f) (P : X → Prop) (B : Nat) (l : List X) (w : World) (hf : ∀ x, x ∈ l → ∀ (w' : World) (cs : List Value), Ext w w' → RX w' B x cs → B ≤ w'.heap.size →
      Calls Tryz.prog f #[.agg cs.toArray] w' fun e w'' => e = .returned (.bool (yes (P x))) ∧ Ext w' w'')
    (v : Value) (hS : Sl (RX w B) w B 6 l v) (hB : B ≤ w.heap.size) (hsz : l.length ≤ 1000000000) :
    Calls Tryz.prog 91 #[v, .func (.func f) #[] #[]] w fun e w' => e = .returned (.bool (yes (∀ x, x ∈ l → P x))) ∧ Ext w w' := by
  obtain ⟨a, cap, rfl, hcap, hrow⟩ := hS
  have HF := hide hf
  have hcf := hcall.out
  clear hf hcall
  go_enter Tryz.func91, Tryz.ntmps91
  go_wp2_with fail
  go_loopw [9] (fun i wr => ∃ k : Nat, k ≤ l.length ∧ i = .int .i64 k ∧ (∀ y, y ∈ l.take k → P y) ∧ Ext w wr) (fun i _ => l.length - (intOf i).toNat)
  case atStart => exact ⟨0, Nat.zero_le _, rfl, fun y hy => by simp at hy, Ext.refl _⟩
  case round =>
    obtain ⟨k, hk, rfl, hpre, hx⟩ := hrel
    by_cases hlt : k < l.length
    · have hfk := hide (HF.out l[k] (List.getElem_mem hlt))
      obtain ⟨b, o, v0, v1, v2, v3, v4, v5, rfl, hbB, hR, hC, o0, o1, o2, o3, o4, o5⟩ := hrow.open6 hlt
      obtain ⟨d0, d1, d2, d3, d4, d5⟩ := (hC.ext hx).get6
      have hyes := hide (fun h => all_take' hlt hpre h)
      have hno := hide (fun (h : ¬ P l[k]) => yes_no.2 (fun (ha : ∀ x, x ∈ l → P x) => h (ha _ (List.getElem_mem hlt))))
      have hRx := hide (hR.ext hx hB)
      clear hC hrow hR hpre HF
      generalize l[k] = y at *
      obtain ⟨W1, hW1, hx1, hb1⟩ := box6 wr v0 v1 v2 v3 v4 v5 49
      have hV1 := hW1.symm
      obtain ⟨c0, c1, c2, c3, c4, c5⟩ := hb1.get6
      have hxw := hx.trans hx1
      have hBw : B ≤ W1.heap.size := by have := hxw.size; omega
      have hBr : B ≤ wr.heap.size := by have := hx.size; omega
      clear hb1 hW1
      go_wp2_with fail
      refine (hfk.out _ _ hxw (hRx.out.ext hx1 hBr) hBw).mono ?_
      rintro e w1 ⟨rfl, hy⟩
      have hx9 := hxw.trans hy
      by_cases hq : P y
      · rw [yes_iff.2 hq]
        have hn := hide (hyes.out hq)
        go_wp2_with fail
        go_roundw
        case rel => exact ⟨k + 1, by omega, by go_num, hn.out, hx9⟩
        case measure => simp [intOf]; omega
      · rw [yes_no.2 hq]
        have hn := hide (hno.out hq)
        go_wp2_with fail
        go_ret
        exact ⟨by rw [hn.out]; rfl, hx9⟩
    · have : k = l.length := by omega
      subst this
      have hfull := hide (yes_iff.2 (show ∀ x, x ∈ l → P x by rw [List.take_length] at hpre; exact hpre))
      clear hpre
      go_wp2_with fail
      go_ret
      exact ⟨by rw [hfull.out]; rfl, hx⟩

set_option maxRecDepth 20000 in
set_option maxHeartbeats 1000000 in
theorem allS_any (f : Nat) (hcall : Enters Tryz.prog f) (P : S → Prop) (B : Nat) (l : List S) (w : World) (hf : ∀ x, x ∈ l → ∀ (w' : World) (cs : List Value), Ext w w' → RS w' B x cs → B ≤ w'.heap.size →
      Calls Tryz.prog f #[.agg cs.toArray] w' fun e w'' => e = .returned (.bool (yes (P x))) ∧ Ext w' w'')
    (v : Value) (hS : Sl (RS w B) w B 4 l v) (hB : B ≤ w.heap.size) (hsz : l.length ≤ 1000000000) :
    Calls Tryz.prog 127 #[v, .func (.func f) #[] #[]] w fun e w' => e = .returned (.bool (yes (∀ x, x ∈ l → P x))) ∧ Ext w w' := by
  obtain ⟨a, cap, rfl, hcap, hrow⟩ := hS
  have HF := hide hf
  have hcf := hcall.out
  clear hf hcall
  go_enter Tryz.func127, Tryz.ntmps127
  go_wp2_with fail
  go_loopw [9] (fun i wr => ∃ k : Nat, k ≤ l.length ∧ i = .int .i64 k ∧ (∀ y, y ∈ l.take k → P y) ∧ Ext w wr) (fun i _ => l.length - (intOf i).toNat)
  case atStart => exact ⟨0, Nat.zero_le _, rfl, fun y hy => by simp at hy, Ext.refl _⟩
  case round =>
    obtain ⟨k, hk, rfl, hpre, hx⟩ := hrel
    by_cases hlt : k < l.length
    · have hfk := hide (HF.out l[k] (List.getElem_mem hlt))
      obtain ⟨b, o, v0, v1, v2, v3, rfl, hbB, hR, hC, o0, o1, o2, o3⟩ := hrow.open4 hlt
      obtain ⟨d0, d1, d2, d3⟩ := (hC.ext hx).get4
      have hyes := hide (fun h => all_take' hlt hpre h)
      have hno := hide (fun (h : ¬ P l[k]) => yes_no.2 (fun (ha : ∀ x, x ∈ l → P x) => h (ha _ (List.getElem_mem hlt))))
      have hRx := hide (hR.ext hx hB)
      clear hC hrow hR hpre HF
      generalize l[k] = y at *
      obtain ⟨W1, hW1, hx1, hb1⟩ := box4 wr v0 v1 v2 v3 140
      have hV1 := hW1.symm
      obtain ⟨c0, c1, c2, c3⟩ := hb1.get4
      have hxw := hx.trans hx1
      have hBw : B ≤ W1.heap.size := by have := hxw.size; omega
      have hBr : B ≤ wr.heap.size := by have := hx.size; omega
      clear hb1 hW1
      go_wp2_with fail
      refine (hfk.out _ _ hxw (hRx.out.ext hx1 hBr) hBw).mono ?_
      rintro e w1 ⟨rfl, hy⟩
      have hx9 := hxw.trans hy
      by_cases hq : P y
      · rw [yes_iff.2 hq]
        have hn := hide (hyes.out hq)
        go_wp2_with fail
        go_roundw
        case rel => exact ⟨k + 1, by omega, by go_num, hn.out, hx9⟩
        case measure => simp [intOf]; omega
      · rw [yes_no.2 hq]
        have hn := hide (hno.out hq)
        go_wp2_with fail
        go_ret
        exact ⟨by rw [hn.out]; rfl, hx9⟩
    · have : k = l.length := by omega
      subst this
      have hfull := hide (yes_iff.2 (show ∀ x, x ∈ l → P x by rw [List.take_length] at hpre; exact hpre))
      clear hpre
      go_wp2_with fail
      go_ret
      exact ⟨by rw [hfull.out]; rfl, hx⟩

set_option maxRecDepth 20000 in
set_option maxHeartbeats 1000000 in
theorem allBnd_any (f : Nat) (hcall : Enters Tryz.prog f) (P : Bnd → Prop) (B : Nat) (l : List Bnd) (w : World) (hf : ∀ x, x ∈ l → ∀ (w' : World) (cs : List Value), Ext w w' → RB w' B x cs → B ≤ w'.heap.size →
      Calls Tryz.prog f #[.agg cs.toArray] w' fun e w'' => e = .returned (.bool (yes (P x))) ∧ Ext w' w'')
    (v : Value) (hS : Sl (RB w B) w B 7 l v) (hB : B ≤ w.heap.size) (hsz : l.length ≤ 1000000000) :
    Calls Tryz.prog 106 #[v, .func (.func f) #[] #[]] w fun e w' => e = .returned (.bool (yes (∀ x, x ∈ l → P x))) ∧ Ext w w' := by
  obtain ⟨a, cap, rfl, hcap, hrow⟩ := hS
  have HF := hide hf
  have hcf := hcall.out
  clear hf hcall
  go_enter Tryz.func106, Tryz.ntmps106
  go_wp2_with fail
  go_loopw [9] (fun i wr => ∃ k : Nat, k ≤ l.length ∧ i = .int .i64 k ∧ (∀ y, y ∈ l.take k → P y) ∧ Ext w wr) (fun i _ => l.length - (intOf i).toNat)
  case atStart => exact ⟨0, Nat.zero_le _, rfl, fun y hy => by simp at hy, Ext.refl _⟩
  case round =>
    obtain ⟨k, hk, rfl, hpre, hx⟩ := hrel
    by_cases hlt : k < l.length
    · have hfk := hide (HF.out l[k] (List.getElem_mem hlt))
      obtain ⟨b, o, v0, v1, v2, v3, v4, v5, v6, rfl, hbB, hR, hC, o0, o1, o2, o3, o4, o5, o6⟩ := hrow.open7 hlt
      obtain ⟨d0, d1, d2, d3, d4, d5, d6⟩ := (hC.ext hx).get7
      have hyes := hide (fun h => all_take' hlt hpre h)
      have hno := hide (fun (h : ¬ P l[k]) => yes_no.2 (fun (ha : ∀ x, x ∈ l → P x) => h (ha _ (List.getElem_mem hlt))))
      have hRx := hide (hR.ext hx hB)
      clear hC hrow hR hpre HF
      generalize l[k] = y at *
      obtain ⟨W1, hW1, hx1, hb1⟩ := box7 wr v0 v1 v2 v3 v4 v5 v6 85
      have hV1 := hW1.symm
      obtain ⟨c0, c1, c2, c3, c4, c5, c6⟩ := hb1.get7
      have hxw := hx.trans hx1
      have hBw : B ≤ W1.heap.size := by have := hxw.size; omega
      have hBr : B ≤ wr.heap.size := by have := hx.size; omega
      clear hb1 hW1
      go_wp2_with fail
      refine (hfk.out _ _ hxw (hRx.out.ext hx1 hBr) hBw).mono ?_
      rintro e w1 ⟨rfl, hy⟩
      have hx9 := hxw.trans hy
      by_cases hq : P y
      · rw [yes_iff.2 hq]
        have hn := hide (hyes.out hq)
        go_wp2_with fail
        go_roundw
        case rel => exact ⟨k + 1, by omega, by go_num, hn.out, hx9⟩
        case measure => simp [intOf]; omega
      · rw [yes_no.2 hq]
        have hn := hide (hno.out hq)
        go_wp2_with fail
        go_ret
        exact ⟨by rw [hn.out]; rfl, hx9⟩
    · have : k = l.length := by omega
      subst this
      have hfull := hide (yes_iff.2 (show ∀ x, x ∈ l → P x by rw [List.take_length] at hpre; exact hpre))
      clear hpre
      go_wp2_with fail
      go_ret
      exact ⟨by rw [hfull.out]; rfl, hx⟩

set_option maxRecDepth 20000 in
set_option maxHeartbeats 1000000 in
theorem allPrt_any (f : Nat) (hcall : Enters Tryz.prog f) (P : Prt → Prop) (B : Nat) (l : List Prt) (w : World) (hf : ∀ x, x ∈ l → ∀ (w' : World) (cs : List Value), Ext w w' → RP w' B x cs → B ≤ w'.heap.size →
      Calls Tryz.prog f #[.agg cs.toArray] w' fun e w'' => e = .returned (.bool (yes (P x))) ∧ Ext w' w'')
    (v : Value) (hS : Sl (RP w B) w B 8 l v) (hB : B ≤ w.heap.size) (hsz : l.length ≤ 1000000000) :
    Calls Tryz.prog 108 #[v, .func (.func f) #[] #[]] w fun e w' => e = .returned (.bool (yes (∀ x, x ∈ l → P x))) ∧ Ext w w' := by
  obtain ⟨a, cap, rfl, hcap, hrow⟩ := hS
  have HF := hide hf
  have hcf := hcall.out
  clear hf hcall
  go_enter Tryz.func108, Tryz.ntmps108
  go_wp2_with fail
  go_loopw [9] (fun i wr => ∃ k : Nat, k ≤ l.length ∧ i = .int .i64 k ∧ (∀ y, y ∈ l.take k → P y) ∧ Ext w wr) (fun i _ => l.length - (intOf i).toNat)
  case atStart => exact ⟨0, Nat.zero_le _, rfl, fun y hy => by simp at hy, Ext.refl _⟩
  case round =>
    obtain ⟨k, hk, rfl, hpre, hx⟩ := hrel
    by_cases hlt : k < l.length
    · have hfk := hide (HF.out l[k] (List.getElem_mem hlt))
      obtain ⟨b, o, v0, v1, v2, v3, v4, v5, v6, v7, rfl, hbB, hR, hC, o0, o1, o2, o3, o4, o5, o6, o7⟩ := hrow.open8 hlt
      obtain ⟨d0, d1, d2, d3, d4, d5, d6, d7⟩ := (hC.ext hx).get8
      have hyes := hide (fun h => all_take' hlt hpre h)
      have hno := hide (fun (h : ¬ P l[k]) => yes_no.2 (fun (ha : ∀ x, x ∈ l → P x) => h (ha _ (List.getElem_mem hlt))))
      have hRx := hide (hR.ext hx hB)
      clear hC hrow hR hpre HF
      generalize l[k] = y at *
      obtain ⟨W1, hW1, hx1, hb1⟩ := box8 wr v0 v1 v2 v3 v4 v5 v6 v7 83
      have hV1 := hW1.symm
      obtain ⟨c0, c1, c2, c3, c4, c5, c6, c7⟩ := hb1.get8
      have hxw := hx.trans hx1
      have hBw : B ≤ W1.heap.size := by have := hxw.size; omega
      have hBr : B ≤ wr.heap.size := by have := hx.size; omega
      clear hb1 hW1
      go_wp2_with fail
      refine (hfk.out _ _ hxw (hRx.out.ext hx1 hBr) hBw).mono ?_
      rintro e w1 ⟨rfl, hy⟩
      have hx9 := hxw.trans hy
      by_cases hq : P y
      · rw [yes_iff.2 hq]
        have hn := hide (hyes.out hq)
        go_wp2_with fail
        go_roundw
        case rel => exact ⟨k + 1, by omega, by go_num, hn.out, hx9⟩
        case measure => simp [intOf]; omega
      · rw [yes_no.2 hq]
        have hn := hide (hno.out hq)
        go_wp2_with fail
        go_ret
        exact ⟨by rw [hn.out]; rfl, hx9⟩
    · have : k = l.length := by omega
      subst this
      have hfull := hide (yes_iff.2 (show ∀ x, x ∈ l → P x by rw [List.take_length] at hpre; exact hpre))
      clear hpre
      go_wp2_with fail
      go_ret
      exact ⟨by rw [hfull.out]; rfl, hx⟩

set_option maxRecDepth 20000 in
set_option maxHeartbeats 1000000 in
theorem allItm_any (f : Nat) (hcall : Enters Tryz.prog f) (P : Itm → Prop) (B : Nat) (l : List Itm) (w : World) (hf : ∀ x, x ∈ l → ∀ (w' : World) (cs : List Value), Ext w w' → RI w' B x cs → B ≤ w'.heap.size →
      Calls Tryz.prog f #[.agg cs.toArray] w' fun e w'' => e = .returned (.bool (yes (P x))) ∧ Ext w' w'')
    (v : Value) (hS : Sl (RI w B) w B 9 l v) (hB : B ≤ w.heap.size) (hsz : l.length ≤ 1000000000) :
    Calls Tryz.prog 109 #[v, .func (.func f) #[] #[]] w fun e w' => e = .returned (.bool (yes (∀ x, x ∈ l → P x))) ∧ Ext w w' := by
  obtain ⟨a, cap, rfl, hcap, hrow⟩ := hS
  have HF := hide hf
  have hcf := hcall.out
  clear hf hcall
  go_enter Tryz.func109, Tryz.ntmps109
  go_wp2_with fail
  go_loopw [9] (fun i wr => ∃ k : Nat, k ≤ l.length ∧ i = .int .i64 k ∧ (∀ y, y ∈ l.take k → P y) ∧ Ext w wr) (fun i _ => l.length - (intOf i).toNat)
  case atStart => exact ⟨0, Nat.zero_le _, rfl, fun y hy => by simp at hy, Ext.refl _⟩
  case round =>
    obtain ⟨k, hk, rfl, hpre, hx⟩ := hrel
    by_cases hlt : k < l.length
    · have hfk := hide (HF.out l[k] (List.getElem_mem hlt))
      obtain ⟨b, o, v0, v1, v2, v3, v4, v5, v6, v7, v8, rfl, hbB, hR, hC, o0, o1, o2, o3, o4, o5, o6, o7, o8⟩ := hrow.open9 hlt
      obtain ⟨d0, d1, d2, d3, d4, d5, d6, d7, d8⟩ := (hC.ext hx).get9
      have hyes := hide (fun h => all_take' hlt hpre h)
      have hno := hide (fun (h : ¬ P l[k]) => yes_no.2 (fun (ha : ∀ x, x ∈ l → P x) => h (ha _ (List.getElem_mem hlt))))
      have hRx := hide (hR.ext hx hB)
      clear hC hrow hR hpre HF
      generalize l[k] = y at *
      obtain ⟨W1, hW1, hx1, hb1⟩ := box9 wr v0 v1 v2 v3 v4 v5 v6 v7 v8 53
      have hV1 := hW1.symm
      obtain ⟨c0, c1, c2, c3, c4, c5, c6, c7, c8⟩ := hb1.get9
      have hxw := hx.trans hx1
      have hBw : B ≤ W1.heap.size := by have := hxw.size; omega
      have hBr : B ≤ wr.heap.size := by have := hx.size; omega
      clear hb1 hW1
      go_wp2_with fail
      refine (hfk.out _ _ hxw (hRx.out.ext hx1 hBr) hBw).mono ?_
      rintro e w1 ⟨rfl, hy⟩
      have hx9 := hxw.trans hy
      by_cases hq : P y
      · rw [yes_iff.2 hq]
        have hn := hide (hyes.out hq)
        go_wp2_with fail
        go_roundw
        case rel => exact ⟨k + 1, by omega, by go_num, hn.out, hx9⟩
        case measure => simp [intOf]; omega
      · rw [yes_no.2 hq]
        have hn := hide (hno.out hq)
        go_wp2_with fail
        go_ret
        exact ⟨by rw [hn.out]; rfl, hx9⟩
    · have : k = l.length := by omega
      subst this
      have hfull := hide (yes_iff.2 (show ∀ x, x ∈ l → P x by rw [List.take_length] at hpre; exact hpre))
      clear hpre
      go_wp2_with fail
      go_ret
      exact ⟨by rw [hfull.out]; rfl, hx⟩

set_option maxRecDepth 20000 in
set_option maxHeartbeats 1000000 in
theorem allMdl_any (f : Nat) (hcall : Enters Tryz.prog f) (P : Mdl → Prop) (B : Nat) (l : List Mdl) (w : World) (hf : ∀ x, x ∈ l → ∀ (w' : World) (cs : List Value), Ext w w' → RM w' B x cs → B ≤ w'.heap.size →
      Calls Tryz.prog f #[.agg cs.toArray] w' fun e w'' => e = .returned (.bool (yes (P x))) ∧ Ext w' w'')
    (v : Value) (hS : Sl (RM w B) w B 4 l v) (hB : B ≤ w.heap.size) (hsz : l.length ≤ 1000000000) :
    Calls Tryz.prog 68 #[v, .func (.func f) #[] #[]] w fun e w' => e = .returned (.bool (yes (∀ x, x ∈ l → P x))) ∧ Ext w w' := by
  obtain ⟨a, cap, rfl, hcap, hrow⟩ := hS
  have HF := hide hf
  have hcf := hcall.out
  clear hf hcall
  go_enter Tryz.func68, Tryz.ntmps68
  go_wp2_with fail
  go_loopw [9] (fun i wr => ∃ k : Nat, k ≤ l.length ∧ i = .int .i64 k ∧ (∀ y, y ∈ l.take k → P y) ∧ Ext w wr) (fun i _ => l.length - (intOf i).toNat)
  case atStart => exact ⟨0, Nat.zero_le _, rfl, fun y hy => by simp at hy, Ext.refl _⟩
  case round =>
    obtain ⟨k, hk, rfl, hpre, hx⟩ := hrel
    by_cases hlt : k < l.length
    · have hfk := hide (HF.out l[k] (List.getElem_mem hlt))
      obtain ⟨b, o, v0, v1, v2, v3, rfl, hbB, hR, hC, o0, o1, o2, o3⟩ := hrow.open4 hlt
      obtain ⟨d0, d1, d2, d3⟩ := (hC.ext hx).get4
      have hyes := hide (fun h => all_take' hlt hpre h)
      have hno := hide (fun (h : ¬ P l[k]) => yes_no.2 (fun (ha : ∀ x, x ∈ l → P x) => h (ha _ (List.getElem_mem hlt))))
      have hRx := hide (hR.ext hx hB)
      clear hC hrow hR hpre HF
      generalize l[k] = y at *
      obtain ⟨W1, hW1, hx1, hb1⟩ := box4 wr v0 v1 v2 v3 33
      have hV1 := hW1.symm
      obtain ⟨c0, c1, c2, c3⟩ := hb1.get4
      have hxw := hx.trans hx1
      have hBw : B ≤ W1.heap.size := by have := hxw.size; omega
      have hBr : B ≤ wr.heap.size := by have := hx.size; omega
      clear hb1 hW1
      go_wp2_with fail
      refine (hfk.out _ _ hxw (hRx.out.ext hx1 hBr) hBw).mono ?_
      rintro e w1 ⟨rfl, hy⟩
      have hx9 := hxw.trans hy
      by_cases hq : P y
      · rw [yes_iff.2 hq]
        have hn := hide (hyes.out hq)
        go_wp2_with fail
        go_roundw
        case rel => exact ⟨k + 1, by omega, by go_num, hn.out, hx9⟩
        case measure => simp [intOf]; omega
      · rw [yes_no.2 hq]
        have hn := hide (hno.out hq)
        go_wp2_with fail
        go_ret
        exact ⟨by rw [hn.out]; rfl, hx9⟩
    · have : k = l.length := by omega
      subst this
      have hfull := hide (yes_iff.2 (show ∀ x, x ∈ l → P x by rw [List.take_length] at hpre; exact hpre))
      clear hpre
      go_wp2_with fail
      go_ret
      exact ⟨by rw [hfull.out]; rfl, hx⟩

end Go.Proofs.YtjoglnjpgkobeaaGreatDoor
