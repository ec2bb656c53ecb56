/-
  THE CONTRACTS OF THE REFERENCE's CHECKING: kinds, numbers, values.
-/
import Derived.Test.YtonbgnaopkopoaaDoorWordPk
import Derived.Test.YtonbgnaopkopoaaDoorNamePk
namespace Go.Proofs.YtonbgnaopkopoaaDoor
open Go Go.RowKit
set_option linter.all false
set_option linter.unusedVariables false
set_option linter.unusedSimpArgs false
set_option linter.unusedVariables false
set_option linter.unusedSimpArgs false
attribute [local go_sem] run_store_one

set_option maxRecDepth 20000 in
set_option maxHeartbeats 1000000 in
theorem refnamed_any (op : Int) (w : World) : Calls Tryd.prog 78 #[.int .i64 op] w fun e w' => e = .returned (.bool (yes (isNamed op))) ∧ w' = w := by
  obtain ⟨r, hr⟩ : ∃ r, r = yes (isNamed op) := ⟨_, rfl⟩
  rw [← hr]
  have R := hide hr
  clear hr
  go_enter Tryd.func78, Tryd.ntmps78
  go_wp2_with fail
  all_goals
    go_ret
    refine ⟨?_, rfl⟩
    rw [R.out]
    refine congrArg (fun b => Ending.returned (Value.bool b)) ?_
    rw [Bool.eq_iff_iff, yes_iff]
    unfold isNamed
    simp at *
    try omega

set_option maxRecDepth 20000 in
set_option maxHeartbeats 1000000 in
theorem refparts_any (op n : Int) (w : World) : Calls Tryd.prog 80 #[.int .i64 op, .int .i64 n] w fun e w' => e = .returned (.bool (yes (partsOk op n))) ∧ w' = w := by
  obtain ⟨r, hr⟩ : ∃ r, r = yes (partsOk op n) := ⟨_, rfl⟩
  rw [← hr]
  have R := hide hr
  clear hr
  go_enter Tryd.func80, Tryd.ntmps80
  go_wp2_with fail
  all_goals
    go_ret
    refine ⟨?_, rfl⟩
    rw [R.out]
    refine congrArg (fun b => Ending.returned (Value.bool b)) ?_
    rw [Bool.eq_iff_iff, yes_iff]
    unfold partsOk
    simp at *
    try omega

set_option maxRecDepth 20000 in
set_option maxHeartbeats 1000000 in
theorem refnumber_any (op n : Int) (w : World) : Calls Tryd.prog 81 #[.int .i64 op, .int .i64 n] w fun e w' => e = .returned (.bool (yes (numOk op n))) ∧ w' = w := by
  obtain ⟨r, hr⟩ : ∃ r, r = yes (numOk op n) := ⟨_, rfl⟩
  rw [← hr]
  have R := hide hr
  clear hr
  go_enter Tryd.func81, Tryd.ntmps81
  go_wp2_with fail
  all_goals
    go_ret
    refine ⟨?_, rfl⟩
    rw [R.out]
    refine congrArg (fun b => Ending.returned (Value.bool b)) ?_
    rw [Bool.eq_iff_iff, yes_iff]
    unfold numOk
    simp at *
    try omega

theorem shr_zero (v w : Int) (hv : 0 ≤ v) : v / 2 ^ w.toNat = 0 ↔ v < 2 ^ w.toNat := by
  have hp : (0 : Int) < 2 ^ w.toNat := Int.pow_pos (by decide)
  generalize (2 : Int) ^ w.toNat = p at *
  constructor
  · intro h
    have h1 := Int.emod_add_mul_ediv v p
    have h2 := Int.emod_lt_of_pos v hp
    rw [h] at h1
    omega
  · exact fun h => Int.ediv_eq_zero_of_lt hv h
set_option maxRecDepth 20000 in
set_option maxHeartbeats 1000000 in
theorem refvalue_any (op n wd xv : Int) (nm : ByteArray) (v : Value) (hv : 0 ≤ xv) (hv2 : xv < 18446744073709551616) (o : v.oneCell' = true) (w : World) :
    Calls Tryd.prog 82 #[.agg #[.int .i64 op, .string nm, .int .i64 n, .int .i64 wd, .int .u64 xv, v]] w fun e w' => e = .returned (.bool (yes (valOk op wd xv))) ∧ Ext w w' := by
  obtain ⟨r, hr⟩ : ∃ r, r = yes (valOk op wd xv) := ⟨_, rfl⟩
  rw [← hr]
  have R := hide hr
  clear hr
  obtain ⟨W1, hW1, hx1, hb1⟩ := box6 w (.int .i64 op) (.string nm) (.int .i64 n) (.int .i64 wd) (.int .u64 xv) v 25
  have hV1 := hW1.symm
  obtain ⟨c0, c1, c2, c3, c4, c5⟩ := hb1.get6
  clear hW1 hb1
  go_enter Tryd.func82, Tryd.ntmps82
  by_cases h1 : op = 1
  · subst h1
    have hq := hide (shr_zero xv wd hv)
    go_wp2_with fail
    all_goals
      have hqo := hq.out
      go_ret
      refine ⟨?_, hx1⟩
      rw [R.out]
      refine congrArg (fun b => Ending.returned (Value.bool b)) ?_
      rw [Bool.eq_iff_iff, yes_iff]
      unfold valOk
      generalize xv / 2 ^ wd.toNat = qq at *
      generalize (2 : Int) ^ wd.toNat = pp at *
      simp at *
      try omega
  · have h1b : (op == 1) = false := by simpa using h1
    go_wp2_with fail
    all_goals
      go_ret
      refine ⟨?_, hx1⟩
      rw [R.out]
      refine congrArg (fun b => Ending.returned (Value.bool b)) ?_
      rw [Bool.eq_iff_iff, yes_iff]
      unfold valOk
      simp at *
      try omega

theorem all_take {α : Type} {P : α → Prop} {l : List α} {k : Nat} (hk : k < l.length) (h : ∀ y, y ∈ l.take k → P y) (hy : P l[k]) : ∀ y, y ∈ l.take (k + 1) → P y := by
  intro y hm
  rw [List.take_succ_eq_append_getElem hk, List.mem_append] at hm
  rcases hm with hm | hm
  · exact h y hm
  · simp at hm; subst hm; exact hy

set_option maxRecDepth 20000 in
set_option maxHeartbeats 1000000 in
theorem refmayL_of (B : Nat) (l : List X) (hf : ∀ x, x ∈ l → ∀ (w : World) (cs : List Value), RX w B x cs → B ≤ w.heap.size →
      Calls Tryd.prog 55 #[.agg cs.toArray] w fun e w' => e = .returned (.bool (yes (MayX x))) ∧ Ext w w')
    (w : World) (v : Value) (hS : Sl (RX w B) w B 6 l v) (hB : B ≤ w.heap.size) (hsz : l.length ≤ 1000000000) :
    Calls Tryd.prog 83 #[v] w fun e w' => e = .returned (.bool (yes (∀ x, x ∈ l → MayX x))) ∧ Ext w w' := by
  obtain ⟨a, cap, rfl, hcap, hrow⟩ := hS
  have HF := hide hf
  clear hf
  go_enter Tryd.func83, Tryd.ntmps83
  go_wp2_with fail
  go_loopw [3] (fun i wr => ∃ k : Nat, k ≤ l.length ∧ i = .int .i64 k ∧ (∀ y, y ∈ l.take k → MayX y) ∧ Ext w wr) (fun i _ => l.length - (intOf i).toNat)
  case atStart => exact ⟨0, Nat.zero_le _, rfl, fun y hy => by simp at hy, Ext.refl _⟩
  case round =>
    obtain ⟨k, hk, rfl, hpre, hx⟩ := hrel
    by_cases hlt : k < l.length
    · have hfk := hide (HF.out l[k] (List.getElem_mem hlt))
      obtain ⟨b, o, v0, v1, v2, v3, v4, v5, rfl, hbB, hR, hC, o0, o1, o2, o3, o4, o5⟩ := hrow.open6 hlt
      obtain ⟨d0, d1, d2, d3, d4, d5⟩ := (hC.ext hx).get6
      have hyes := hide (fun h => all_take hlt hpre h)
      have hno := hide (fun (h : ¬ MayX l[k]) => yes_no.2 (fun (ha : ∀ x, x ∈ l → MayX x) => h (ha _ (List.getElem_mem hlt))))
      have hRx := hide (hR.ext hx hB)
      clear hC hrow hR hpre
      generalize l[k] = y at *
      go_wp2_with fail
      refine (hfk.out _ _ hRx.out (by have := hx.size; omega)).mono ?_
      rintro e w1 ⟨rfl, hy⟩
      have hx9 := hx.trans hy
      by_cases hq : MayX y
      · rw [yes_iff.2 hq]
        have hn := hide (hyes.out hq)
        go_wp2_with fail
        go_roundw
        case rel => exact ⟨k + 1, by omega, by go_num, hn.out, hx9⟩
        case measure => simp [intOf]; omega
      · rw [yes_no.2 hq]
        have hn := hide (hno.out hq)
        go_wp2_with fail
        go_ret
        exact ⟨by rw [hn.out]; rfl, hx9⟩
    · have : k = l.length := by omega
      subst this
      have hfull := hide (yes_iff.2 (show ∀ x, x ∈ l → MayX x by rw [List.take_length] at hpre; exact hpre))
      clear hpre
      go_wp2_with fail
      go_ret
      exact ⟨by rw [hfull.out]; rfl, hx⟩

end Go.Proofs.YtonbgnaopkopoaaDoor

/-
  THE CONTRACT OF THE REFERENCE's CHECKING OF AN EXPRESSION.
-/
namespace Go.Proofs.YtonbgnaopkopoaaDoor
open Go Go.RowKit
set_option linter.all false
set_option linter.unusedVariables false
set_option linter.unusedSimpArgs false
set_option linter.unusedVariables false
set_option linter.unusedSimpArgs false
attribute [local go_sem] run_store_one

theorem calls_still {P : Program} {f : FuncId} {args : Array Value} {w : World} {v : Value} (h : Calls P f args w fun e w' => e = .returned v ∧ w' = w) : Calls P f args w fun e w' => e = .returned v ∧ Ext w w' :=
  h.mono fun e w' he => ⟨he.1, he.2 ▸ Ext.refl _⟩
theorem empty_size {s : ByteArray} (h : s.size = 0) : s.toList.isEmpty = true := by
  rw [ByteArray.toList_eq]
  have : s.data.toList = [] := List.eq_nil_of_length_eq_zero (by simpa using h)
  rw [this]; rfl
theorem full_size {s : ByteArray} (h : ¬ s.size = 0) : s.toList.isEmpty = false := by
  rw [ByteArray.toList_eq]
  cases e : s.data.toList with
  | nil => exact (h (by have := congrArg List.length e; simpa using this)).elim
  | cons _ _ => rfl
set_option maxRecDepth 20000 in
set_option maxHeartbeats 4000000 in
theorem refMayX_any (B : Nat) (x : X) : ∀ (w : World) (cs : List Value), RX w B x cs → B ≤ w.heap.size → sizeX x ≤ 1000000000 → VX x →
    Calls Tryd.prog 55 #[.agg cs.toArray] w fun e w' => e = .returned (.bool (yes (MayX x))) ∧ Ext w w' := by
  induction x using X.ind with
  | h x ih =>
  intro w cs hR hB hsz hvx
  obtain ⟨a5, rfl, hS⟩ := RX_iff.1 hR
  obtain ⟨hv1, hv2, hv3, hvl⟩ := VX_iff.1 hvx
  have hs0 : 1 + msize sizeX x.l ≤ 1000000000 := by rw [← sizeX_eq]; exact hsz
  have hmem := hide (fun z (hz : z ∈ x.l) => msize_mem sizeX x.l z hz)
  have hln := length_le_msize sizeX x.l sizeX_pos
  rw [yes_congr (MayX_iff (x := x))]
  unfold ownX
  have IH := hide ih
  have HS := hide hS
  have HVL := hide hvl
  have o5 := hS.oneCell
  obtain ⟨sa, scap, rfl, hsc, hsr⟩ := hS
  generalize x.op = op at *
  generalize x.name = nm at *
  generalize x.n = n at *
  generalize x.w = wd at *
  generalize x.v = xv at *
  generalize x.l = l at *
  clear hR hsz ih hsc hsr hvx hvl
  obtain ⟨r, hr⟩ : ∃ r, r = yes ((partsOk op l.length ∧ numOk op n ∧ valOk op wd xv ∧ nmOk op nm) ∧ ∀ y, y ∈ l → MayX y) := ⟨_, rfl⟩
  rw [← hr]
  have R := hide hr
  clear hr
  obtain ⟨W1, hW1, hx1, hb1⟩ := box6 w (.int .i64 op) (.string nm) (.int .i64 n) (.int .i64 wd) (.int .u64 xv) (.slice sa l.length scap) 25
  have hV1 := hW1.symm
  have hB1 : B ≤ W1.heap.size := Nat.le_trans hB hx1.size
  have HB1 := hide hb1
  obtain ⟨c0, c1, c2, c3, c4, c5⟩ := hb1.later6
  clear hW1 hb1
  have G1 := hide (fun e : Later W1 => calls_still (refnamed_any op e.w))
  have G2 := hide (fun e : Later W1 => refName_any nm e.w hv3)
  have G3 := hide (fun e : Later W1 => calls_still (refparts_any op l.length e.w))
  have G4 := hide (fun e : Later W1 => calls_still (refnumber_any op n e.w))
  have G5 := hide (fun e : Later W1 => refvalue_any op n wd xv nm (.slice sa l.length scap) hv1 hv2 o5 e.w)
  go_enter Tryd.func55, Tryd.ntmps55
  by_cases hG1 : isNamed op
  · have KG1 := hide (fun e : Later W1 => (show yes (isNamed op) = true from yes_iff.2 hG1) ▸ G1.out e)
    clear G1
    by_cases h0 : nm.size = 0
    · have hem := empty_size h0
      have hr : r = false := by rw [R.out]; exact yes_no.2 (fun ⟨⟨q1, q2, q3, q4⟩, q5⟩ => (by unfold nmOk nameP at q4; rcases q4 with q4 | q4; (· omega); exact q4.1 hG1))
      subst hr
      go_wp2_with fail
      refine wp_region_later (W := W1) (by kernel_rfl) (by kernel_rfl) (Ext.refl _) ?_
      repeat (go_big_quiet_step (first | (go_at_call 78; exact Later.calls (KG1.out _))))
      refine wpQuiet_nil ?_
      rintro _ ⟨e, rfl⟩
      go_wp2_with fail
      go_ret
      exact ⟨rfl, hx1.trans e.ext⟩
    · have hem := full_size h0
      by_cases hG2 : nameP nm
      · have KG2 := hide (fun e : Later W1 => (show nameOk nm = true from nameOk_iff.2 hG2) ▸ G2.out e)
        clear G2
        by_cases hG3 : partsOk op l.length
        · have KG3 := hide (fun e : Later W1 => (show yes (partsOk op l.length) = true from yes_iff.2 hG3) ▸ G3.out e)
          clear G3
          by_cases hG4 : numOk op n
          · have KG4 := hide (fun e : Later W1 => (show yes (numOk op n) = true from yes_iff.2 hG4) ▸ G4.out e)
            clear G4
            by_cases hG5 : valOk op wd xv
            · have KG5 := hide (fun e : Later W1 => (show yes (valOk op wd xv) = true from yes_iff.2 hG5) ▸ G5.out e)
              clear G5
              have hr := hide (R.out.trans (yes_congr (show _ ↔ (∀ y, y ∈ l → MayX y) from ⟨fun h => h.2, fun h => ⟨⟨hG3, hG4, hG5, .inl ⟨hG1, hG2⟩⟩, h⟩⟩)))
              go_wp2_with fail
              refine wp_region_later (W := W1) (by kernel_rfl) (by kernel_rfl) (Ext.refl _) ?_
              repeat (go_big_quiet_step (first | (go_at_call 78; exact Later.calls (KG1.out _)) | (go_at_call 79; exact Later.calls (KG2.out _)) | (go_at_call 80; exact Later.calls (KG3.out _)) | (go_at_call 81; exact Later.calls (KG4.out _)) | (go_at_call 82; exact Later.calls (KG5.out _))))
              refine wpQuiet_nil ?_
              rintro _ ⟨e, rfl⟩
              have c5' := c5 e
              go_wp2_with fail
              refine (refmayL_of B l (fun z hz w cs h1 h2 => IH.out z hz w cs h1 h2 (by have := hmem.out z hz; omega) (HVL.out z hz)) _ _ (HS.out.extRX (hx1.trans e.ext) hB) (Nat.le_trans hB1 e.ext.size) (by omega)).mono ?_
              rintro e2 w2 ⟨rfl, hy⟩
              rw [← hr.out]
              go_wp2_with fail
              go_ret
              exact ⟨rfl, (hx1.trans e.ext).trans hy⟩
            · have KG5 := hide (fun e : Later W1 => (show yes (valOk op wd xv) = false from yes_no.2 hG5) ▸ G5.out e)
              clear G5
              have hr : r = false := by rw [R.out]; exact yes_no.2 (fun ⟨⟨q1, q2, q3, q4⟩, q5⟩ => hG5 q3)
              subst hr
              go_wp2_with fail
              refine wp_region_later (W := W1) (by kernel_rfl) (by kernel_rfl) (Ext.refl _) ?_
              repeat (go_big_quiet_step (first | (go_at_call 78; exact Later.calls (KG1.out _)) | (go_at_call 79; exact Later.calls (KG2.out _)) | (go_at_call 80; exact Later.calls (KG3.out _)) | (go_at_call 81; exact Later.calls (KG4.out _)) | (go_at_call 82; exact Later.calls (KG5.out _))))
              refine wpQuiet_nil ?_
              rintro _ ⟨e, rfl⟩
              go_wp2_with fail
              go_ret
              exact ⟨rfl, hx1.trans e.ext⟩
          · have KG4 := hide (fun e : Later W1 => (show yes (numOk op n) = false from yes_no.2 hG4) ▸ G4.out e)
            clear G4
            have hr : r = false := by rw [R.out]; exact yes_no.2 (fun ⟨⟨q1, q2, q3, q4⟩, q5⟩ => hG4 q2)
            subst hr
            go_wp2_with fail
            refine wp_region_later (W := W1) (by kernel_rfl) (by kernel_rfl) (Ext.refl _) ?_
            repeat (go_big_quiet_step (first | (go_at_call 78; exact Later.calls (KG1.out _)) | (go_at_call 79; exact Later.calls (KG2.out _)) | (go_at_call 80; exact Later.calls (KG3.out _)) | (go_at_call 81; exact Later.calls (KG4.out _))))
            refine wpQuiet_nil ?_
            rintro _ ⟨e, rfl⟩
            go_wp2_with fail
            go_ret
            exact ⟨rfl, hx1.trans e.ext⟩
        · have KG3 := hide (fun e : Later W1 => (show yes (partsOk op l.length) = false from yes_no.2 hG3) ▸ G3.out e)
          clear G3
          have hr : r = false := by rw [R.out]; exact yes_no.2 (fun ⟨⟨q1, q2, q3, q4⟩, q5⟩ => hG3 q1)
          subst hr
          go_wp2_with fail
          refine wp_region_later (W := W1) (by kernel_rfl) (by kernel_rfl) (Ext.refl _) ?_
          repeat (go_big_quiet_step (first | (go_at_call 78; exact Later.calls (KG1.out _)) | (go_at_call 79; exact Later.calls (KG2.out _)) | (go_at_call 80; exact Later.calls (KG3.out _))))
          refine wpQuiet_nil ?_
          rintro _ ⟨e, rfl⟩
          go_wp2_with fail
          go_ret
          exact ⟨rfl, hx1.trans e.ext⟩
      · have KG2 := hide (fun e : Later W1 => (show nameOk nm = false from nameOk_no hG2) ▸ G2.out e)
        clear G2
        have hr : r = false := by rw [R.out]; exact yes_no.2 (fun ⟨⟨q1, q2, q3, q4⟩, q5⟩ => (by rcases q4 with q4 | q4; exact hG2 q4.2; exact q4.1 hG1))
        subst hr
        go_wp2_with fail
        refine wp_region_later (W := W1) (by kernel_rfl) (by kernel_rfl) (Ext.refl _) ?_
        repeat (go_big_quiet_step (first | (go_at_call 78; exact Later.calls (KG1.out _)) | (go_at_call 79; exact Later.calls (KG2.out _))))
        refine wpQuiet_nil ?_
        rintro _ ⟨e, rfl⟩
        go_wp2_with fail
        go_ret
        exact ⟨rfl, hx1.trans e.ext⟩
  · have KG1 := hide (fun e : Later W1 => (show yes (isNamed op) = false from yes_no.2 hG1) ▸ G1.out e)
    clear G1
    by_cases h0 : nm.size = 0
    · have hem := empty_size h0
      by_cases hG3 : partsOk op l.length
      · have KG3 := hide (fun e : Later W1 => (show yes (partsOk op l.length) = true from yes_iff.2 hG3) ▸ G3.out e)
        clear G3
        by_cases hG4 : numOk op n
        · have KG4 := hide (fun e : Later W1 => (show yes (numOk op n) = true from yes_iff.2 hG4) ▸ G4.out e)
          clear G4
          by_cases hG5 : valOk op wd xv
          · have KG5 := hide (fun e : Later W1 => (show yes (valOk op wd xv) = true from yes_iff.2 hG5) ▸ G5.out e)
            clear G5
            have hr := hide (R.out.trans (yes_congr (show _ ↔ (∀ y, y ∈ l → MayX y) from ⟨fun h => h.2, fun h => ⟨⟨hG3, hG4, hG5, .inr ⟨hG1, h0⟩⟩, h⟩⟩)))
            go_wp2_with fail
            refine wp_region_later (W := W1) (by kernel_rfl) (by kernel_rfl) (Ext.refl _) ?_
            repeat (go_big_quiet_step (first | (go_at_call 78; exact Later.calls (KG1.out _)) | (go_at_call 80; exact Later.calls (KG3.out _)) | (go_at_call 81; exact Later.calls (KG4.out _)) | (go_at_call 82; exact Later.calls (KG5.out _))))
            refine wpQuiet_nil ?_
            rintro _ ⟨e, rfl⟩
            have c5' := c5 e
            go_wp2_with fail
            refine (refmayL_of B l (fun z hz w cs h1 h2 => IH.out z hz w cs h1 h2 (by have := hmem.out z hz; omega) (HVL.out z hz)) _ _ (HS.out.extRX (hx1.trans e.ext) hB) (Nat.le_trans hB1 e.ext.size) (by omega)).mono ?_
            rintro e2 w2 ⟨rfl, hy⟩
            rw [← hr.out]
            go_wp2_with fail
            go_ret
            exact ⟨rfl, (hx1.trans e.ext).trans hy⟩
          · have KG5 := hide (fun e : Later W1 => (show yes (valOk op wd xv) = false from yes_no.2 hG5) ▸ G5.out e)
            clear G5
            have hr : r = false := by rw [R.out]; exact yes_no.2 (fun ⟨⟨q1, q2, q3, q4⟩, q5⟩ => hG5 q3)
            subst hr
            go_wp2_with fail
            refine wp_region_later (W := W1) (by kernel_rfl) (by kernel_rfl) (Ext.refl _) ?_
            repeat (go_big_quiet_step (first | (go_at_call 78; exact Later.calls (KG1.out _)) | (go_at_call 80; exact Later.calls (KG3.out _)) | (go_at_call 81; exact Later.calls (KG4.out _)) | (go_at_call 82; exact Later.calls (KG5.out _))))
            refine wpQuiet_nil ?_
            rintro _ ⟨e, rfl⟩
            go_wp2_with fail
            go_ret
            exact ⟨rfl, hx1.trans e.ext⟩
        · have KG4 := hide (fun e : Later W1 => (show yes (numOk op n) = false from yes_no.2 hG4) ▸ G4.out e)
          clear G4
          have hr : r = false := by rw [R.out]; exact yes_no.2 (fun ⟨⟨q1, q2, q3, q4⟩, q5⟩ => hG4 q2)
          subst hr
          go_wp2_with fail
          refine wp_region_later (W := W1) (by kernel_rfl) (by kernel_rfl) (Ext.refl _) ?_
          repeat (go_big_quiet_step (first | (go_at_call 78; exact Later.calls (KG1.out _)) | (go_at_call 80; exact Later.calls (KG3.out _)) | (go_at_call 81; exact Later.calls (KG4.out _))))
          refine wpQuiet_nil ?_
          rintro _ ⟨e, rfl⟩
          go_wp2_with fail
          go_ret
          exact ⟨rfl, hx1.trans e.ext⟩
      · have KG3 := hide (fun e : Later W1 => (show yes (partsOk op l.length) = false from yes_no.2 hG3) ▸ G3.out e)
        clear G3
        have hr : r = false := by rw [R.out]; exact yes_no.2 (fun ⟨⟨q1, q2, q3, q4⟩, q5⟩ => hG3 q1)
        subst hr
        go_wp2_with fail
        refine wp_region_later (W := W1) (by kernel_rfl) (by kernel_rfl) (Ext.refl _) ?_
        repeat (go_big_quiet_step (first | (go_at_call 78; exact Later.calls (KG1.out _)) | (go_at_call 80; exact Later.calls (KG3.out _))))
        refine wpQuiet_nil ?_
        rintro _ ⟨e, rfl⟩
        go_wp2_with fail
        go_ret
        exact ⟨rfl, hx1.trans e.ext⟩
    · have hem := full_size h0
      have hr : r = false := by rw [R.out]; exact yes_no.2 (fun ⟨⟨q1, q2, q3, q4⟩, q5⟩ => (by rcases q4 with q4 | q4; exact hG1 q4.1; exact h0 q4.2))
      subst hr
      go_wp2_with fail
      refine wp_region_later (W := W1) (by kernel_rfl) (by kernel_rfl) (Ext.refl _) ?_
      repeat (go_big_quiet_step (first | (go_at_call 78; exact Later.calls (KG1.out _))))
      refine wpQuiet_nil ?_
      rintro _ ⟨e, rfl⟩
      go_wp2_with fail
      go_ret
      exact ⟨rfl, hx1.trans e.ext⟩

end Go.Proofs.YtonbgnaopkopoaaDoor

/-
  THE CONTRACTS OF THE REFERENCE's CHECKING OF STATEMENTS.
-/
namespace Go.Proofs.YtonbgnaopkopoaaDoor
open Go Go.RowKit
set_option linter.all false
set_option linter.unusedVariables false
set_option linter.unusedSimpArgs false
set_option linter.unusedVariables false
set_option linter.unusedSimpArgs false
attribute [local go_sem] run_store_one

end Go.Proofs.YtonbgnaopkopoaaDoor

/-
  THE CONTRACT OF THE REFERENCE's CHECKING OF A CASE's ARMS.
-/
namespace Go.Proofs.YtonbgnaopkopoaaDoor
open Go Go.RowKit
set_option linter.all false
set_option linter.unusedVariables false
set_option linter.unusedSimpArgs false
set_option linter.unusedVariables false
set_option linter.unusedSimpArgs false
attribute [local go_sem] run_store_one

end Go.Proofs.YtonbgnaopkopoaaDoor
