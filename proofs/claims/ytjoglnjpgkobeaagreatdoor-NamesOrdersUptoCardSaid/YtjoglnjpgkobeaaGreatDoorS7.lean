/-
  THE CONTRACTS OF THE REFERENCE's COUNTING FUNCTIONS: how many nodes, how deep.
-/
import Derived.WalkSpells
import Derived.WalkLawsBesides
import Derived.Deep.RegionWith
import Derived.Test.YtjoglnjpgkobeaaGreatDoorProg
import Derived.Test.YtjoglnjpgkobeaaGreatDoorS3
namespace Go.Proofs.YtjoglnjpgkobeaaGreatDoor
open Go Go.RowKit
set_option linter.all false
set_option linter.unusedVariables false
set_option linter.unusedSimpArgs false
set_option linter.unusedVariables false
set_option linter.unusedSimpArgs false
attribute [local go_sem] run_store_one
set_option maxHeartbeats 400000 in
theorem refSizeX_any (B : Nat) (x : X) : ∀ (w : World) (cs : List Value), RX w B x cs → B ≤ w.heap.size → sizeX x ≤ 1000000000 →
    Calls Tryz.prog 61 #[.agg cs.toArray] w fun e w' => e = .returned (.int .i64 (sizeX x)) ∧ Ext w w' := by
  induction x using X.ind with
  | h x ih =>
  intro w cs hR hB hsz
  obtain ⟨_, rfl, a, cap, rfl, hcap, hrow⟩ := RX_iff.1 hR
  have hs0 : 1 + msize sizeX x.l ≤ 1000000000 := by rw [← sizeX_eq]; exact hsz
  have hln := length_le_msize sizeX x.l sizeX_pos
  have hfin := hide (sizeX_eq x)
  generalize x.op = op at *
  generalize x.name = nm at *
  generalize x.n = n at *
  generalize x.w = wd at *
  generalize x.v = v at *
  generalize x.l = l at *
  clear hR hsz
  go_enter Tryz.func61, Tryz.ntmps61
  go_wp2_with fail
  obtain ⟨W1, hW1, hx1, hb1⟩ := box6 w (.int .i64 op) (.string nm) (.int .i64 n) (.int .i64 wd) (.int .u64 v) (.slice a l.length cap) 49
  rw [← hW1]
  clear hW1
  go_loopw [3, 4] (fun r i wr => ∃ k : Nat, k ≤ l.length ∧ i = .int .i64 k ∧ r = .int .i64 (1 + msize sizeX (l.take k) : Nat) ∧ Ext W1 wr) (fun _ i _ => l.length - (intOf i).toNat)
  case atStart => exact ⟨0, Nat.zero_le _, rfl, rfl, Ext.refl _⟩
  case round =>
    obtain ⟨k, hk, rfl, rfl, hxr⟩ := hrel
    obtain ⟨c0, c1, c2, c3, c4, c5⟩ := (hb1.ext hxr).get6
    have hx := hx1.trans hxr
    have hle := msize_take_le sizeX l k
    by_cases hlt : k < l.length
    · have hsu := msize_take_succ sizeX l k hlt
      have hs1 := msize_take_le sizeX l (k + 1)
      have ihk := ih l[k] (List.getElem_mem hlt)
      obtain ⟨b, o, v0, v1, v2, v3, v4, v5, rfl, hbB, hE, hC, o0, o1, o2, o3, o4, o5⟩ := hrow.open6 hlt
      obtain ⟨d0, d1, d2, d3, d4, d5⟩ := (hC.ext hx).get6
      generalize l[k] = y at *
      have hy' := hE.ext hx hB
      have HS := hide hsu
      clear hC hrow hE ih hsu
      go_wp2_with fail
      refine (ihk wr _ hy' (by have := hx.size; omega) (by have := HS.out; omega)).mono ?_
      rintro e w' ⟨rfl, hb'⟩
      have hsc := HS.out
      go_wp2_with fail
      go_roundw
      case rel => exact ⟨k + 1, by omega, by go_num, by go_num, hxr.trans hb'⟩
      case measure => simp [intOf]; omega
    · go_wp2_with fail
      go_ret
      have : k = l.length := by omega
      subst this
      exact ⟨by rw [hfin.out]; simp, hx⟩
set_option maxHeartbeats 400000 in
theorem refSizeL_any (B : Nat) (l : List X) (w : World) (v : Value) (hS : Sl (RX w B) w B 6 l v) (hB : B ≤ w.heap.size) (hsz : msize sizeX l ≤ 1000000000) :
    Calls Tryz.prog 93 #[v] w fun e w' => e = .returned (.int .i64 (msize sizeX l)) ∧ Ext w w' := by
  obtain ⟨a, cap, rfl, hcap, hrow⟩ := hS
  have hln := length_le_msize sizeX l sizeX_pos
  go_enter Tryz.func93, Tryz.ntmps93
  go_wp2_with fail
  go_loopw [3, 4] (fun r i wr => ∃ k : Nat, k ≤ l.length ∧ i = .int .i64 k ∧ r = .int .i64 (msize sizeX (l.take k) : Nat) ∧ Ext w wr) (fun _ i _ => l.length - (intOf i).toNat)
  case atStart => exact ⟨0, Nat.zero_le _, rfl, rfl, Ext.refl _⟩
  case round =>
    obtain ⟨k, hk, rfl, rfl, hx⟩ := hrel
    have hle := msize_take_le sizeX l k
    by_cases hlt : k < l.length
    · have hsu := msize_take_succ sizeX l k hlt
      have hs1 := msize_take_le sizeX l (k + 1)
      have hs2 := msize_mem sizeX l l[k] (List.getElem_mem hlt)
      obtain ⟨b, o, v0, v1, v2, v3, v4, v5, rfl, hbB, hE, hC, o0, o1, o2, o3, o4, o5⟩ := hrow.open6 hlt
      obtain ⟨d0, d1, d2, d3, d4, d5⟩ := (hC.ext hx).get6
      generalize l[k] = y at *
      have hy' := hE.ext hx hB
      have HS := hide hsu
      clear hC hrow hE hsu
      go_wp2_with fail
      refine (refSizeX_any B y wr _ hy' (by have := hx.size; omega) (by omega)).mono ?_
      rintro e w' ⟨rfl, hb'⟩
      have hsc := HS.out
      go_wp2_with fail
      go_roundw
      case rel => exact ⟨k + 1, by omega, by go_num, by go_num, hx.trans hb'⟩
      case measure => simp [intOf]; omega
    · go_wp2_with fail
      go_ret
      have : k = l.length := by omega
      subst this
      exact ⟨by simp, hx⟩
set_option maxHeartbeats 400000 in
theorem refSizeB_any (B : Nat) (l : List Bnd) (w : World) (v : Value) (hS : Sl (RB w B) w B 7 l v) (hB : B ≤ w.heap.size) (hsz : msize sizeB l ≤ 1000000000) :
    Calls Tryz.prog 59 #[v] w fun e w' => e = .returned (.int .i64 (msize sizeB l)) ∧ Ext w w' := by
  obtain ⟨a, cap, rfl, hcap, hrow⟩ := hS
  have hln := length_le_msize sizeB l sizeB_pos
  go_enter Tryz.func59, Tryz.ntmps59
  go_wp2_with fail
  go_loopw [3, 4] (fun r i wr => ∃ k : Nat, k ≤ l.length ∧ i = .int .i64 k ∧ r = .int .i64 (msize sizeB (l.take k) : Nat) ∧ Ext w wr) (fun _ i _ => l.length - (intOf i).toNat)
  case atStart => exact ⟨0, Nat.zero_le _, rfl, rfl, Ext.refl _⟩
  case round =>
    obtain ⟨k, hk, rfl, rfl, hx⟩ := hrel
    have hle := msize_take_le sizeB l k
    by_cases hlt : k < l.length
    · have hsu := msize_take_succ sizeB l k hlt
      have hs1 := msize_take_le sizeB l (k + 1)
      have hs2 := msize_mem sizeB l l[k] (List.getElem_mem hlt)
      obtain ⟨b, o, v0, v1, v2, v3, v4, v5, v6, rfl, hbB, hE, hC, o0, o1, o2, o3, o4, o5, o6⟩ := hrow.open7 hlt
      obtain ⟨d0, d1, d2, d3, d4, d5, d6⟩ := (hC.ext hx).get7
      generalize l[k] = y at *
      obtain ⟨rfl, hX⟩ := RB_iff.1 hE
      have hy' := hX.ext hx hB
      have hdef : sizeB y = 1 + sizeX y.x := rfl
      have HS := hide hsu
      have HD := hide hdef
      have hbd : sizeX y.x ≤ 1000000000 := by omega
      clear hC hrow hE hsu hX hdef
      go_wp2_with fail
      refine (refSizeX_any B y.x wr _ hy' (by have := hx.size; omega) hbd).mono ?_
      rintro e w' ⟨rfl, hb'⟩
      have hsc := HS.out
      have hsd := HD.out
      go_wp2_with fail
      go_roundw
      case rel => exact ⟨k + 1, by omega, by go_num, by go_num, hx.trans hb'⟩
      case measure => simp [intOf]; omega
    · go_wp2_with fail
      go_ret
      have : k = l.length := by omega
      subst this
      exact ⟨by simp, hx⟩
set_option maxHeartbeats 400000 in
theorem refDeepL_of (B : Nat) (l : List X) (hf : ∀ x, x ∈ l → ∀ (w : World) (cs : List Value), RX w B x cs → B ≤ w.heap.size → sizeX x ≤ 1000000000 →
      Calls Tryz.prog 64 #[.agg cs.toArray] w fun e w' => e = .returned (.int .i64 (deepX x)) ∧ Ext w w')
    (w : World) (v : Value) (hS : Sl (RX w B) w B 6 l v) (hB : B ≤ w.heap.size) (hsz : msize sizeX l ≤ 1000000000) :
    Calls Tryz.prog 95 #[v] w fun e w' => e = .returned (.int .i64 (mdeep deepX l)) ∧ Ext w w' := by
  obtain ⟨a, cap, rfl, hcap, hrow⟩ := hS
  have hln := length_le_msize sizeX l sizeX_pos
  have HF := hide hf
  clear hf
  go_enter Tryz.func95, Tryz.ntmps95
  go_wp2_with fail
  go_loopw [3, 4] (fun r i wr => ∃ k : Nat, k ≤ l.length ∧ i = .int .i64 k ∧ r = .int .i64 (mdeep deepX (l.take k) : Nat) ∧ Ext w wr) (fun _ i _ => l.length - (intOf i).toNat)
  case atStart => exact ⟨0, Nat.zero_le _, rfl, rfl, Ext.refl _⟩
  case round =>
    obtain ⟨k, hk, rfl, rfl, hx⟩ := hrel
    by_cases hlt : k < l.length
    · have hsu := mdeep_take_succ deepX l k hlt
      have hs2 := msize_mem sizeX l l[k] (List.getElem_mem hlt)
      have hfk := HF.out l[k] (List.getElem_mem hlt)
      obtain ⟨b, o, v0, v1, v2, v3, v4, v5, rfl, hbB, hE, hC, o0, o1, o2, o3, o4, o5⟩ := hrow.open6 hlt
      obtain ⟨d0, d1, d2, d3, d4, d5⟩ := (hC.ext hx).get6
      generalize l[k] = y at *
      have hy' := hE.ext hx hB
      have HS := hide hsu
      have HK := hide hfk
      clear hC hrow hE hsu hfk HF
      go_wp2_with fail
      refine (HK.out wr _ hy' (by have := hx.size; omega) (by omega)).mono ?_
      rintro e w' ⟨rfl, hb'⟩
      go_wp2_with fail
      all_goals
        go_roundw
        case rel => exact ⟨k + 1, by omega, by go_num, by rw [HS.out]; congr 2; omega, hx.trans hb'⟩
        case measure => simp [intOf]; omega
    · go_wp2_with fail
      go_ret
      have : k = l.length := by omega
      subst this
      exact ⟨by simp, hx⟩
set_option maxHeartbeats 400000 in
theorem refDeepX_any (B : Nat) (x : X) : ∀ (w : World) (cs : List Value), RX w B x cs → B ≤ w.heap.size → sizeX x ≤ 1000000000 →
    Calls Tryz.prog 64 #[.agg cs.toArray] w fun e w' => e = .returned (.int .i64 (deepX x)) ∧ Ext w w' := by
  induction x using X.ind with
  | h x ih =>
  intro w cs hR hB hsz
  obtain ⟨v, rfl, hS⟩ := RX_iff.1 hR
  have hs0 : 1 + msize sizeX x.l ≤ 1000000000 := by rw [← sizeX_eq]; exact hsz
  have hdl := deepXL_le x.l
  have hfin := hide (deepX_eq x)
  have IH := hide ih
  have HS := hide hS
  have ho := hS.oneCell
  generalize x.op = op at *
  generalize x.name = nm at *
  generalize x.n = n at *
  generalize x.w = wd at *
  generalize x.v = xv at *
  generalize x.l = l at *
  clear hR hsz ih hS
  go_enter Tryz.func64, Tryz.ntmps64
  go_wp2_with fail
  obtain ⟨W1, hW1, hx1, hb1⟩ := box6 w (.int .i64 op) (.string nm) (.int .i64 n) (.int .i64 wd) (.int .u64 xv) v 49
  rw [← hW1]
  clear hW1
  obtain ⟨c0, c1, c2, c3, c4, c5⟩ := hb1.get6
  go_wp2_with fail
  refine (refDeepL_of B l IH.out _ v (HS.out.extRX hx1 hB) (by have := hx1.size; omega) (by omega)).mono ?_
  rintro e w' ⟨rfl, hb'⟩
  go_wp2_with fail
  go_ret
  exact ⟨by rw [hfin.out]; simp, hx1.trans hb'⟩
theorem refDeepL_any (B : Nat) (l : List X) (w : World) (v : Value) (hS : Sl (RX w B) w B 6 l v) (hB : B ≤ w.heap.size) (hsz : msize sizeX l ≤ 1000000000) :
    Calls Tryz.prog 95 #[v] w fun e w' => e = .returned (.int .i64 (mdeep deepX l)) ∧ Ext w w' :=
  refDeepL_of B l (fun x _ => refDeepX_any B x) w v hS hB hsz
set_option maxHeartbeats 1000000 in
theorem refSizeS_lt (B : Nat) (m : Nat) : ∀ (l : List S) (w : World) (v : Value), Sl (RS w B) w B 4 l v → B ≤ w.heap.size → msize sizeS l ≤ 1000000000 → msize sizeS l < m →
    Calls Tryz.prog 94 #[v] w fun e w' => e = .returned (.int .i64 (msize sizeS l)) ∧ Ext w w' := by
  induction m with
  | zero => intro l w v _ _ _ h; omega
  | succ m ih =>
  intro l w v hS hB hsz hm
  obtain ⟨a, cap, rfl, hcap, hrow⟩ := hS
  have hln := length_le_msize sizeS l sizeS_pos
  have IH := hide ih
  clear ih
  go_enter Tryz.func94, Tryz.ntmps94
  go_wp2_with fail
  go_loopw [3, 4] (fun r i wr => ∃ k : Nat, k ≤ l.length ∧ i = .int .i64 k ∧ r = .int .i64 (msize sizeS (l.take k) : Nat) ∧ Ext w wr) (fun _ i _ => l.length - (intOf i).toNat)
  case atStart => exact ⟨0, Nat.zero_le _, rfl, rfl, Ext.refl _⟩
  case round =>
    obtain ⟨k, hk, rfl, rfl, hx⟩ := hrel
    have hle := msize_take_le sizeS l k
    by_cases hlt : k < l.length
    · have hsu := msize_take_succ sizeS l k hlt
      have hs1 := msize_take_le sizeS l (k + 1)
      have hs2 := msize_mem sizeS l l[k] (List.getElem_mem hlt)
      obtain ⟨b, o, v0, v1, v2, v3, rfl, hbB, hE, hC, o0, o1, o2, o3⟩ := hrow.open4 hlt
      generalize l[k] = y at *
      obtain ⟨_, _, he, hX, hL⟩ := RS_iff.1 hE
      simp only [List.cons.injEq, and_true] at he
      obtain ⟨rfl, rfl, rfl, rfl⟩ := he
      obtain ⟨d0, d1, d2, d3⟩ := (hC.ext hx).later4
      have hdef := sizeS_eq y
      have hB' : B ≤ wr.heap.size := by have := hx.size; omega
      have HX := hide (fun e : Later wr => hX.extRX (hx.trans e.ext) hB)
      have HL := hide (fun e : Later wr => hL.extRS (hx.trans e.ext) hB)
      have HB := fun e : Later wr => Nat.le_trans hB' e.ext.size
      have q1 : msize sizeX y.x ≤ 1000000000 := by omega
      have q2 : msize sizeS y.l ≤ 1000000000 := by omega
      have q3 : msize sizeS y.l < m := by omega
      have q4 : msize sizeS (l.take k) + 1 + msize sizeX y.x + msize sizeS y.l ≤ 1000000000 := by omega
      have QQ := hide (show msize sizeS (l.take (k + 1)) = msize sizeS (l.take k) + 1 + msize sizeX y.x + msize sizeS y.l by omega)
      generalize y.x = yx at *
      generalize y.l = yl at *
      have k0 : (0 : Int) ≤ (k : Int) := by omega
      have k1 : (k : Int) < (l.length : Int) := by omega
      clear hC hrow hE hsu hX hL hdef hs2
      go_wp2_with fail
      refine wp_region_later (W := wr) (by kernel_rfl) (by kernel_rfl) (Ext.refl _) ?_
      repeat (go_big_quiet_step (first
        | (go_at_call 93; exact Later.calls (refSizeL_any B _ _ _ (HX.out _) (HB _) q1))
        | (go_at_call 94; exact Later.calls (IH.out _ _ _ (HL.out _) (HB _) q2 q3))))
      refine wpQuiet_nil ?_
      rintro _ ⟨e, rfl⟩
      have hxe := hx.trans e.ext
      go_wp2_with fail
      go_roundw
      case rel => exact ⟨k + 1, by omega, by go_num, by rw [QQ.out]; go_num, hxe⟩
      case measure => simp [intOf]; omega
    · go_wp2_with fail
      go_ret
      have : k = l.length := by omega
      subst this
      exact ⟨by simp, hx⟩
theorem refSizeS_any (B : Nat) (l : List S) (w : World) (v : Value) (hS : Sl (RS w B) w B 4 l v) (hB : B ≤ w.heap.size) (hsz : msize sizeS l ≤ 1000000000) :
    Calls Tryz.prog 94 #[v] w fun e w' => e = .returned (.int .i64 (msize sizeS l)) ∧ Ext w w' :=
  refSizeS_lt B _ l w v hS hB hsz (Nat.lt_succ_self _)
set_option maxHeartbeats 400000 in
theorem refDeepB_any (B : Nat) (l : List Bnd) (w : World) (v : Value) (hS : Sl (RB w B) w B 7 l v) (hB : B ≤ w.heap.size) (hsz : msize sizeB l ≤ 1000000000) :
    Calls Tryz.prog 62 #[v] w fun e w' => e = .returned (.int .i64 (mdeep deepB l)) ∧ Ext w w' := by
  obtain ⟨a, cap, rfl, hcap, hrow⟩ := hS
  have hln := length_le_msize sizeB l sizeB_pos
  go_enter Tryz.func62, Tryz.ntmps62
  go_wp2_with fail
  go_loopw [3, 4] (fun r i wr => ∃ k : Nat, k ≤ l.length ∧ i = .int .i64 k ∧ r = .int .i64 (mdeep deepB (l.take k) : Nat) ∧ Ext w wr) (fun _ i _ => l.length - (intOf i).toNat)
  case atStart => exact ⟨0, Nat.zero_le _, rfl, rfl, Ext.refl _⟩
  case round =>
    obtain ⟨k, hk, rfl, rfl, hx⟩ := hrel
    by_cases hlt : k < l.length
    · have hsu := mdeep_take_succ deepB l k hlt
      have hs2 := msize_mem sizeB l l[k] (List.getElem_mem hlt)
      obtain ⟨b, o, v0, v1, v2, v3, v4, v5, v6, rfl, hbB, hE, hC, o0, o1, o2, o3, o4, o5, o6⟩ := hrow.open7 hlt
      obtain ⟨d0, d1, d2, d3, d4, d5, d6⟩ := (hC.ext hx).get7
      generalize l[k] = y at *
      obtain ⟨rfl, hX⟩ := RB_iff.1 hE
      have hy' := hX.ext hx hB
      have hdef : sizeB y = 1 + sizeX y.x := rfl
      have HS := hide hsu
      have HD := hide (show deepB y = 1 + deepX y.x from rfl)
      have hdl := deepX_le y.x
      have hbd : sizeX y.x ≤ 1000000000 := by omega
      clear hC hrow hE hsu hX hdef
      go_wp2_with fail
      refine (refDeepX_any B y.x wr _ hy' (by have := hx.size; omega) hbd).mono ?_
      rintro e w' ⟨rfl, hb'⟩
      go_wp2_with fail
      all_goals
        go_roundw
        case rel => exact ⟨k + 1, by omega, by go_num, by rw [HS.out, HD.out]; congr 1; omega, hx.trans hb'⟩
        case measure => simp [intOf]; omega
    · go_wp2_with fail
      go_ret
      have : k = l.length := by omega
      subst this
      exact ⟨by simp, hx⟩
set_option maxHeartbeats 1000000 in
theorem refDeepS_lt (B : Nat) (m : Nat) : ∀ (l : List S) (w : World) (v : Value), Sl (RS w B) w B 4 l v → B ≤ w.heap.size → msize sizeS l ≤ 1000000000 → msize sizeS l < m →
    Calls Tryz.prog 96 #[v] w fun e w' => e = .returned (.int .i64 (mdeep deepS l)) ∧ Ext w w' := by
  induction m with
  | zero => intro l w v _ _ _ h; omega
  | succ m ih =>
  intro l w v hS hB hsz hm
  obtain ⟨a, cap, rfl, hcap, hrow⟩ := hS
  have hln := length_le_msize sizeS l sizeS_pos
  have IH := hide ih
  clear ih
  go_enter Tryz.func96, Tryz.ntmps96
  go_wp2_with fail
  go_loopw [3, 4] (fun r i wr => ∃ k : Nat, k ≤ l.length ∧ i = .int .i64 k ∧ r = .int .i64 (mdeep deepS (l.take k) : Nat) ∧ Ext w wr) (fun _ i _ => l.length - (intOf i).toNat)
  case atStart => exact ⟨0, Nat.zero_le _, rfl, rfl, Ext.refl _⟩
  case round =>
    obtain ⟨k, hk, rfl, rfl, hx⟩ := hrel
    by_cases hlt : k < l.length
    · have hsu := mdeep_take_succ deepS l k hlt
      have hs2 := msize_mem sizeS l l[k] (List.getElem_mem hlt)
      obtain ⟨b, o, v0, v1, v2, v3, rfl, hbB, hE, hC, o0, o1, o2, o3⟩ := hrow.open4 hlt
      generalize l[k] = y at *
      obtain ⟨_, _, he, hX, hL⟩ := RS_iff.1 hE
      simp only [List.cons.injEq, and_true] at he
      obtain ⟨rfl, rfl, rfl, rfl⟩ := he
      obtain ⟨d0, d1, d2, d3⟩ := (hC.ext hx).later4
      have hdef := sizeS_eq y
      have hdd := deepS_eq y
      have hB' : B ≤ wr.heap.size := by have := hx.size; omega
      have HX := hide (fun e : Later wr => hX.extRX (hx.trans e.ext) hB)
      have HL := hide (fun e : Later wr => hL.extRS (hx.trans e.ext) hB)
      have HB := fun e : Later wr => Nat.le_trans hB' e.ext.size
      have q1 : msize sizeX y.x ≤ 1000000000 := by omega
      have q2 : msize sizeS y.l ≤ 1000000000 := by omega
      have q3 : msize sizeS y.l < m := by omega
      have q4 := deepXL_le y.x
      have q5 := deepSL_le y.l
      have QQ := hide (show mdeep deepS (l.take (k + 1)) = max (mdeep deepS (l.take k)) (1 + max (mdeep deepX y.x) (mdeep deepS y.l)) by omega)
      generalize y.x = yx at *
      generalize y.l = yl at *
      have k0 : (0 : Int) ≤ (k : Int) := by omega
      have k1 : (k : Int) < (l.length : Int) := by omega
      clear hC hrow hE hsu hX hL hdef hdd hs2
      go_wp2_with fail
      refine wp_region_later (W := wr) (by kernel_rfl) (by kernel_rfl) (Ext.refl _) ?_
      repeat (go_big_quiet_step (first
        | (go_at_call 95; exact Later.calls (refDeepL_any B _ _ _ (HX.out _) (HB _) q1))
        | (go_at_call 96; exact Later.calls (IH.out _ _ _ (HL.out _) (HB _) q2 q3))))
      refine wpQuiet_nil ?_
      rintro _ ⟨e, rfl⟩
      have hxe := hx.trans e.ext
      go_wp2_with fail
      go_roundw
      case rel => exact ⟨k + 1, by omega, by go_num, by rw [QQ.out]; go_num, hxe⟩
      case measure => simp [intOf]; omega
    · go_wp2_with fail
      go_ret
      have : k = l.length := by omega
      subst this
      exact ⟨by simp, hx⟩
theorem refDeepS_any (B : Nat) (l : List S) (w : World) (v : Value) (hS : Sl (RS w B) w B 4 l v) (hB : B ≤ w.heap.size) (hsz : msize sizeS l ≤ 1000000000) :
    Calls Tryz.prog 96 #[v] w fun e w' => e = .returned (.int .i64 (mdeep deepS l)) ∧ Ext w w' :=
  refDeepS_lt B _ l w v hS hB hsz (Nat.lt_succ_self _)
end Go.Proofs.YtjoglnjpgkobeaaGreatDoor

/-
  THE CONTRACTS OF THE REFERENCE's COUNTING FUNCTIONS: items and files.
-/
namespace Go.Proofs.YtjoglnjpgkobeaaGreatDoor
open Go Go.RowKit
set_option linter.all false
set_option linter.unusedVariables false
set_option linter.unusedSimpArgs false
set_option linter.unusedVariables false
set_option linter.unusedSimpArgs false
attribute [local go_sem] run_store_one
theorem run_max6 {P : Program} {w : World} (ts : Array TypeId) (t : TypeId) (a b c d e f : Nat) : (Builtin.max_ ts t #[.int .i64 a, .int .i64 b, .int .i64 c, .int .i64 d, .int .i64 e, .int .i64 f]).run P w =
    .ok (.int .i64 (max (max (max (max (max a b) c) d) e) f : Nat)) w := by
  have h2 : ∀ x y : Nat, Builtin.max2 (.int .i64 x) (.int .i64 y) = pure (.int .i64 (max x y : Nat)) := fun x y => by
    simp only [Builtin.max2]
    congr 2
    by_cases h : (y : Int) > x
    · rw [if_pos h]; omega
    · rw [if_neg h]; omega
  simp only [Builtin.max_, List.foldlM, Sem.run_bind, h2, Sem.run_pure, Result.andThen_ok]
attribute [local go_sem] run_max6
set_option maxHeartbeats 2000000 in
theorem refSizeI_lt (B : Nat) (m : Nat) : ∀ (l : List Itm) (w : World) (v : Value), Sl (RI w B) w B 9 l v → B ≤ w.heap.size → msize sizeI l ≤ 1000000000 → msize sizeI l < m →
    Calls Tryz.prog 60 #[v] w fun e w' => e = .returned (.int .i64 (msize sizeI l)) ∧ Ext w w' := by
  induction m with
  | zero => intro l w v _ _ _ h; omega
  | succ m ih =>
  intro l w v hS hB hsz hm
  obtain ⟨a, cap, rfl, hcap, hrow⟩ := hS
  have hln := length_le_msize sizeI l sizeI_pos
  have IH := hide ih
  clear ih
  go_enter Tryz.func60, Tryz.ntmps60
  go_wp2_with fail
  go_loopw [3, 4] (fun r i wr => ∃ k : Nat, k ≤ l.length ∧ i = .int .i64 k ∧ r = .int .i64 (msize sizeI (l.take k) : Nat) ∧ Ext w wr) (fun _ i _ => l.length - (intOf i).toNat)
  case atStart => exact ⟨0, Nat.zero_le _, rfl, rfl, Ext.refl _⟩
  case round =>
    obtain ⟨k, hk, rfl, rfl, hx⟩ := hrel
    have hle := msize_take_le sizeI l k
    by_cases hlt : k < l.length
    · have hsu := msize_take_succ sizeI l k hlt
      have hs1 := msize_take_le sizeI l (k + 1)
      have hs2 := msize_mem sizeI l l[k] (List.getElem_mem hlt)
      obtain ⟨b, o, v0, v1, v2, v3, v4, v5, v6, v7, v8, rfl, hbB, hE, hC, o0, o1, o2, o3, o4, o5, o6, o7, o8⟩ := hrow.open9 hlt
      generalize l[k] = y at *
      obtain ⟨_, _, _, _, _, _, he, hX, hS, hL, hE', hP, hBb⟩ := RI_iff.1 hE
      simp only [List.cons.injEq, and_true] at he
      obtain ⟨rfl, rfl, rfl, rfl, rfl, rfl, rfl, rfl, rfl⟩ := he
      obtain ⟨d0, d1, d2, d3, d4, d5, d6, d7, d8⟩ := (hC.ext hx).get9
      have hdef := sizeI_eq y
      have hdd := deepI_eq y
      have hB' : B ≤ wr.heap.size := by have := hx.size; omega
      have q1 : msize sizeX y.x ≤ 1000000000 := by omega
      have q2 : msize sizeS y.s ≤ 1000000000 := by omega
      have q3 : msize sizeI y.l ≤ 1000000000 := by omega
      have q4 : msize sizeI y.els ≤ 1000000000 := by omega
      have q5 : msize sizeB y.params ≤ 1000000000 := by omega
      have q6 : msize sizeB y.binds ≤ 1000000000 := by omega
      have q7 : msize sizeI y.l < m := by omega
      have q8 : msize sizeI y.els < m := by omega
      have q9 : msize sizeI (l.take k) + 1 + msize sizeX y.x + msize sizeS y.s + msize sizeI y.l + msize sizeI y.els + msize sizeB y.params + msize sizeB y.binds ≤ 1000000000 := by omega
      have QQ := hide (show msize sizeI (l.take (k + 1)) = msize sizeI (l.take k) + 1 + msize sizeX y.x + msize sizeS y.s + msize sizeI y.l + msize sizeI y.els + msize sizeB y.params + msize sizeB y.binds by omega)
      generalize y.x = yx at *
      generalize y.s = ys at *
      generalize y.l = yl at *
      generalize y.els = ye at *
      generalize y.params = yp at *
      generalize y.binds = yb at *
      generalize y.op = yo at *
      generalize y.name = yn at *
      generalize y.of = yf at *
      have k0 : (0 : Int) ≤ (k : Int) := by omega
      have k1 : (k : Int) < (l.length : Int) := by omega
      clear hrow hE hsu hdef hdd hs2
      have HX := hide hX
      have HSs := hide hS
      have HL := hide hL
      have HE := hide hE'
      have HP := hide hP
      have HBb := hide hBb
      clear hC hX hS hL hE' hP hBb
      go_wp2_with fail
      obtain ⟨W1, hW1, hx1, hb1⟩ := box9 wr (.int .i64 yo) (.string yn) (.string yf) v3 v4 v5 v6 v7 v8 53
      rw [← hW1]
      clear hW1
      have hxw := hx.trans hx1
      obtain ⟨e0, e1, e2, e3, e4, e5, e6, e7, e8⟩ := hb1.later9
      have HB := fun e : Later W1 => Nat.le_trans hB' (hx1.trans e.ext).size
      clear d0 d1 d2 d3 d4 d5 d6 d7 d8
      refine wp_region_later (W := W1) (by kernel_rfl) (by kernel_rfl) (Ext.refl _) ?_
      repeat (go_big_quiet_step (first
        | (go_at_call 93; exact Later.calls (refSizeL_any B _ _ _ (HX.out.extRX (hxw.trans (Later.ext _)) hB) (HB _) q1))
        | (go_at_call 94; exact Later.calls (refSizeS_any B _ _ _ (HSs.out.extRS (hxw.trans (Later.ext _)) hB) (HB _) q2))
        | (go_at_call_of 60 v5; exact Later.calls (IH.out _ _ _ (HL.out.extRI (hxw.trans (Later.ext _)) hB) (HB _) q3 q7))
        | (go_at_call_of 60 v6; exact Later.calls (IH.out _ _ _ (HE.out.extRI (hxw.trans (Later.ext _)) hB) (HB _) q4 q8))
        | (go_at_call_of 59 v7; exact Later.calls (refSizeB_any B _ _ _ (HP.out.extRB (hxw.trans (Later.ext _)) hB) (HB _) q5))
        | (go_at_call_of 59 v8; exact Later.calls (refSizeB_any B _ _ _ (HBb.out.extRB (hxw.trans (Later.ext _)) hB) (HB _) q6))))
      refine wpQuiet_nil ?_
      rintro _ ⟨e, rfl⟩
      have hxe := hxw.trans e.ext
      go_wp2_with fail
      go_roundw
      case rel => exact ⟨k + 1, by omega, by go_num, by rw [QQ.out]; go_num, hxe⟩
      case measure => simp [intOf]; omega
    · go_wp2_with fail
      go_ret
      have : k = l.length := by omega
      subst this
      exact ⟨by simp, hx⟩
theorem refSizeI_any (B : Nat) (l : List Itm) (w : World) (v : Value) (hS : Sl (RI w B) w B 9 l v) (hB : B ≤ w.heap.size) (hsz : msize sizeI l ≤ 1000000000) :
    Calls Tryz.prog 60 #[v] w fun e w' => e = .returned (.int .i64 (msize sizeI l)) ∧ Ext w w' :=
  refSizeI_lt B _ l w v hS hB hsz (Nat.lt_succ_self _)
set_option maxHeartbeats 2000000 in
theorem refDeepI_lt (B : Nat) (m : Nat) : ∀ (l : List Itm) (w : World) (v : Value), Sl (RI w B) w B 9 l v → B ≤ w.heap.size → msize sizeI l ≤ 1000000000 → msize sizeI l < m →
    Calls Tryz.prog 63 #[v] w fun e w' => e = .returned (.int .i64 (mdeep deepI l)) ∧ Ext w w' := by
  induction m with
  | zero => intro l w v _ _ _ h; omega
  | succ m ih =>
  intro l w v hS hB hsz hm
  obtain ⟨a, cap, rfl, hcap, hrow⟩ := hS
  have hln := length_le_msize sizeI l sizeI_pos
  have IH := hide ih
  clear ih
  go_enter Tryz.func63, Tryz.ntmps63
  go_wp2_with fail
  go_loopw [3, 4] (fun r i wr => ∃ k : Nat, k ≤ l.length ∧ i = .int .i64 k ∧ r = .int .i64 (mdeep deepI (l.take k) : Nat) ∧ Ext w wr) (fun _ i _ => l.length - (intOf i).toNat)
  case atStart => exact ⟨0, Nat.zero_le _, rfl, rfl, Ext.refl _⟩
  case round =>
    obtain ⟨k, hk, rfl, rfl, hx⟩ := hrel
    have hle := msize_take_le sizeI l k
    by_cases hlt : k < l.length
    · have hsu := mdeep_take_succ deepI l k hlt
      have hs1 := msize_take_le sizeI l (k + 1)
      have hs2 := msize_mem sizeI l l[k] (List.getElem_mem hlt)
      obtain ⟨b, o, v0, v1, v2, v3, v4, v5, v6, v7, v8, rfl, hbB, hE, hC, o0, o1, o2, o3, o4, o5, o6, o7, o8⟩ := hrow.open9 hlt
      generalize l[k] = y at *
      obtain ⟨_, _, _, _, _, _, he, hX, hS, hL, hE', hP, hBb⟩ := RI_iff.1 hE
      simp only [List.cons.injEq, and_true] at he
      obtain ⟨rfl, rfl, rfl, rfl, rfl, rfl, rfl, rfl, rfl⟩ := he
      obtain ⟨d0, d1, d2, d3, d4, d5, d6, d7, d8⟩ := (hC.ext hx).get9
      have hdef := sizeI_eq y
      have hdd := deepI_eq y
      have hB' : B ≤ wr.heap.size := by have := hx.size; omega
      have q1 : msize sizeX y.x ≤ 1000000000 := by omega
      have q2 : msize sizeS y.s ≤ 1000000000 := by omega
      have q3 : msize sizeI y.l ≤ 1000000000 := by omega
      have q4 : msize sizeI y.els ≤ 1000000000 := by omega
      have q5 : msize sizeB y.params ≤ 1000000000 := by omega
      have q6 : msize sizeB y.binds ≤ 1000000000 := by omega
      have q7 : msize sizeI y.l < m := by omega
      have q8 : msize sizeI y.els < m := by omega
      have p1 := deepXL_le y.x
      have p2 := deepSL_le y.s
      have p3 := deepIL_le y.l
      have p4 := deepIL_le y.els
      have p5 := deepBL_le y.params
      have p6 := deepBL_le y.binds
      have QQ := hide (show mdeep deepI (l.take (k + 1)) = max (mdeep deepI (l.take k)) (1 + max (max (max (max (max (mdeep deepX y.x) (mdeep deepS y.s)) (mdeep deepI y.l)) (mdeep deepI y.els)) (mdeep deepB y.params)) (mdeep deepB y.binds)) by omega)
      generalize y.x = yx at *
      generalize y.s = ys at *
      generalize y.l = yl at *
      generalize y.els = ye at *
      generalize y.params = yp at *
      generalize y.binds = yb at *
      generalize y.op = yo at *
      generalize y.name = yn at *
      generalize y.of = yf at *
      have k0 : (0 : Int) ≤ (k : Int) := by omega
      have k1 : (k : Int) < (l.length : Int) := by omega
      clear hrow hE hsu hdef hdd hs2
      have HX := hide hX
      have HSs := hide hS
      have HL := hide hL
      have HE := hide hE'
      have HP := hide hP
      have HBb := hide hBb
      clear hC hX hS hL hE' hP hBb
      go_wp2_with fail
      obtain ⟨W1, hW1, hx1, hb1⟩ := box9 wr (.int .i64 yo) (.string yn) (.string yf) v3 v4 v5 v6 v7 v8 53
      rw [← hW1]
      clear hW1
      have hxw := hx.trans hx1
      obtain ⟨e0, e1, e2, e3, e4, e5, e6, e7, e8⟩ := hb1.later9
      have HB := fun e : Later W1 => Nat.le_trans hB' (hx1.trans e.ext).size
      clear d0 d1 d2 d3 d4 d5 d6 d7 d8
      refine wp_region_later (W := W1) (by kernel_rfl) (by kernel_rfl) (Ext.refl _) ?_
      repeat (go_big_quiet_step (first
        | (go_at_call 95; exact Later.calls (refDeepL_any B _ _ _ (HX.out.extRX (hxw.trans (Later.ext _)) hB) (HB _) q1))
        | (go_at_call 96; exact Later.calls (refDeepS_any B _ _ _ (HSs.out.extRS (hxw.trans (Later.ext _)) hB) (HB _) q2))
        | (go_at_call_of 63 v5; exact Later.calls (IH.out _ _ _ (HL.out.extRI (hxw.trans (Later.ext _)) hB) (HB _) q3 q7))
        | (go_at_call_of 63 v6; exact Later.calls (IH.out _ _ _ (HE.out.extRI (hxw.trans (Later.ext _)) hB) (HB _) q4 q8))
        | (go_at_call_of 62 v7; exact Later.calls (refDeepB_any B _ _ _ (HP.out.extRB (hxw.trans (Later.ext _)) hB) (HB _) q5))
        | (go_at_call_of 62 v8; exact Later.calls (refDeepB_any B _ _ _ (HBb.out.extRB (hxw.trans (Later.ext _)) hB) (HB _) q6))))
      refine wpQuiet_nil ?_
      rintro _ ⟨e, rfl⟩
      have hxe := hxw.trans e.ext
      go_wp2_with fail
      go_roundw
      case rel => exact ⟨k + 1, by omega, by go_num, by rw [QQ.out]; congr 1; omega, hxe⟩
      case measure => simp [intOf]; omega
    · go_wp2_with fail
      go_ret
      have : k = l.length := by omega
      subst this
      exact ⟨by simp, hx⟩
theorem refDeepI_any (B : Nat) (l : List Itm) (w : World) (v : Value) (hS : Sl (RI w B) w B 9 l v) (hB : B ≤ w.heap.size) (hsz : msize sizeI l ≤ 1000000000) :
    Calls Tryz.prog 63 #[v] w fun e w' => e = .returned (.int .i64 (mdeep deepI l)) ∧ Ext w w' :=
  refDeepI_lt B _ l w v hS hB hsz (Nat.lt_succ_self _)
end Go.Proofs.YtjoglnjpgkobeaaGreatDoor

/-
  THE CONTRACTS OF THE REFERENCE's COUNTING FUNCTIONS: files.
-/
namespace Go.Proofs.YtjoglnjpgkobeaaGreatDoor
open Go Go.RowKit
set_option linter.all false
set_option linter.unusedVariables false
set_option linter.unusedSimpArgs false
set_option linter.unusedVariables false
set_option linter.unusedSimpArgs false
attribute [local go_sem] run_store_one
set_option maxHeartbeats 2000000 in
theorem refSize_any (B : Nat) (l : List Mdl) (w : World) (v : Value) (hS : Sl (RM w B) w B 4 l v) (hB : B ≤ w.heap.size) (hsz : msize sizeM l ≤ 1000000000) :
    Calls Tryz.prog 30 #[.agg #[v]] w fun e w' => e = .returned (.int .i64 (msize sizeM l)) ∧ Ext w w' := by
  obtain ⟨a, cap, rfl, hcap, hrow⟩ := hS
  have hln := length_le_msize sizeM l sizeM_pos
  go_enter Tryz.func30, Tryz.ntmps30
  go_wp2_with fail
  obtain ⟨W0, hW0, hx0, hb0⟩ := box1 w (.slice a l.length cap) 24
  rw [← hW0]
  clear hW0
  go_loopw [3, 4] (fun r i wr => ∃ k : Nat, k ≤ l.length ∧ i = .int .i64 k ∧ r = .int .i64 (msize sizeM (l.take k) : Nat) ∧ Ext W0 wr) (fun _ i _ => l.length - (intOf i).toNat)
  case atStart => exact ⟨0, Nat.zero_le _, rfl, rfl, Ext.refl _⟩
  case round =>
    obtain ⟨k, hk, rfl, rfl, hxr⟩ := hrel
    have hx := hx0.trans hxr
    have c0 := (hb0.ext hxr).get1
    have hle := msize_take_le sizeM l k
    by_cases hlt : k < l.length
    · have hsu := msize_take_succ sizeM l k hlt
      have hs1 := msize_take_le sizeM l (k + 1)
      have hs2 := msize_mem sizeM l l[k] (List.getElem_mem hlt)
      have hss := msize_take_succ sizeM l k hlt
      obtain ⟨b, o, v0, v1, v2, v3, rfl, hbB, hE, hC, o0, o1, o2, o3⟩ := hrow.open4 hlt
      generalize l[k] = y at *
      obtain ⟨_, _, _, he, hP, hQ, hI⟩ := hE
      simp only [List.cons.injEq, and_true] at he
      obtain ⟨rfl, rfl, rfl, rfl⟩ := he
      obtain ⟨d0, d1, d2, d3⟩ := (hC.ext hx).get4
      have hdef : sizeM y = 1 + msize sizeB y.params + msize sizeP y.ports + msize sizeI y.items := rfl
      have hdd : deepM y = 1 + max (max (mdeep deepB y.params) (mdeep deepP y.ports)) (mdeep deepI y.items) := rfl
      have hB' : B ≤ wr.heap.size := by have := hx.size; omega
      have q1 : msize sizeB y.params ≤ 1000000000 := by omega
      have q2 : msize sizeI y.items ≤ 1000000000 := by omega
      have q3 : msize sizeP y.ports ≤ 1000000000 := by omega
      have p1 := deepBL_le y.params
      have p2 := deepIL_le y.items
      have p3 := deepPL_le y.ports
      have q4 : msize sizeM (l.take k) + 1 + msize sizeB y.params + msize sizeI y.items + msize sizeP y.ports ≤ 1000000000 := by omega
      have p4 := deepML_le (l.take k)
      have hpl := length_le_msize sizeP y.ports sizeP_pos
      have QQ := hide (show msize sizeM (l.take (k + 1)) = msize sizeM (l.take k) + 1 + msize sizeB y.params + msize sizeI y.items + msize sizeP y.ports by omega)
      generalize y.params = yp at *
      generalize y.ports = yq at *
      generalize y.items = yi at *
      generalize y.name = yn at *
      have k0 : (0 : Int) ≤ (k : Int) := by omega
      have k1 : (k : Int) < (l.length : Int) := by omega
      have HP := hide hP
      have HQ := hide hQ
      have HI := hide hI
      clear hrow hsu hss hdef hdd hs2 hP hQ hI hC
      go_wp2_with fail
      obtain ⟨W1, hW1, hx1, hb1⟩ := box4 wr (.string yn) v1 v2 v3 33
      rw [← hW1]
      clear hW1
      have hxw := hx.trans hx1
      obtain ⟨e0, e1, e2, e3⟩ := hb1.later4
      have HB := fun e : Later W1 => Nat.le_trans hB' (hx1.trans e.ext).size
      clear d0 d1 d2 d3
      refine wp_region_later (W := W1) (by kernel_rfl) (by kernel_rfl) (Ext.refl _) ?_
      repeat (go_big_quiet_step (first
        | (go_at_call 59; exact Later.calls (refSizeB_any B _ _ _ (HP.out.extRB (hxw.trans (Later.ext _)) hB) (HB _) q1))
        | (go_at_call 60; exact Later.calls (refSizeI_any B _ _ _ (HI.out.extRI (hxw.trans (Later.ext _)) hB) (HB _) q2))))
      refine wpQuiet_nil ?_
      rintro _ ⟨e, rfl⟩
      have hxe := hxw.trans e.ext
      obtain ⟨aq, cq, hvq, hcq, hrq⟩ := HQ.out.extRP hxe hB
      subst hvq
      have hbe := hb1.ext e.ext
      have hxo := (hxr.trans hx1).trans e.ext
      obtain ⟨W2, hW2⟩ : ∃ W2, W2 = e.w := ⟨_, rfl⟩
      rw [← hW2] at hxe hrq hbe hxo ⊢
      clear hW2 e e0 e1 e2 e3 HB hb1
      go_wp2_with fail
      go_loopw [3, 6] (fun r i wr => ∃ j : Nat, j ≤ yq.length ∧ i = .int .i64 j ∧ r = .int .i64 (msize sizeM (l.take k) + 1 + msize sizeB yp + msize sizeI yi + msize sizeP (yq.take j) : Nat) ∧ Ext W2 wr) (fun _ i _ => yq.length - (intOf i).toNat)
      case atStart => exact ⟨0, Nat.zero_le _, rfl, by simp [msize, mdeep], Ext.refl _⟩
      case round =>
        obtain ⟨j, hj, rfl, rfl, hx2⟩ := hrel
        obtain ⟨f0, f1, f2, f3⟩ := (hbe.ext hx2).get4
        have hle2 := msize_take_le sizeP yq j
        have hle3 := deepPL_le (yq.take j)
        by_cases hlt2 : j < yq.length
        · have hsu := msize_take_succ sizeP yq j hlt2
          have hss := msize_take_succ sizeP yq j hlt2
          have hs1 := msize_take_le sizeP yq (j + 1)
          obtain ⟨b2, o2, u0, u1, u2, u3, u4, u5, u6, u7, rfl, hb2, hE2, hC2, _⟩ := hrq.open8 hlt2
          generalize yq[j] = z at *
          obtain ⟨rfl, rfl, hX2⟩ := RP_iff.1 hE2
          obtain ⟨g0, g1, g2, g3, g4, g5, g6, g7⟩ := (hC2.ext hx2).get8
          have hxz := hX2.ext hx2 (by have := hxe.size; omega)
          have hz1 : sizeP z = 1 + sizeX z.w := rfl
          have hz2 : deepP z = 1 + deepX z.w := rfl
          have hz3 := deepX_le z.w
          have hz4 : sizeX z.w ≤ 1000000000 := by omega
          have hz5 : B ≤ W2.heap.size := by have := hxe.size; omega
          have SS := hide (show msize sizeP (yq.take (j + 1)) = msize sizeP (yq.take j) + 1 + sizeX z.w by omega)
          have hb9 : msize sizeM (l.take k) + 1 + msize sizeB yp + msize sizeI yi + msize sizeP (yq.take j) + 1 + sizeX z.w ≤ 1000000000 := by omega
          clear hsu hss hz1 hz2 hX2 hE2 hC2 hrq QQ
          go_wp2_with fail
          refine (refSizeX_any B z.w wr _ hxz (by have := hx2.size; omega) hz4).mono ?_
          rintro e w' ⟨rfl, hb'⟩
          go_wp2_with fail
          all_goals
            go_roundw
            case rel => exact ⟨j + 1, by omega, by go_num, by rw [SS.out]; go_num, hx2.trans hb'⟩
            case measure => simp [intOf]; omega
        · have : j = yq.length := by omega
          subst this
          go_wp2_with fail
          go_roundw
          case rel => exact ⟨k + 1, by omega, by go_num, by rw [QQ.out]; simp, hxo.trans hx2⟩
          case measure => simp [intOf]; omega
    · go_wp2_with fail
      go_ret
      have : k = l.length := by omega
      subst this
      exact ⟨by simp, hx⟩
theorem iteMax1 (a b : Nat) : (if a < b then (b : Int) else (a : Int)) = ((max a b : Nat) : Int) := by split <;> omega
theorem iteMax2 (a b : Nat) : (if (a : Int) < 1 + (b : Int) then 1 + (b : Int) else (a : Int)) = ((max a (1 + b) : Nat) : Int) := by split <;> omega
set_option maxHeartbeats 2000000 in
theorem refDeep_any (B : Nat) (l : List Mdl) (w : World) (v : Value) (hS : Sl (RM w B) w B 4 l v) (hB : B ≤ w.heap.size) (hsz : msize sizeM l ≤ 1000000000) :
    Calls Tryz.prog 31 #[.agg #[v]] w fun e w' => e = .returned (.int .i64 (mdeep deepM l)) ∧ Ext w w' := by
  obtain ⟨a, cap, rfl, hcap, hrow⟩ := hS
  have hln := length_le_msize sizeM l sizeM_pos
  go_enter Tryz.func31, Tryz.ntmps31
  go_wp2_with fail
  obtain ⟨W0, hW0, hx0, hb0⟩ := box1 w (.slice a l.length cap) 24
  rw [← hW0]
  clear hW0
  go_loopw [3, 4] (fun r i wr => ∃ k : Nat, k ≤ l.length ∧ i = .int .i64 k ∧ r = .int .i64 (mdeep deepM (l.take k) : Nat) ∧ Ext W0 wr) (fun _ i _ => l.length - (intOf i).toNat)
  case atStart => exact ⟨0, Nat.zero_le _, rfl, rfl, Ext.refl _⟩
  case round =>
    obtain ⟨k, hk, rfl, rfl, hxr⟩ := hrel
    have hx := hx0.trans hxr
    have c0 := (hb0.ext hxr).get1
    have hle := msize_take_le sizeM l k
    by_cases hlt : k < l.length
    · have hsu := mdeep_take_succ deepM l k hlt
      have hs1 := msize_take_le sizeM l (k + 1)
      have hs2 := msize_mem sizeM l l[k] (List.getElem_mem hlt)
      have hss := msize_take_succ sizeM l k hlt
      obtain ⟨b, o, v0, v1, v2, v3, rfl, hbB, hE, hC, o0, o1, o2, o3⟩ := hrow.open4 hlt
      generalize l[k] = y at *
      obtain ⟨_, _, _, he, hP, hQ, hI⟩ := hE
      simp only [List.cons.injEq, and_true] at he
      obtain ⟨rfl, rfl, rfl, rfl⟩ := he
      obtain ⟨d0, d1, d2, d3⟩ := (hC.ext hx).get4
      have hdef : sizeM y = 1 + msize sizeB y.params + msize sizeP y.ports + msize sizeI y.items := rfl
      have hdd : deepM y = 1 + max (max (mdeep deepB y.params) (mdeep deepP y.ports)) (mdeep deepI y.items) := rfl
      have hB' : B ≤ wr.heap.size := by have := hx.size; omega
      have q1 : msize sizeB y.params ≤ 1000000000 := by omega
      have q2 : msize sizeI y.items ≤ 1000000000 := by omega
      have q3 : msize sizeP y.ports ≤ 1000000000 := by omega
      have p1 := deepBL_le y.params
      have p2 := deepIL_le y.items
      have p3 := deepPL_le y.ports
      have q4 : msize sizeM (l.take k) + 1 + msize sizeB y.params + msize sizeI y.items + msize sizeP y.ports ≤ 1000000000 := by omega
      have p4 := deepML_le (l.take k)
      have hpl := length_le_msize sizeP y.ports sizeP_pos
      have QQ := hide (show mdeep deepM (l.take (k + 1)) = max (max (mdeep deepM (l.take k)) (1 + max (mdeep deepB y.params) (mdeep deepI y.items))) (if y.ports.length = 0 then 0 else 1 + mdeep deepP y.ports) by
        rw [hsu, hdd]
        split
        · rename_i h0
          rw [List.eq_nil_of_length_eq_zero h0]
          simp only [mdeep]; omega
        · omega)
      generalize y.params = yp at *
      generalize y.ports = yq at *
      generalize y.items = yi at *
      generalize y.name = yn at *
      have k0 : (0 : Int) ≤ (k : Int) := by omega
      have k1 : (k : Int) < (l.length : Int) := by omega
      have HP := hide hP
      have HQ := hide hQ
      have HI := hide hI
      clear hrow hsu hss hdef hdd hs2 hP hQ hI hC
      go_wp2_with fail
      obtain ⟨W1, hW1, hx1, hb1⟩ := box4 wr (.string yn) v1 v2 v3 33
      rw [← hW1]
      clear hW1
      have hxw := hx.trans hx1
      obtain ⟨e0, e1, e2, e3⟩ := hb1.later4
      have HB := fun e : Later W1 => Nat.le_trans hB' (hx1.trans e.ext).size
      clear d0 d1 d2 d3
      refine wp_region_later (W := W1) (by kernel_rfl) (by kernel_rfl) (Ext.refl _) ?_
      repeat (go_big_quiet_step (first
        | (go_at_call 62; exact Later.calls (refDeepB_any B _ _ _ (HP.out.extRB (hxw.trans (Later.ext _)) hB) (HB _) q1))
        | (go_at_call 63; exact Later.calls (refDeepI_any B _ _ _ (HI.out.extRI (hxw.trans (Later.ext _)) hB) (HB _) q2))))
      refine wpQuiet_nil ?_
      rintro _ ⟨e, rfl⟩
      try simp only [iteMax1, iteMax2]
      have hxe := hxw.trans e.ext
      obtain ⟨aq, cq, hvq, hcq, hrq⟩ := HQ.out.extRP hxe hB
      subst hvq
      have hbe := hb1.ext e.ext
      have hxo := (hxr.trans hx1).trans e.ext
      obtain ⟨W2, hW2⟩ : ∃ W2, W2 = e.w := ⟨_, rfl⟩
      rw [← hW2] at hxe hrq hbe hxo ⊢
      clear hW2 e e0 e1 e2 e3 HB hb1
      go_wp2_with fail
      go_loopw [3, 6] (fun r i wr => ∃ j : Nat, j ≤ yq.length ∧ i = .int .i64 j ∧ r = .int .i64 (max (max (mdeep deepM (l.take k)) (1 + max (mdeep deepB yp) (mdeep deepI yi))) (if j = 0 then 0 else 1 + mdeep deepP (yq.take j)) : Nat) ∧ Ext W2 wr) (fun _ i _ => yq.length - (intOf i).toNat)
      case atStart => exact ⟨0, Nat.zero_le _, rfl, by simp [msize, mdeep], Ext.refl _⟩
      case round =>
        obtain ⟨j, hj, rfl, rfl, hx2⟩ := hrel
        obtain ⟨f0, f1, f2, f3⟩ := (hbe.ext hx2).get4
        have hle2 := msize_take_le sizeP yq j
        have hle3 := deepPL_le (yq.take j)
        by_cases hlt2 : j < yq.length
        · have hsu := mdeep_take_succ deepP yq j hlt2
          have hss := msize_take_succ sizeP yq j hlt2
          have hs1 := msize_take_le sizeP yq (j + 1)
          obtain ⟨b2, o2, u0, u1, u2, u3, u4, u5, u6, u7, rfl, hb2, hE2, hC2, _⟩ := hrq.open8 hlt2
          generalize yq[j] = z at *
          obtain ⟨rfl, rfl, hX2⟩ := RP_iff.1 hE2
          obtain ⟨g0, g1, g2, g3, g4, g5, g6, g7⟩ := (hC2.ext hx2).get8
          have hxz := hX2.ext hx2 (by have := hxe.size; omega)
          have hz1 : sizeP z = 1 + sizeX z.w := rfl
          have hz2 : deepP z = 1 + deepX z.w := rfl
          have hz3 := deepX_le z.w
          have hz4 : sizeX z.w ≤ 1000000000 := by omega
          have hz5 : B ≤ W2.heap.size := by have := hxe.size; omega
          have SS := hide (show max (max (mdeep deepM (l.take k)) (1 + max (mdeep deepB yp) (mdeep deepI yi))) (if j + 1 = 0 then 0 else 1 + mdeep deepP (yq.take (j + 1))) = max (max (max (mdeep deepM (l.take k)) (1 + max (mdeep deepB yp) (mdeep deepI yi))) (if j = 0 then 0 else 1 + mdeep deepP (yq.take j))) (2 + deepX z.w) by
            rw [if_neg (Nat.succ_ne_zero j)]
            split
            · rename_i h0
              subst h0
              simp only [List.take_zero, mdeep] at hsu
              omega
            · omega)
          have hb9 : max (max (mdeep deepM (l.take k)) (1 + max (mdeep deepB yp) (mdeep deepI yi))) (if j = 0 then 0 else 1 + mdeep deepP (yq.take j)) ≤ 1000000001 := by split <;> omega
          generalize max (max (mdeep deepM (l.take k)) (1 + max (mdeep deepB yp) (mdeep deepI yi))) (if j = 0 then 0 else 1 + mdeep deepP (yq.take j)) = acc at *
          clear hsu hss hz1 hz2 hX2 hE2 hC2 hrq QQ
          go_wp2_with fail
          refine (refDeepX_any B z.w wr _ hxz (by have := hx2.size; omega) hz4).mono ?_
          rintro e w' ⟨rfl, hb'⟩
          go_wp2_with fail
          all_goals
            go_roundw
            case rel => exact ⟨j + 1, by omega, by go_num, by rw [SS.out]; congr 1; omega, hx2.trans hb'⟩
            case measure => simp [intOf]; omega
        · have : j = yq.length := by omega
          subst this
          go_wp2_with fail
          go_roundw
          case rel => exact ⟨k + 1, by omega, by go_num, by rw [QQ.out]; simp, hxo.trans hx2⟩
          case measure => simp [intOf]; omega
    · go_wp2_with fail
      go_ret
      have : k = l.length := by omega
      subst this
      exact ⟨by simp, hx⟩
end Go.Proofs.YtjoglnjpgkobeaaGreatDoor
