/-
  THE CONTRACTS OF PACKAGE ast's told, CheckX, CheckS, Check.
-/
import Derived.Test.YtjoglnjpgkobeaaGreatDoorGoodKnPk
import Derived.Test.YtjoglnjpgkobeaaGreatDoorMeasIPk
import Derived.Test.YtjoglnjpgkobeaaGreatDoorToldPk
namespace Go.Proofs.YtjoglnjpgkobeaaGreatDoor
open Go Go.RowKit
set_option linter.all false
set_option linter.unusedVariables false
set_option linter.unusedSimpArgs false
set_option linter.unusedVariables false
set_option linter.unusedSimpArgs false
attribute [local go_sem] run_store_one

set_option maxRecDepth 20000 in
set_option maxHeartbeats 1000000 in
theorem told_any (f : Nat) (hcall : Enters Tryz.prog f) (c : Value) (n d : Nat) (b : Bool) (w : World) (hn : n ≤ 1000000000) (hd : d ≤ 1000000000)
    (hf : n ≤ 65536 → d ≤ 64 → ∀ w', Ext w w' → Calls Tryz.prog f #[c] w' fun e w'' => e = .returned (.bool b) ∧ Ext w' w'') :
    Calls Tryz.prog 54 #[meas n d, .func (.func f) #[] #[c]] w fun e w' => e = .returned (.int .i64 (told n d b)) ∧ Ext w w' := by
  unfold meas
  have hcf := hcall.out
  obtain ⟨res, hres⟩ : ∃ res, res = told n d b := ⟨_, rfl⟩
  rw [← hres]
  unfold told at hres
  obtain ⟨W1, e1, hV1, hx1, hs1, c0, c1⟩ := boxL2 w (.int .i64 n) (.int .i64 d) 79
  by_cases h1 : 65536 < n
  · rw [if_pos (.inl h1)] at hres
    subst hres
    have h1' : (65536 : Int) < n := by omega
    clear h1
    go_enter Tryz.func54, Tryz.ntmps54
    go_wp2_with fail
    go_ret
    exact ⟨rfl, hx1.trans (Later.ext _)⟩
  · have h1' : ¬ (65536 : Int) < n := by omega
    by_cases h2 : 64 < d
    · rw [if_pos (.inr h2)] at hres
      subst hres
      have h2' : (64 : Int) < d := by omega
      clear h1 h2
      go_enter Tryz.func54, Tryz.ntmps54
      go_wp2_with fail
      go_ret
      exact ⟨rfl, hx1.trans (Later.ext _)⟩
    · have h2' : ¬ (64 : Int) < d := by omega
      rw [if_neg (by omega)] at hres
      have G := hide (show ECalls Tryz.prog f #[c] W1 (.bool b) from fun w' hw => hf (by omega) (by omega) w' (hx1.trans hw))
      clear h1 h2 hf
      cases b
      all_goals
        simp only [if_true, Bool.false_eq_true, if_false] at hres
        subst hres
        go_enter Tryz.func54, Tryz.ntmps54
        go_wp2_with fail
        refine (G.out.at_ _).mono ?_
        rintro _ _ ⟨rfl, e, rfl⟩
        go_wp2_with fail
        go_ret
        exact ⟨rfl, hx1.trans (Later.ext _)⟩

theorem enters_closeX : Enters Tryz.prog 56 := ⟨fun _ _ => by kernel_rfl⟩
theorem enters_closeF : Enters Tryz.prog 67 := ⟨fun _ _ => by kernel_rfl⟩

set_option maxRecDepth 20000 in
set_option maxHeartbeats 1000000 in
theorem CheckX_any (B : Nat) (x : X) (w : World) (cs : List Value) (hT : Tabs w) (hR : RX w B x cs) (hB : B ≤ w.heap.size) (hsz : sizeX x ≤ 1000000000) (hvx : VX x) :
    Calls Tryz.prog 22 #[.agg cs.toArray] w fun e w' => e = .returned (.int .i64 (told (sizeX x) (deepX x) (yes (MayX x)))) ∧ Ext w w' := by
  have HR := hide hR
  obtain ⟨a5, rfl, hS⟩ := RX_iff.1 hR
  have o5 := hS.oneCell
  have hdl := deepX_le x
  obtain ⟨W1, e1, hV1, hx1, hs1, c0, c1, c2, c3, c4, c5⟩ := boxL6 w (.int .i64 x.op) (.string x.name) (.int .i64 x.n) (.int .i64 x.w) (.int .u64 x.v) a5 49
  have hB1 : B ≤ W1.heap.size := Nat.le_trans hB hx1.size
  have G1 := hide (show ECalls Tryz.prog 55 #[.agg #[.int .i64 x.op, .string x.name, .int .i64 x.n, .int .i64 x.w, .int .u64 x.v, a5]] W1 (meas (sizeX x) (deepX x)) from
    fun w' hw => ofX_any B x w' _ (HR.out.ext (hx1.trans hw) hB) (Nat.le_trans hB1 hw.size) hsz)
  have GC := hide (fun (hn : sizeX x ≤ 65536) => show ECalls Tryz.prog 57 #[.agg #[.int .i64 x.op, .string x.name, .int .i64 x.n, .int .i64 x.w, .int .u64 x.v, a5]] W1 (.bool (yes (MayX x))) from
    fun w' hw => goodX_any B x w' _ (hT.ext (hx1.trans hw)) (HR.out.ext (hx1.trans hw) hB) (Nat.le_trans hB1 hw.size) hn hvx)
  have G2 := hide (show ECalls Tryz.prog 54 #[meas (sizeX x) (deepX x), .func (.func 56) #[] #[.pointer (some ⟨w.heap.size, 0, none⟩)]] W1 (.int .i64 (told (sizeX x) (deepX x) (yes (MayX x)))) from
    fun w' hw => told_any _ enters_closeX _ _ _ _ w' hsz (by omega) fun hn _ w2 hw2 => by
      have GG := hide (GC.out hn)
      obtain ⟨e2, he2⟩ := Later.mk_ex (hw.trans hw2)
      generalize yes (MayX x) = bb at *
      suffices h : Calls Tryz.prog 56 #[.pointer (some ⟨w.heap.size, 0, none⟩)] e2.w fun e w' => e = .returned (.bool bb) ∧ Ext e2.w w' by rw [he2]; exact h
      have hE := hide (Ext.refl e2.w)
      obtain ⟨W3, hW3⟩ : ∃ W3, W3 = e2.w := ⟨_, rfl⟩
      have hx3 : Ext W1 W3 := by rw [hW3]; exact e2.ext
      have GG := hide (GG.out.later hx3)
      have c0 := cellL c0 hx3
      have c1 := cellL c1 hx3
      have c2 := cellL c2 hx3
      have c3 := cellL c3 hx3
      have c4 := cellL c4 hx3
      have c5 := cellL c5 hx3
      rw [← hW3]
      obtain ⟨e4, he4⟩ := Later.mk_ex (Ext.refl W3)
      suffices h : Calls Tryz.prog 56 #[.pointer (some ⟨w.heap.size, 0, none⟩)] e4.w fun e w' => e = .returned (.bool bb) ∧ Ext W3 w' by rw [← he4] at h; exact h
      clear hW3 he4 he2 hE hV1 G1
      generalize w.heap.size = g at *
      go_enter Tryz.func56, Tryz.ntmps56
      go_wp2_with (go_at_call 57; refine (GG.out.at_ _).mono ?_; rintro _ _ ⟨rfl, e, rfl⟩)
      go_ret
      exact ⟨rfl, Later.ext _⟩)
  obtain ⟨r, hr⟩ : ∃ r, r = told (sizeX x) (deepX x) (yes (MayX x)) := ⟨_, rfl⟩
  rw [← hr] at G2 ⊢
  clear hR hS hvx hr GC HR hT
  generalize sizeX x = s1 at *
  generalize deepX x = s2 at *
  obtain ⟨mm, hmm⟩ : ∃ mm, mm = meas s1 s2 := ⟨_, rfl⟩
  rw [← hmm] at G1 G2
  clear hmm
  go_enter Tryz.func22, Tryz.ntmps22
  go_wp2_with (first
    | (go_at_call 55; refine (G1.out.at_ _).mono ?_; rintro _ _ ⟨rfl, e, rfl⟩)
    | (go_at_call 54; refine (G2.out.at_ _).mono ?_; rintro _ _ ⟨rfl, e, rfl⟩))
  go_ret
  exact ⟨rfl, hx1.trans (Later.ext _)⟩

/-- What Check says of modules. -/
noncomputable def checkF (l : List Mdl) : Int := if 64 < l.length then 2 else told (msize sizeM l) (mdeep deepM l) (yes (∀ m, m ∈ l → MayM m))

set_option maxRecDepth 20000 in
set_option maxHeartbeats 1000000 in
theorem Check_any (B : Nat) (l : List Mdl) (w : World) (v : Value) (hT : Tabs w) (hS : Sl (RM w B) w B 4 l v) (hB : B ≤ w.heap.size) (hsz : msize sizeM l ≤ 1000000000) (hvx : ∀ m, m ∈ l → VM m) :
    Calls Tryz.prog 32 #[.agg #[v]] w fun e w' => e = .returned (.int .i64 (checkF l)) ∧ Ext w w' := by
  have HS := hide hS
  have hov := hS.oneCell
  have hdl := deepML_le l
  have hln := length_le_msize sizeM l sizeM_pos
  obtain ⟨W1, e1, hV1, hx1, hs1, c0⟩ := boxL1 w v 24
  have hB1 : B ≤ W1.heap.size := Nat.le_trans hB hx1.size
  have G1 := hide (show ECalls Tryz.prog 65 #[v, .func (.func 66) #[] #[]] W1 (meas (msize sizeM l) (mdeep deepM l)) from
    fun w' hw => sumMdl_any _ enters_ofM sizeM deepM B l (fun y hy w3 cs h1 h2 => ofM_any B y w3 cs h1 h2 (by have := msize_mem sizeM l y hy; omega)) w' v (HS.out.extRM (hx1.trans hw) hB) (Nat.le_trans hB1 hw.size) hsz sizeM_pos)
  have GC := hide (fun (hn : msize sizeM l ≤ 65536) => show ECalls Tryz.prog 68 #[v, .func (.func 69) #[] #[]] W1 (.bool (yes (∀ m, m ∈ l → MayM m))) from
    fun w' hw => allMdl_any _ enters_goodM MayM B l w' (fun y hy w3 cs hx h1 h2 => goodM_any B y w3 cs (hT.ext ((hx1.trans hw).trans hx)) h1 h2 (by have := msize_mem sizeM l y hy; omega) (hvx y hy)) v (HS.out.extRM (hx1.trans hw) hB) (Nat.le_trans hB1 hw.size) (by omega))
  have G2 := hide (show ECalls Tryz.prog 54 #[meas (msize sizeM l) (mdeep deepM l), .func (.func 67) #[] #[.pointer (some ⟨w.heap.size, 0, none⟩)]] W1 (.int .i64 (told (msize sizeM l) (mdeep deepM l) (yes (∀ m, m ∈ l → MayM m)))) from
    fun w' hw => told_any _ enters_closeF _ _ _ _ w' hsz (by omega) fun hn _ w2 hw2 => by
      have GG := hide (GC.out hn)
      obtain ⟨W3, hW3⟩ : ∃ W3, W3 = w2 := ⟨_, rfl⟩
      have hx3 : Ext W1 W3 := by rw [hW3]; exact hw.trans hw2
      have GG := hide (GG.out.later hx3)
      have c0 := cellL c0 hx3
      rw [← hW3]
      obtain ⟨e4, he4⟩ := Later.mk_ex (Ext.refl W3)
      generalize yes (∀ m, m ∈ l → MayM m) = bb at *
      suffices h : Calls Tryz.prog 67 #[.pointer (some ⟨w.heap.size, 0, none⟩)] e4.w fun e w' => e = .returned (.bool bb) ∧ Ext W3 w' by rw [← he4] at h; exact h
      clear hW3 he4 hV1 G1
      generalize w.heap.size = g at *
      go_enter Tryz.func67, Tryz.ntmps67
      go_wp2_with (go_at_call 68; refine (GG.out.at_ _).mono ?_; rintro _ _ ⟨rfl, e, rfl⟩)
      go_ret
      exact ⟨rfl, Later.ext _⟩)
  obtain ⟨sa, cap, rfl, -, -⟩ := hS
  unfold checkF
  by_cases h64 : 64 < l.length
  · rw [if_pos h64]
    have h64' : (64 : Int) < l.length := by omega
    clear hvx GC HS hT G1 G2 h64
    go_enter Tryz.func32, Tryz.ntmps32
    go_wp2_with fail
    go_ret
    exact ⟨rfl, hx1.trans (Later.ext _)⟩
  · rw [if_neg h64]
    have h64' : ¬ (64 : Int) < l.length := by omega
    obtain ⟨r, hr⟩ : ∃ r, r = told (msize sizeM l) (mdeep deepM l) (yes (∀ m, m ∈ l → MayM m)) := ⟨_, rfl⟩
    rw [← hr] at G2 ⊢
    clear hvx hr GC HS hT h64
    generalize msize sizeM l = s1 at *
    generalize mdeep deepM l = s2 at *
    obtain ⟨mm, hmm⟩ : ∃ mm, mm = meas s1 s2 := ⟨_, rfl⟩
    rw [← hmm] at G1 G2
    clear hmm
    go_enter Tryz.func32, Tryz.ntmps32
    go_wp2_with (first
      | (go_at_call 65; refine (G1.out.at_ _).mono ?_; rintro _ _ ⟨rfl, e, rfl⟩)
      | (go_at_call 54; refine (G2.out.at_ _).mono ?_; rintro _ _ ⟨rfl, e, rfl⟩))
    go_ret
    exact ⟨rfl, hx1.trans (Later.ext _)⟩

end Go.Proofs.YtjoglnjpgkobeaaGreatDoor
