/-
  THE CONTRACTS OF PACKAGE ast's told, CheckX, CheckS, Check.
-/
import Derived.Test.YtmpoheemnjpoeaaDoorGoodKnPk
import Derived.Test.YtmpoheemnjpoeaaDoorMeasIPk
import Derived.Test.YtmpoheemnjpoeaaDoorToldPk
namespace Go.Proofs.YtmpoheemnjpoeaaDoor
open Go Go.RowKit
set_option linter.all false
set_option linter.unusedVariables false
set_option linter.unusedSimpArgs false
set_option linter.unusedVariables false
set_option linter.unusedSimpArgs false
attribute [local go_sem] run_store_one

set_option maxRecDepth 20000 in
set_option maxHeartbeats 1000000 in
theorem told_any (f : Nat) (hcall : Enters Tryd.prog f) (c : Value) (n d : Nat) (b : Bool) (w : World) (hn : n ≤ 1000000000) (hd : d ≤ 1000000000)
    (hf : n ≤ 65536 → d ≤ 64 → ∀ w', Ext w w' → Calls Tryd.prog f #[c] w' fun e w'' => e = .returned (.bool b) ∧ Ext w' w'') :
    Calls Tryd.prog 39 #[meas n d, .func (.func f) #[] #[c]] w fun e w' => e = .returned (.int .i64 (told n d b)) ∧ Ext w w' := by
  unfold meas
  have hcf := hcall.out
  obtain ⟨res, hres⟩ : ∃ res, res = told n d b := ⟨_, rfl⟩
  rw [← hres]
  unfold told at hres
  obtain ⟨W1, e1, hV1, hx1, hs1, c0, c1⟩ := boxL2 w (.int .i64 n) (.int .i64 d) 65
  by_cases h1 : 65536 < n
  · rw [if_pos (.inl h1)] at hres
    subst hres
    have h1' : (65536 : Int) < n := by omega
    clear h1
    go_enter Tryd.func39, Tryd.ntmps39
    go_wp2_with fail
    go_ret
    exact ⟨rfl, hx1.trans (Later.ext _)⟩
  · have h1' : ¬ (65536 : Int) < n := by omega
    by_cases h2 : 64 < d
    · rw [if_pos (.inr h2)] at hres
      subst hres
      have h2' : (64 : Int) < d := by omega
      clear h1 h2
      go_enter Tryd.func39, Tryd.ntmps39
      go_wp2_with fail
      go_ret
      exact ⟨rfl, hx1.trans (Later.ext _)⟩
    · have h2' : ¬ (64 : Int) < d := by omega
      rw [if_neg (by omega)] at hres
      have G := hide (show ECalls Tryd.prog f #[c] W1 (.bool b) from fun w' hw => hf (by omega) (by omega) w' (hx1.trans hw))
      clear h1 h2 hf
      cases b
      all_goals
        simp only [if_true, Bool.false_eq_true, if_false] at hres
        subst hres
        go_enter Tryd.func39, Tryd.ntmps39
        go_wp2_with fail
        refine (G.out.at_ _).mono ?_
        rintro _ _ ⟨rfl, e, rfl⟩
        go_wp2_with fail
        go_ret
        exact ⟨rfl, hx1.trans (Later.ext _)⟩

theorem enters_closeX : Enters Tryd.prog 41 := ⟨fun _ _ => by kernel_rfl⟩
theorem enters_closeS : Enters Tryd.prog 46 := ⟨fun _ _ => by kernel_rfl⟩
theorem enters_closeF : Enters Tryd.prog 66 := ⟨fun _ _ => by kernel_rfl⟩

set_option maxRecDepth 20000 in
set_option maxHeartbeats 1000000 in
theorem CheckX_any (B : Nat) (x : X) (w : World) (cs : List Value) (hT : Tabs w) (hR : RX w B x cs) (hB : B ≤ w.heap.size) (hsz : sizeX x ≤ 1000000000) (hvx : VX x) :
    Calls Tryd.prog 14 #[.agg cs.toArray] w fun e w' => e = .returned (.int .i64 (told (sizeX x) (deepX x) (yes (MayX x)))) ∧ Ext w w' := by
  have HR := hide hR
  obtain ⟨a5, rfl, hS⟩ := RX_iff.1 hR
  have o5 := hS.oneCell
  have hdl := deepX_le x
  obtain ⟨W1, e1, hV1, hx1, hs1, c0, c1, c2, c3, c4, c5⟩ := boxL6 w (.int .i64 x.op) (.string x.name) (.int .i64 x.n) (.int .i64 x.w) (.int .u64 x.v) a5 25
  have hB1 : B ≤ W1.heap.size := Nat.le_trans hB hx1.size
  have G1 := hide (show ECalls Tryd.prog 40 #[.agg #[.int .i64 x.op, .string x.name, .int .i64 x.n, .int .i64 x.w, .int .u64 x.v, a5]] W1 (meas (sizeX x) (deepX x)) from
    fun w' hw => ofX_any B x w' _ (HR.out.ext (hx1.trans hw) hB) (Nat.le_trans hB1 hw.size) hsz)
  have GC := hide (fun (hn : sizeX x ≤ 65536) => show ECalls Tryd.prog 42 #[.agg #[.int .i64 x.op, .string x.name, .int .i64 x.n, .int .i64 x.w, .int .u64 x.v, a5]] W1 (.bool (yes (MayX x))) from
    fun w' hw => goodX_any B x w' _ (hT.ext (hx1.trans hw)) (HR.out.ext (hx1.trans hw) hB) (Nat.le_trans hB1 hw.size) hn hvx)
  have G2 := hide (show ECalls Tryd.prog 39 #[meas (sizeX x) (deepX x), .func (.func 41) #[] #[.pointer (some ⟨w.heap.size, 0, none⟩)]] W1 (.int .i64 (told (sizeX x) (deepX x) (yes (MayX x)))) from
    fun w' hw => told_any _ enters_closeX _ _ _ _ w' hsz (by omega) fun hn _ w2 hw2 => by
      have GG := hide (GC.out hn)
      obtain ⟨e2, he2⟩ := Later.mk_ex (hw.trans hw2)
      generalize yes (MayX x) = bb at *
      suffices h : Calls Tryd.prog 41 #[.pointer (some ⟨w.heap.size, 0, none⟩)] e2.w fun e w' => e = .returned (.bool bb) ∧ Ext e2.w w' by rw [he2]; exact h
      have hE := hide (Ext.refl e2.w)
      obtain ⟨W3, hW3⟩ : ∃ W3, W3 = e2.w := ⟨_, rfl⟩
      have hx3 : Ext W1 W3 := by rw [hW3]; exact e2.ext
      have GG := hide (GG.out.later hx3)
      have c0 := cellL c0 hx3
      have c1 := cellL c1 hx3
      have c2 := cellL c2 hx3
      have c3 := cellL c3 hx3
      have c4 := cellL c4 hx3
      have c5 := cellL c5 hx3
      rw [← hW3]
      obtain ⟨e4, he4⟩ := Later.mk_ex (Ext.refl W3)
      suffices h : Calls Tryd.prog 41 #[.pointer (some ⟨w.heap.size, 0, none⟩)] e4.w fun e w' => e = .returned (.bool bb) ∧ Ext W3 w' by rw [← he4] at h; exact h
      clear hW3 he4 he2 hE hV1 G1
      generalize w.heap.size = g at *
      go_enter Tryd.func41, Tryd.ntmps41
      go_wp2_with (go_at_call 42; refine (GG.out.at_ _).mono ?_; rintro _ _ ⟨rfl, e, rfl⟩)
      go_ret
      exact ⟨rfl, Later.ext _⟩)
  obtain ⟨r, hr⟩ : ∃ r, r = told (sizeX x) (deepX x) (yes (MayX x)) := ⟨_, rfl⟩
  rw [← hr] at G2 ⊢
  clear hR hS hvx hr GC HR hT
  generalize sizeX x = s1 at *
  generalize deepX x = s2 at *
  obtain ⟨mm, hmm⟩ : ∃ mm, mm = meas s1 s2 := ⟨_, rfl⟩
  rw [← hmm] at G1 G2
  clear hmm
  go_enter Tryd.func14, Tryd.ntmps14
  go_wp2_with (first
    | (go_at_call 40; refine (G1.out.at_ _).mono ?_; rintro _ _ ⟨rfl, e, rfl⟩)
    | (go_at_call 39; refine (G2.out.at_ _).mono ?_; rintro _ _ ⟨rfl, e, rfl⟩))
  go_ret
  exact ⟨rfl, hx1.trans (Later.ext _)⟩

set_option maxRecDepth 20000 in
set_option maxHeartbeats 1000000 in
theorem CheckS_any (B : Nat) (x : S) (w : World) (cs : List Value) (hT : Tabs w) (hR : RS w B x cs) (hB : B ≤ w.heap.size) (hsz : sizeS x ≤ 1000000000) (hvx : VS x) :
    Calls Tryd.prog 16 #[.agg cs.toArray] w fun e w' => e = .returned (.int .i64 (told (sizeS x) (deepS x) (yes (MayS x)))) ∧ Ext w w' := by
  have HR := hide hR
  obtain ⟨a2, a3, rfl, hS2, hS3⟩ := RS_iff.1 hR
  have o2 := hS2.oneCell
  have o3 := hS3.oneCell
  have hdl := deepS_le x
  obtain ⟨W1, e1, hV1, hx1, hs1, c0, c1, c2, c3⟩ := boxL4 w (.int .i64 x.op) (.string x.name) a2 a3 28
  have hB1 : B ≤ W1.heap.size := Nat.le_trans hB hx1.size
  have G1 := hide (show ECalls Tryd.prog 45 #[.agg #[.int .i64 x.op, .string x.name, a2, a3]] W1 (meas (sizeS x) (deepS x)) from
    fun w' hw => ofS_any B x w' _ (HR.out.ext (hx1.trans hw) hB) (Nat.le_trans hB1 hw.size) hsz)
  have GC := hide (fun (hn : sizeS x ≤ 65536) => show ECalls Tryd.prog 47 #[.agg #[.int .i64 x.op, .string x.name, a2, a3]] W1 (.bool (yes (MayS x))) from
    fun w' hw => goodS_any B x hvx hn w' _ (hT.ext (hx1.trans hw)) (HR.out.ext (hx1.trans hw) hB) (Nat.le_trans hB1 hw.size))
  have G2 := hide (show ECalls Tryd.prog 39 #[meas (sizeS x) (deepS x), .func (.func 46) #[] #[.pointer (some ⟨w.heap.size, 0, none⟩)]] W1 (.int .i64 (told (sizeS x) (deepS x) (yes (MayS x)))) from
    fun w' hw => told_any _ enters_closeS _ _ _ _ w' hsz (by omega) fun hn _ w2 hw2 => by
      have GG := hide (GC.out hn)
      obtain ⟨W3, hW3⟩ : ∃ W3, W3 = w2 := ⟨_, rfl⟩
      have hx3 : Ext W1 W3 := by rw [hW3]; exact hw.trans hw2
      have GG := hide (GG.out.later hx3)
      have c0 := cellL c0 hx3
      have c1 := cellL c1 hx3
      have c2 := cellL c2 hx3
      have c3 := cellL c3 hx3
      rw [← hW3]
      obtain ⟨e4, he4⟩ := Later.mk_ex (Ext.refl W3)
      generalize yes (MayS x) = bb at *
      suffices h : Calls Tryd.prog 46 #[.pointer (some ⟨w.heap.size, 0, none⟩)] e4.w fun e w' => e = .returned (.bool bb) ∧ Ext W3 w' by rw [← he4] at h; exact h
      clear hW3 he4 hV1 G1
      generalize w.heap.size = g at *
      go_enter Tryd.func46, Tryd.ntmps46
      go_wp2_with (go_at_call 47; refine (GG.out.at_ _).mono ?_; rintro _ _ ⟨rfl, e, rfl⟩)
      go_ret
      exact ⟨rfl, Later.ext _⟩)
  obtain ⟨r, hr⟩ : ∃ r, r = told (sizeS x) (deepS x) (yes (MayS x)) := ⟨_, rfl⟩
  rw [← hr] at G2 ⊢
  clear hR hS2 hS3 hvx hr GC HR hT
  generalize sizeS x = s1 at *
  generalize deepS x = s2 at *
  obtain ⟨mm, hmm⟩ : ∃ mm, mm = meas s1 s2 := ⟨_, rfl⟩
  rw [← hmm] at G1 G2
  clear hmm
  go_enter Tryd.func16, Tryd.ntmps16
  go_wp2_with (first
    | (go_at_call 45; refine (G1.out.at_ _).mono ?_; rintro _ _ ⟨rfl, e, rfl⟩)
    | (go_at_call 39; refine (G2.out.at_ _).mono ?_; rintro _ _ ⟨rfl, e, rfl⟩))
  go_ret
  exact ⟨rfl, hx1.trans (Later.ext _)⟩

/-- What Check says of modules. -/
noncomputable def checkF (l : List Mdl) : Int := if 64 < l.length then 2 else told (msize sizeM l) (mdeep deepM l) (yes (∀ m, m ∈ l → MayM m))

set_option maxRecDepth 20000 in
set_option maxHeartbeats 1000000 in
theorem Check_any (B : Nat) (l : List Mdl) (w : World) (v : Value) (hT : Tabs w) (hS : Sl (RM w B) w B 4 l v) (hB : B ≤ w.heap.size) (hsz : msize sizeM l ≤ 1000000000) (hvx : ∀ m, m ∈ l → VM m) :
    Calls Tryd.prog 31 #[.agg #[v]] w fun e w' => e = .returned (.int .i64 (checkF l)) ∧ Ext w w' := by
  have HS := hide hS
  have hov := hS.oneCell
  have hdl := deepML_le l
  have hln := length_le_msize sizeM l sizeM_pos
  obtain ⟨W1, e1, hV1, hx1, hs1, c0⟩ := boxL1 w v 41
  have hB1 : B ≤ W1.heap.size := Nat.le_trans hB hx1.size
  have G1 := hide (show ECalls Tryd.prog 64 #[v, .func (.func 65) #[] #[]] W1 (meas (msize sizeM l) (mdeep deepM l)) from
    fun w' hw => sumMdl_any _ enters_ofM sizeM deepM B l (fun y hy w3 cs h1 h2 => ofM_any B y w3 cs h1 h2 (by have := msize_mem sizeM l y hy; omega)) w' v (HS.out.extRM (hx1.trans hw) hB) (Nat.le_trans hB1 hw.size) hsz sizeM_pos)
  have GC := hide (fun (hn : msize sizeM l ≤ 65536) => show ECalls Tryd.prog 67 #[v, .func (.func 68) #[] #[]] W1 (.bool (yes (∀ m, m ∈ l → MayM m))) from
    fun w' hw => allMdl_any _ enters_goodM MayM B l w' (fun y hy w3 cs hx h1 h2 => goodM_any B y w3 cs (hT.ext ((hx1.trans hw).trans hx)) h1 h2 (by have := msize_mem sizeM l y hy; omega) (hvx y hy)) v (HS.out.extRM (hx1.trans hw) hB) (Nat.le_trans hB1 hw.size) (by omega))
  have G2 := hide (show ECalls Tryd.prog 39 #[meas (msize sizeM l) (mdeep deepM l), .func (.func 66) #[] #[.pointer (some ⟨w.heap.size, 0, none⟩)]] W1 (.int .i64 (told (msize sizeM l) (mdeep deepM l) (yes (∀ m, m ∈ l → MayM m)))) from
    fun w' hw => told_any _ enters_closeF _ _ _ _ w' hsz (by omega) fun hn _ w2 hw2 => by
      have GG := hide (GC.out hn)
      obtain ⟨W3, hW3⟩ : ∃ W3, W3 = w2 := ⟨_, rfl⟩
      have hx3 : Ext W1 W3 := by rw [hW3]; exact hw.trans hw2
      have GG := hide (GG.out.later hx3)
      have c0 := cellL c0 hx3
      rw [← hW3]
      obtain ⟨e4, he4⟩ := Later.mk_ex (Ext.refl W3)
      generalize yes (∀ m, m ∈ l → MayM m) = bb at *
      suffices h : Calls Tryd.prog 66 #[.pointer (some ⟨w.heap.size, 0, none⟩)] e4.w fun e w' => e = .returned (.bool bb) ∧ Ext W3 w' by rw [← he4] at h; exact h
      clear hW3 he4 hV1 G1
      generalize w.heap.size = g at *
      go_enter Tryd.func66, Tryd.ntmps66
      go_wp2_with (go_at_call 67; refine (GG.out.at_ _).mono ?_; rintro _ _ ⟨rfl, e, rfl⟩)
      go_ret
      exact ⟨rfl, Later.ext _⟩)
  obtain ⟨sa, cap, rfl, -, -⟩ := hS
  unfold checkF
  by_cases h64 : 64 < l.length
  · rw [if_pos h64]
    have h64' : (64 : Int) < l.length := by omega
    clear hvx GC HS hT G1 G2 h64
    go_enter Tryd.func31, Tryd.ntmps31
    go_wp2_with fail
    go_ret
    exact ⟨rfl, hx1.trans (Later.ext _)⟩
  · rw [if_neg h64]
    have h64' : ¬ (64 : Int) < l.length := by omega
    obtain ⟨r, hr⟩ : ∃ r, r = told (msize sizeM l) (mdeep deepM l) (yes (∀ m, m ∈ l → MayM m)) := ⟨_, rfl⟩
    rw [← hr] at G2 ⊢
    clear hvx hr GC HS hT h64
    generalize msize sizeM l = s1 at *
    generalize mdeep deepM l = s2 at *
    obtain ⟨mm, hmm⟩ : ∃ mm, mm = meas s1 s2 := ⟨_, rfl⟩
    rw [← hmm] at G1 G2
    clear hmm
    go_enter Tryd.func31, Tryd.ntmps31
    go_wp2_with (first
      | (go_at_call 64; refine (G1.out.at_ _).mono ?_; rintro _ _ ⟨rfl, e, rfl⟩)
      | (go_at_call 39; refine (G2.out.at_ _).mono ?_; rintro _ _ ⟨rfl, e, rfl⟩))
    go_ret
    exact ⟨rfl, hx1.trans (Later.ext _)⟩

end Go.Proofs.YtmpoheemnjpoeaaDoor
