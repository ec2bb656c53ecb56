/-
  THE CONTRACTS OF PACKAGE ast's told, CheckX, CheckS, Check.
-/
import Derived.Test.YtonbgnaopkopoaaDoorGoodKnPk
import Derived.Test.YtonbgnaopkopoaaDoorMeasPk
import Derived.Test.YtonbgnaopkopoaaDoorFactsPk
import Derived.Test.YtonbgnaopkopoaaDoorToldPk
namespace Go.Proofs.YtonbgnaopkopoaaDoor
open Go Go.RowKit
set_option linter.all false
set_option linter.unusedVariables false
set_option linter.unusedSimpArgs false
set_option linter.unusedVariables false
set_option linter.unusedSimpArgs false
attribute [local go_sem] run_store_one

set_option maxRecDepth 20000 in
set_option maxHeartbeats 1000000 in
theorem told_any (f : Nat) (hcall : Enters Tryd.prog f) (c : Value) (n d : Nat) (b : Bool) (w : World) (hn : n ≤ 1000000000) (hd : d ≤ 1000000000)
    (hf : n ≤ 65536 → d ≤ 64 → ∀ w', Ext w w' → Calls Tryd.prog f #[c] w' fun e w'' => e = .returned (.bool b) ∧ Ext w' w'') :
    Calls Tryd.prog 43 #[meas n d, .func (.func f) #[] #[c]] w fun e w' => e = .returned (.int .i64 (told n d b)) ∧ Ext w w' := by
  unfold meas
  have hcf := hcall.out
  obtain ⟨res, hres⟩ : ∃ res, res = told n d b := ⟨_, rfl⟩
  rw [← hres]
  unfold told at hres
  obtain ⟨W1, e1, hV1, hx1, hs1, c0, c1⟩ := boxL2 w (.int .i64 n) (.int .i64 d) 66
  by_cases h1 : 65536 < n
  · rw [if_pos (.inl h1)] at hres
    subst hres
    have h1' : (65536 : Int) < n := by omega
    clear h1
    go_enter Tryd.func43, Tryd.ntmps43
    go_wp2_with fail
    go_ret
    exact ⟨rfl, hx1.trans (Later.ext _)⟩
  · have h1' : ¬ (65536 : Int) < n := by omega
    by_cases h2 : 64 < d
    · rw [if_pos (.inr h2)] at hres
      subst hres
      have h2' : (64 : Int) < d := by omega
      clear h1 h2
      go_enter Tryd.func43, Tryd.ntmps43
      go_wp2_with fail
      go_ret
      exact ⟨rfl, hx1.trans (Later.ext _)⟩
    · have h2' : ¬ (64 : Int) < d := by omega
      rw [if_neg (by omega)] at hres
      have G := hide (show ECalls Tryd.prog f #[c] W1 (.bool b) from fun w' hw => hf (by omega) (by omega) w' (hx1.trans hw))
      clear h1 h2 hf
      cases b
      all_goals
        simp only [if_true, Bool.false_eq_true, if_false] at hres
        subst hres
        go_enter Tryd.func43, Tryd.ntmps43
        go_wp2_with fail
        refine (G.out.at_ _).mono ?_
        rintro _ _ ⟨rfl, e, rfl⟩
        go_wp2_with fail
        go_ret
        exact ⟨rfl, hx1.trans (Later.ext _)⟩

theorem enters_closeX : Enters Tryd.prog 45 := ⟨fun _ _ => by kernel_rfl⟩
set_option maxRecDepth 20000 in
set_option maxHeartbeats 1000000 in
theorem CheckX_any (B : Nat) (x : X) (w : World) (cs : List Value) (hT : Tabs w) (hR : RX w B x cs) (hB : B ≤ w.heap.size) (hsz : sizeX x ≤ 1000000000) (hvx : VX x) :
    Calls Tryd.prog 31 #[.agg cs.toArray] w fun e w' => e = .returned (.int .i64 (told (sizeX x) (deepX x) (yes (MayX x)))) ∧ Ext w w' := by
  have HR := hide hR
  obtain ⟨a5, rfl, hS⟩ := RX_iff.1 hR
  have o5 := hS.oneCell
  have hdl := deepX_le x
  obtain ⟨W1, e1, hV1, hx1, hs1, c0, c1, c2, c3, c4, c5⟩ := boxL6 w (.int .i64 x.op) (.string x.name) (.int .i64 x.n) (.int .i64 x.w) (.int .u64 x.v) a5 25
  have hB1 : B ≤ W1.heap.size := Nat.le_trans hB hx1.size
  have G1 := hide (show ECalls Tryd.prog 44 #[.agg #[.int .i64 x.op, .string x.name, .int .i64 x.n, .int .i64 x.w, .int .u64 x.v, a5]] W1 (meas (sizeX x) (deepX x)) from
    fun w' hw => ofX_any B x w' _ (HR.out.ext (hx1.trans hw) hB) (Nat.le_trans hB1 hw.size) hsz)
  have GC := hide (fun (hn : sizeX x ≤ 65536) => show ECalls Tryd.prog 46 #[.agg #[.int .i64 x.op, .string x.name, .int .i64 x.n, .int .i64 x.w, .int .u64 x.v, a5]] W1 (.bool (yes (MayX x))) from
    fun w' hw => goodX_any B x w' _ (hT.ext (hx1.trans hw)) (HR.out.ext (hx1.trans hw) hB) (Nat.le_trans hB1 hw.size) hn hvx)
  have G2 := hide (show ECalls Tryd.prog 43 #[meas (sizeX x) (deepX x), .func (.func 45) #[] #[.pointer (some ⟨w.heap.size, 0, none⟩)]] W1 (.int .i64 (told (sizeX x) (deepX x) (yes (MayX x)))) from
    fun w' hw => told_any _ enters_closeX _ _ _ _ w' hsz (by omega) fun hn _ w2 hw2 => by
      have GG := hide (GC.out hn)
      obtain ⟨e2, he2⟩ := Later.mk_ex (hw.trans hw2)
      generalize yes (MayX x) = bb at *
      suffices h : Calls Tryd.prog 45 #[.pointer (some ⟨w.heap.size, 0, none⟩)] e2.w fun e w' => e = .returned (.bool bb) ∧ Ext e2.w w' by rw [he2]; exact h
      have hE := hide (Ext.refl e2.w)
      obtain ⟨W3, hW3⟩ : ∃ W3, W3 = e2.w := ⟨_, rfl⟩
      have hx3 : Ext W1 W3 := by rw [hW3]; exact e2.ext
      have GG := hide (GG.out.later hx3)
      have c0 := cellL c0 hx3
      have c1 := cellL c1 hx3
      have c2 := cellL c2 hx3
      have c3 := cellL c3 hx3
      have c4 := cellL c4 hx3
      have c5 := cellL c5 hx3
      rw [← hW3]
      obtain ⟨e4, he4⟩ := Later.mk_ex (Ext.refl W3)
      suffices h : Calls Tryd.prog 45 #[.pointer (some ⟨w.heap.size, 0, none⟩)] e4.w fun e w' => e = .returned (.bool bb) ∧ Ext W3 w' by rw [← he4] at h; exact h
      clear hW3 he4 he2 hE hV1 G1
      generalize w.heap.size = g at *
      go_enter Tryd.func45, Tryd.ntmps45
      go_wp2_with (go_at_call 46; refine (GG.out.at_ _).mono ?_; rintro _ _ ⟨rfl, e, rfl⟩)
      go_ret
      exact ⟨rfl, Later.ext _⟩)
  obtain ⟨r, hr⟩ : ∃ r, r = told (sizeX x) (deepX x) (yes (MayX x)) := ⟨_, rfl⟩
  rw [← hr] at G2 ⊢
  clear hR hS hvx hr GC HR hT
  generalize sizeX x = s1 at *
  generalize deepX x = s2 at *
  obtain ⟨mm, hmm⟩ : ∃ mm, mm = meas s1 s2 := ⟨_, rfl⟩
  rw [← hmm] at G1 G2
  clear hmm
  go_enter Tryd.func31, Tryd.ntmps31
  go_wp2_with (first
    | (go_at_call 44; refine (G1.out.at_ _).mono ?_; rintro _ _ ⟨rfl, e, rfl⟩)
    | (go_at_call 43; refine (G2.out.at_ _).mono ?_; rintro _ _ ⟨rfl, e, rfl⟩))
  go_ret
  exact ⟨rfl, hx1.trans (Later.ext _)⟩

/-- What Check says of modules. -/
noncomputable def checkF (l : List Mdl) : Int := if 64 < l.length then 2 else told (msize sizeM l) (mdeep deepM l) (yes (∀ m, m ∈ l → MayM m))

end Go.Proofs.YtonbgnaopkopoaaDoor
