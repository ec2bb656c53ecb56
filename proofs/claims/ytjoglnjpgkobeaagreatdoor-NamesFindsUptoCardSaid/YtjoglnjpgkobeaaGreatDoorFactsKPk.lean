/-
  REGIONS WITH A CLAIM: small laws on what is listed.
-/
import Derived.Test.YtjoglnjpgkobeaaGreatDoorFactsPk
import Derived.Test.YtjoglnjpgkobeaaGreatDoorNStrPk
namespace Go.Proofs.YtjoglnjpgkobeaaGreatDoor
open Go Go.RowKit
set_option linter.all false
set_option linter.unusedVariables false
set_option linter.unusedSimpArgs false

theorem haf_on {o : Oper} {L : Nat → Bool} (haf : ∀ e ∈ o.after, Region.binds .any e = true → L e.on = true) (j : Nat) (h : (o.after.any fun e => Region.binds .any e && e.on == j) = true) : L j = true := by
  obtain ⟨e, he, hb⟩ := Array.any_eq_true'.1 h
  simp only [Bool.and_eq_true, beq_iff_eq] at hb
  rw [← hb.2]
  exact haf e he hb.1
theorem or_beq_ne {L : Nat → Bool} {i j : Nat} (h : (j == i) = false) : (fun j => L j || j == i) j = L j := by show (L j || j == i) = L j; rw [h, Bool.or_false]
theorem or_beq_eq {L : Nat → Bool} {i : Nat} : (fun j => L j || j == i) i = true := by simp
/-- A temporary that is read by one operation, and written by a later one. -/
def onceJ (r o t : Nat) (v : Value) (L : Nat → Bool) (τ : Tmp → Value) (_ : World) : Prop := (L o = true → L r = true) ∧ (L o = false → τ t = v)
theorem onceJ_looks (r o t : Nat) (v : Value) : Looks (onceJ r o t v) [r, o] [t] := by
  intro L L' τ τ' w w' hL hτ hx ⟨h1, h2⟩
  unfold onceJ
  rw [hL r (by simp), hL o (by simp), hτ t (by simp)]
  exact ⟨h1, h2⟩
theorem onceJ_read {r o t : Nat} {v u : Value} {L : Nat → Bool} {A : Act} {d : Option Tmp} {w w' : World} (hro : (o == r) = false) (hd : d ≠ some t) (h : onceJ r o t v L (tau A) w) : onceJ r o t v (fun j => L j || j == r) (tau (A.put d u)) w' := by
  unfold onceJ
  rw [or_beq_eq, or_beq_ne hro, tau_put hd]
  exact ⟨fun _ => rfl, h.2⟩
theorem onceJ_at {r o t : Nat} {v : Value} {L : Nat → Bool} {τ : Tmp → Value} {w : World} (h : onceJ r o t v L τ w) (hr : L r = false) : τ t = v := by
  refine h.2 ?_
  cases ho : L o with
  | false => rfl
  | true => rw [h.1 ho] at hr; cases hr
theorem onceJ_write {r o t : Nat} {v u : Value} {L : Nat → Bool} {A : Act} {w w' : World} (hro : (r == o) = false) (hr : L r = true) : onceJ r o t v (fun j => L j || j == o) (tau (A.put (some t) u)) w' := by
  unfold onceJ
  rw [or_beq_eq, or_beq_ne hro]
  exact ⟨fun _ => hr, fun h => (by cases h)⟩

end Go.Proofs.YtjoglnjpgkobeaaGreatDoor

/-
  THE DOCUMENT's ANSWER OF CHAPTER 07: more, tell.
-/
namespace Go.Proofs.YtjoglnjpgkobeaaGreatDoor
open Go Go.RowKit
set_option linter.all false
set_option linter.unusedVariables false
set_option linter.unusedSimpArgs false
set_option linter.unusedVariables false
set_option linter.unusedSimpArgs false
attribute [local go_sem] run_store_one

theorem row_kept_ext {w w' : World} {base : Nat} {e : TypeId} {sz n : Nat} {v : Value} {xs : List Value} (h : w.ownsRow base e sz v n xs) (hx : Ext w w') : w'.ownsRow base e sz v n xs :=
  h.kept (Ext.grow hx) (by cases v.ownBlock <;> simp)
theorem row_shape {w : World} {base : Nat} {t : TypeId} {sz n : Nat} {v : Value} {xs : List Value} (h : w.ownsRow base t sz v n xs) : ∃ a cap, v = .slice a n cap := by
  rcases h.2 with ⟨rfl, rfl⟩ | ⟨g, cap, cur, rfl, -⟩ <;> exact ⟨_, _, rfl⟩
set_option maxRecDepth 20000 in
set_option maxHeartbeats 4000000 in
theorem rmore_any (l : List ByteArray) (s : ByteArray) (w : World) (v : Value) (hS : SStr w l v) (hln : l.length ≤ 500000000) :
    Calls Tryz.prog 53 #[v, .string s] w fun e w' => ∃ v', e = .returned v' ∧ SStr w' (addOne l s) v' ∧ Ext w w' := by
  have KA := hide (refAmong_any l s w v hS (by omega))
  have HS := hide hS
  obtain ⟨la, lc, rfl, hlc, -⟩ := hS
  by_cases hin : s ∈ l
  · rw [yes_iff.2 hin] at KA
    have HI := hide (addOne_in hin)
    clear hin
    go_enter Tryz.func53, Tryz.ntmps53
    go_wp2_with (go_at_call 26; refine KA.out.mono ?_; rintro _ _ ⟨rfl, rfl⟩)
    go_ret
    exact ⟨_, rfl, by rw [HI.out]; exact HS.out, Ext.refl _⟩
  · rw [yes_no.2 hin] at KA
    have HI := hide (addOne_out hin)
    clear hin
    have hfl0 := Flat.strs HS.out
    obtain ⟨ti, hti, htz, hts, htb⟩ := info_parts infoT
    obtain ⟨Ws, hWs⟩ : ∃ Ws, Ws = w.alloc (.cells #[] 9) := ⟨_, rfl⟩
    have hxs : Ext w Ws := by rw [hWs]; exact Ext.new _ _
    have hbz : w.heap.size ≤ Ws.heap.size := hxs.size
    have HOWNS := hide (show Ws.ownsRow w.heap.size 9 1 (.slice (some ⟨w.heap.size, 0, none⟩) 0 0) 0 [] from by
      refine ⟨by simp, .inr ⟨w.heap.size, 0, #[], rfl, Nat.le_refl _, ?_, Nat.le_refl _, by decide, by simp, by simp⟩⟩
      rw [hWs]
      exact Blk.new _ _ [])
    have HFL := hide (hfl0.ext hxs)
    clear hfl0
    have HXS := hide hxs
    have hVs := hWs.symm
    clear hWs hxs
    go_enter Tryz.func53, Tryz.ntmps53
    go_wp2_with (first
      | (go_at_call 26; refine KA.out.mono ?_; rintro _ w ⟨rfl, rfl⟩)
      | (at_builtin; refine wpList_append_flat rfl _ _ 38 rfl w.heap.size 9 ti _ 1 16 Tryz.underlying38 hti htz hts htb rfl (by decide) (by decide) (.slice (some ⟨w.heap.size, 0, none⟩) 0 0) 0 [] rfl HOWNS.out la l.length lc (l.map .string) rfl HFL.out (by omega) (by omega) hbz ?_; intro v4 w4 hown4 hg4 hf4
         simp only [Nat.zero_add, List.nil_append] at hown4
         have hx4 : Ext w w4 := HXS.out.grown hg4 (by intro r hr; simp [Value.ownBlock] at hr; omega)
         obtain ⟨a4, c4, rfl⟩ := row_shape hown4
         have HO4 := hide hown4
         have HX4 := hide hx4
         have hb4 := hx4.size
         clear hown4 hg4 hf4 hx4 hVs)
      | (at_builtin; refine wpList_append_flat rfl _ _ 38 rfl w.heap.size 9 ti _ 1 16 Tryz.underlying38 hti htz hts htb rfl (by decide) (by decide) (.slice a4 l.length c4) l.length (l.map .string) rfl (HO4.out.alloc _) (some ⟨w4.heap.size, 0, none⟩) 1 1 [.string s] rfl ⟨rfl, (by intro u hu; simp at hu; subst hu; rfl), (fun _ => ⟨_, _, rfl, (Blk.new w4 _ [.string s]).cells⟩)⟩ (by omega) (by omega) (by simp; omega) ?_; intro v5 w5 hown5 hg5 hf5
         have hx5 : Ext w w5 := (HX4.out.alloc _).grown hg5 (fun r hr => (HO4.out.lt r hr).1)
         obtain ⟨a5, c5, rfl⟩ := row_shape hown5
         have H5 := hide (And.intro hown5 hx5)
         clear hown5 hg5 hf5 hx5))
    go_ret
    exact ⟨_, rfl, SStr.of_own H5.out.1 (by rw [HI.out]; simp) (by rw [HI.out]; simp), H5.out.2⟩

/-- A scope's value. -/
def scpV (v : Value) (ok : Bool) : Value := .agg #[v, .bool ok]
set_option maxRecDepth 20000 in
set_option maxHeartbeats 4000000 in
theorem rtell_any (l : List ByteArray) (ok : Bool) (s : ByteArray) (w : World) (v : Value) (hS : SStr w l v) (hln : l.length ≤ 500000000) :
    Calls Tryz.prog 117 #[.agg #[v, .bool ok], .string s] w fun e w' => ∃ v', e = .returned (.agg #[v', .bool (ok && !yes (s ∈ l))]) ∧ SStr w' (l ++ [s]) v' ∧ Ext w w' := by
  have HS := hide hS
  obtain ⟨la, lc, rfl, hlc, -⟩ := hS
  obtain ⟨W1, hW1, hx1, hb1⟩ := box2 w (.slice la l.length lc) (.bool ok) 101
  obtain ⟨W2, hW2, hx2, hb2⟩ := box2 W1 (.slice none 0 0) (.bool false) 101
  have hV1 := hW1.symm
  have hV2 := hW2.symm
  obtain ⟨c0, c1⟩ := (hb1.ext hx2).get2
  have KA := hide (refAmong_any l s W2 (.slice la l.length lc) (HS.out.ext (hx1.trans hx2)) (by omega))
  obtain ⟨ti, hti, htz, hts, htb⟩ := info_parts infoT
  have hxw := hx1.trans hx2
  obtain ⟨Ws, hWs⟩ : ∃ Ws, Ws = W2.alloc (.cells #[] 9) := ⟨_, rfl⟩
  have hxs : Ext W2 Ws := by rw [hWs]; exact Ext.new _ _
  have hbz : W2.heap.size ≤ Ws.heap.size := hxs.size
  have HOWNS := hide (show Ws.ownsRow W2.heap.size 9 1 (.slice (some ⟨W2.heap.size, 0, none⟩) 0 0) 0 [] from by
    refine ⟨by simp, .inr ⟨W2.heap.size, 0, #[], rfl, Nat.le_refl _, ?_, Nat.le_refl _, by decide, by simp, by simp⟩⟩
    rw [hWs]
    exact Blk.new _ _ [])
  have HFL := hide (Flat.strs (HS.out.ext (hxw.trans hxs)))
  have HXS := hide hxs
  have HXW := hide hxw
  have HB2 := hide hb2
  have hVs := hWs.symm
  obtain ⟨e0, e1⟩ := ((hb1.ext hx2).ext hxs).get2
  have hge : w.heap.size ≤ W1.heap.size := hx1.size
  obtain ⟨r, hr⟩ : ∃ r, r = (ok && !yes (s ∈ l)) := ⟨_, rfl⟩
  rw [← hr]
  have hlt12 : W1.heap.size < W2.heap.size := hb2.lt
  clear hW1 hW2 hWs hxs hxw hx1 hx2 hb1 hb2
  cases ok
  · have hr' : r = false := by rw [hr]; rfl
    subst hr'
    clear hr KA
    go_enter Tryz.func117, Tryz.ntmps117
    go_wp2_with (first
      | (at_builtin; refine wpList_append_flat rfl _ _ 38 rfl W2.heap.size 9 ti _ 1 16 Tryz.underlying38 hti htz hts htb rfl (by decide) (by decide) (.slice (some ⟨W2.heap.size, 0, none⟩) 0 0) 0 [] rfl HOWNS.out la l.length lc (l.map .string) rfl HFL.out (by omega) (by omega) hbz ?_; intro v4 w4 hown4 hg4 hf4
         simp only [Nat.zero_add, List.nil_append] at hown4
         have hx4 : Ext W2 w4 := HXS.out.grown hg4 (by intro r hr; simp [Value.ownBlock] at hr; omega)
         obtain ⟨a4, c4, rfl⟩ := row_shape hown4
         have HO4 := hide hown4
         have HX4 := hide hx4
         have hb4 := hx4.size
         clear hown4 hg4 hf4 hx4 hVs e0 e1)
      | (at_builtin; refine wpList_append_flat rfl _ _ 38 rfl W2.heap.size 9 ti _ 1 16 Tryz.underlying38 hti htz hts htb rfl (by decide) (by decide) (.slice a4 l.length c4) l.length (l.map .string) rfl (HO4.out.alloc _) (some ⟨w4.heap.size, 0, none⟩) 1 1 [.string s] rfl ⟨rfl, (by intro u hu; simp at hu; subst hu; rfl), (fun _ => ⟨_, _, rfl, (Blk.new w4 _ [.string s]).cells⟩)⟩ (by omega) (by omega) (by simp; omega) ?_; intro v5 w5 hown5 hg5 hf5
         have hx5 : Ext W2 w5 := (HX4.out.alloc _).grown hg5 (fun r hr => (HO4.out.lt r hr).1)
         obtain ⟨a5, c5, rfl⟩ := row_shape hown5
         have H5 := hide (And.intro hown5 hx5)
         obtain ⟨y0, y1⟩ := (HB2.out.ext hx5).get2
         obtain ⟨z0, z1⟩ := (HB2.out.ext hx5).free2
         have hbs := (HB2.out.ext hx5).store2 (.slice a5 (l.length + 1) c5) (.bool false)
         have hsz5 := hx5.size
         obtain ⟨g0, g1⟩ := hbs.get2
         clear hown5 hg5 hf5 hx5))
    refine bodyPost_ret (v := .agg #[.slice a5 (l.length + 1) c5, .bool false]) (by simp [results, Tryz.results117, go_sem, g0, g1]) rfl ⟨_, rfl, ?_, ?_⟩
    · have h1 : SStr w5 (l ++ [s]) (.slice a5 (l.length + 1) c5) := SStr.of_own H5.out.1 (by simp) (by simp)
      have hb := HB2.out.ext H5.out.2
      have hb' := hb.set_ 0 (.slice a5 (l.length + 1) c5)
      refine SStr.store (SStr.store h1 hb (by intro c hc s; simp at hc; rcases hc with rfl | rfl <;> simp)) hb' (by intro c hc s; simp at hc; rcases hc with rfl | rfl <;> simp)
    · exact ((HXW.out.trans H5.out.2).setCell hge _).setCell hge _
  · by_cases hin : s ∈ l
    · rw [yes_iff.2 hin] at hr KA
      have hr' : r = false := by rw [hr]; rfl
      subst hr'
      clear hr hin
      go_enter Tryz.func117, Tryz.ntmps117
      go_wp2_with (first
        | (go_at_call 26; refine KA.out.mono ?_; rintro _ W2 ⟨rfl, rfl⟩)
        | (at_builtin; refine wpList_append_flat rfl _ _ 38 rfl W2.heap.size 9 ti _ 1 16 Tryz.underlying38 hti htz hts htb rfl (by decide) (by decide) (.slice (some ⟨W2.heap.size, 0, none⟩) 0 0) 0 [] rfl HOWNS.out la l.length lc (l.map .string) rfl HFL.out (by omega) (by omega) hbz ?_; intro v4 w4 hown4 hg4 hf4
           simp only [Nat.zero_add, List.nil_append] at hown4
           have hx4 : Ext W2 w4 := HXS.out.grown hg4 (by intro r hr; simp [Value.ownBlock] at hr; omega)
           obtain ⟨a4, c4, rfl⟩ := row_shape hown4
           have HO4 := hide hown4
           have HX4 := hide hx4
           have hb4 := hx4.size
           clear hown4 hg4 hf4 hx4 hVs e0 e1)
        | (at_builtin; refine wpList_append_flat rfl _ _ 38 rfl W2.heap.size 9 ti _ 1 16 Tryz.underlying38 hti htz hts htb rfl (by decide) (by decide) (.slice a4 l.length c4) l.length (l.map .string) rfl (HO4.out.alloc _) (some ⟨w4.heap.size, 0, none⟩) 1 1 [.string s] rfl ⟨rfl, (by intro u hu; simp at hu; subst hu; rfl), (fun _ => ⟨_, _, rfl, (Blk.new w4 _ [.string s]).cells⟩)⟩ (by omega) (by omega) (by simp; omega) ?_; intro v5 w5 hown5 hg5 hf5
           have hx5 : Ext W2 w5 := (HX4.out.alloc _).grown hg5 (fun r hr => (HO4.out.lt r hr).1)
           obtain ⟨a5, c5, rfl⟩ := row_shape hown5
           have H5 := hide (And.intro hown5 hx5)
           obtain ⟨y0, y1⟩ := (HB2.out.ext hx5).get2
           obtain ⟨z0, z1⟩ := (HB2.out.ext hx5).free2
           have hbs := (HB2.out.ext hx5).store2 (.slice a5 (l.length + 1) c5) (.bool false)
           have hsz5 := hx5.size
           obtain ⟨g0, g1⟩ := hbs.get2
           clear hown5 hg5 hf5 hx5))
      refine bodyPost_ret (v := .agg #[.slice a5 (l.length + 1) c5, .bool false]) (by simp [results, Tryz.results117, go_sem, g0, g1]) rfl ⟨_, rfl, ?_, ?_⟩
      · have h1 : SStr w5 (l ++ [s]) (.slice a5 (l.length + 1) c5) := SStr.of_own H5.out.1 (by simp) (by simp)
        have hb := HB2.out.ext H5.out.2
        have hb' := hb.set_ 0 (.slice a5 (l.length + 1) c5)
        refine SStr.store (SStr.store h1 hb (by intro c hc s; simp at hc; rcases hc with rfl | rfl <;> simp)) hb' (by intro c hc s; simp at hc; rcases hc with rfl | rfl <;> simp)
      · exact ((HXW.out.trans H5.out.2).setCell hge _).setCell hge _
    · rw [yes_no.2 hin] at hr KA
      have hr' : r = true := by rw [hr]; rfl
      subst hr'
      clear hr hin
      go_enter Tryz.func117, Tryz.ntmps117
      go_wp2_with (first
        | (go_at_call 26; refine KA.out.mono ?_; rintro _ W2 ⟨rfl, rfl⟩)
        | (at_builtin; refine wpList_append_flat rfl _ _ 38 rfl W2.heap.size 9 ti _ 1 16 Tryz.underlying38 hti htz hts htb rfl (by decide) (by decide) (.slice (some ⟨W2.heap.size, 0, none⟩) 0 0) 0 [] rfl HOWNS.out la l.length lc (l.map .string) rfl HFL.out (by omega) (by omega) hbz ?_; intro v4 w4 hown4 hg4 hf4
           simp only [Nat.zero_add, List.nil_append] at hown4
           have hx4 : Ext W2 w4 := HXS.out.grown hg4 (by intro r hr; simp [Value.ownBlock] at hr; omega)
           obtain ⟨a4, c4, rfl⟩ := row_shape hown4
           have HO4 := hide hown4
           have HX4 := hide hx4
           have hb4 := hx4.size
           clear hown4 hg4 hf4 hx4 hVs e0 e1)
        | (at_builtin; refine wpList_append_flat rfl _ _ 38 rfl W2.heap.size 9 ti _ 1 16 Tryz.underlying38 hti htz hts htb rfl (by decide) (by decide) (.slice a4 l.length c4) l.length (l.map .string) rfl (HO4.out.alloc _) (some ⟨w4.heap.size, 0, none⟩) 1 1 [.string s] rfl ⟨rfl, (by intro u hu; simp at hu; subst hu; rfl), (fun _ => ⟨_, _, rfl, (Blk.new w4 _ [.string s]).cells⟩)⟩ (by omega) (by omega) (by simp; omega) ?_; intro v5 w5 hown5 hg5 hf5
           have hx5 : Ext W2 w5 := (HX4.out.alloc _).grown hg5 (fun r hr => (HO4.out.lt r hr).1)
           obtain ⟨a5, c5, rfl⟩ := row_shape hown5
           have H5 := hide (And.intro hown5 hx5)
           obtain ⟨y0, y1⟩ := (HB2.out.ext hx5).get2
           obtain ⟨z0, z1⟩ := (HB2.out.ext hx5).free2
           have hbs := (HB2.out.ext hx5).store2 (.slice a5 (l.length + 1) c5) (.bool true)
           have hsz5 := hx5.size
           obtain ⟨g0, g1⟩ := hbs.get2
           clear hown5 hg5 hf5 hx5))
      refine bodyPost_ret (v := .agg #[.slice a5 (l.length + 1) c5, .bool true]) (by simp [results, Tryz.results117, go_sem, g0, g1]) rfl ⟨_, rfl, ?_, ?_⟩
      · have h1 : SStr w5 (l ++ [s]) (.slice a5 (l.length + 1) c5) := SStr.of_own H5.out.1 (by simp) (by simp)
        have hb := HB2.out.ext H5.out.2
        have hb' := hb.set_ 0 (.slice a5 (l.length + 1) c5)
        refine SStr.store (SStr.store h1 hb (by intro c hc s; simp at hc; rcases hc with rfl | rfl <;> simp)) hb' (by intro c hc s; simp at hc; rcases hc with rfl | rfl <;> simp)
      · exact ((HXW.out.trans H5.out.2).setCell hge _).setCell hge _

end Go.Proofs.YtjoglnjpgkobeaaGreatDoor
