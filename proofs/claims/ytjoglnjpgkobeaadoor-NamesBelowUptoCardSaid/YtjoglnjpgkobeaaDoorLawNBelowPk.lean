/-
  THE LAW NamesBelow: WHAT IT COMPUTES.
-/
import Derived.Test.YtjoglnjpgkobeaaDoorNLivePk
namespace Go.Proofs.YtjoglnjpgkobeaaDoor
open Go Go.RowKit
set_option linter.all false
set_option linter.unusedVariables false
set_option linter.unusedSimpArgs false
set_option linter.unusedVariables false
set_option linter.unusedSimpArgs false
attribute [local go_sem] run_store_one

/-- What the modules of some names are made of, one behind the other. -/
noncomputable def usesOf (f : List Mdl) (s : ByteArray) : List ByteArray := match findM f s with | some m => usesM m | none => []
noncomputable def allUses (f : List Mdl) (l : List ByteArray) : List ByteArray := l.flatMap (usesOf f)
theorem allUses_step {f : List Mdl} {l : List ByteArray} {k : Nat} (hk : k < l.length) {m : Mdl} (hm : findM f l[k] = some m) : allUses f (l.take (k + 1)) = allUses f (l.take k) ++ usesM m := by
  unfold allUses
  rw [List.take_succ_eq_append_getElem hk, List.flatMap_append, List.flatMap_cons, List.flatMap_nil, List.append_nil]
  have : usesOf f l[k] = usesM m := by unfold usesOf; rw [hm]
  rw [this]
theorem mem_allUses {f : List Mdl} {l : List ByteArray} {b s : ByteArray} {m : Mdl} (hb : b ∈ l) (hm : findM f b = some m) (hs : s ∈ usesM m) : s ∈ allUses f l := by
  unfold allUses
  refine List.mem_flatMap.2 ⟨b, hb, ?_⟩
  unfold usesOf
  rw [hm]; exact hs
theorem row_ext {w w' : World} {base : Nat} {e : TypeId} {sz n : Nat} {v : Value} {xs : List Value} (h : w.ownsRow base e sz v n xs) (hx : Ext w w') : w'.ownsRow base e sz v n xs :=
  h.kept (Ext.grow hx) (by cases v.ownBlock <;> simp)
theorem row_one_str {w : World} {base n : Nat} {v : Value} {xs : List Value} (h : w.ownsRow base 9 1 v n xs) : ∃ a c, v = .slice a n c := by
  rcases h.2 with ⟨rfl, rfl⟩ | ⟨g, cap, cur, rfl, -⟩ <;> exact ⟨_, _, rfl⟩

set_option maxRecDepth 20000 in
set_option maxHeartbeats 16000000 in
theorem lawNBelow_any (B : Nat) (f : List Mdl) (top : ByteArray) (w : World) (vf : Value) (hT : Tabs w) (hB : B ≤ w.heap.size) (hS : Sl (RM w B) w B 4 f vf) (hsz : msize sizeM f ≤ 10000000) (hvx : ∀ m, m ∈ f → VM m) (htz : top.size ≤ 1000000000) :
    Calls Tryd.prog 4 #[.agg #[vf], .string top] w fun e w' => e = .returned (.bool true) ∧ Ext w w' := by
  have HS := hide hS
  have HTab := hide hT
  have hln := length_le_msize sizeM f sizeM_pos
  have HIT := hide (fun m (hm : m ∈ f) => Nat.le_trans (items_le hm) hsz)
  obtain ⟨a, cap, rfl, hcap, hrow⟩ := hS
  obtain ⟨W1, e1, hV1, hx1, -, a0⟩ := boxL1 w (.slice a f.length cap) 24
  have hB1 : B ≤ W1.heap.size := Nat.le_trans hB hx1.size
  have GL := hide (show ECalls Tryd.prog 9 #[] W1 (.bool true) from fun w' hw => live7_any w' (HTab.out.ext (hx1.trans hw)))
  have GF := hide (show ECalls Tryd.prog 10 #[.agg #[.slice a f.length cap]] W1 (.bool (yes (fewP (msize sizeM f) (mdeep deepM f)))) from fun w' hw => few7_any B f w' _ (HS.out.extRM (hx1.trans hw) hB) (Nat.le_trans hB1 hw.size) (by omega))
  have CF := hide (show ECalls Tryd.prog 12 #[.agg #[.slice a f.length cap]] W1 (.int .i64 (checkN f)) from fun w' hw => checkN_any B f w' _ (HTab.out.ext (hx1.trans hw)) (HS.out.extRM (hx1.trans hw) hB) (Nat.le_trans hB1 hw.size) hsz hvx)
  have GO := hide (fun (e : Later W1) => orderN_any B f e.w _ (HTab.out.ext (hx1.trans e.ext)) (HS.out.extRM (hx1.trans e.ext) hB) (Nat.le_trans hB1 e.ext.size) hsz hvx)
  have GB := hide (fun (w' : World) (hw : Ext w w') => below_any B f top w' _ (HTab.out.ext hw) (HS.out.extRM hw hB) (Nat.le_trans hB hw.size) hsz hvx)
  have GT := hide (fun (w' : World) (hw : Ext w w') => find_any B f top w' _ (HS.out.extRM hw hB) (Nat.le_trans hB hw.size) (by omega))
  have Q01 := hide hx1
  clear hcap hrow hx1 hT hvx
  cases hb1 : yes (fewP (msize sizeM f) (mdeep deepM f)) with
  | false =>
    rw [hb1] at GF
    clear GO CF GB GT
    go_enter Tryd.func4, Tryd.ntmps4
    go_wp2_with (first
      | (go_at_call 9; refine (GL.out.at_ _).mono ?_; rintro _ _ ⟨rfl, e, rfl⟩)
      | (go_at_call 10; with_reducible refine (GF.out.at_ _).mono ?_; rintro _ _ ⟨rfl, e, rfl⟩))
    go_ret
    exact ⟨rfl, Q01.out.trans (Later.ext _)⟩
  | true =>
    rw [hb1] at GF
    clear hb1
    by_cases ht : (100 : Int) < (top.size : Int)
    · clear GO CF GB GT
      go_enter Tryd.func4, Tryd.ntmps4
      go_wp2_with (first
        | (go_at_call 9; refine (GL.out.at_ _).mono ?_; rintro _ _ ⟨rfl, e, rfl⟩)
        | (go_at_call 10; with_reducible refine (GF.out.at_ _).mono ?_; rintro _ _ ⟨rfl, e, rfl⟩))
      go_ret
      exact ⟨rfl, Q01.out.trans (Later.ext _)⟩
    obtain ⟨c, hc⟩ : ∃ c, c = checkN f := ⟨_, rfl⟩
    have HC := hide hc
    go_enter Tryd.func4, Tryd.ntmps4
    go_wp2_with (first
      | (go_at_call 9; refine (GL.out.at_ _).mono ?_; rintro _ _ ⟨rfl, e, rfl⟩)
      | (go_at_call 10; with_reducible refine (GF.out.at_ _).mono ?_; rintro _ _ ⟨rfl, e, rfl⟩))
    go_at_call 11
    refine (GO.out _).mono ?_
    rintro _ w2 ⟨v, rfl, hx2, hok, hno⟩
    rw [← hc] at hok hno CF ⊢
    have hov : ∃ a n c', v = .slice a n c' := by
      by_cases h0 : c = 0
      · obtain ⟨a, c', h⟩ := row_one_str (hok h0)
        exact ⟨_, _, _, h⟩
      · exact ⟨_, _, _, hno h0⟩
    obtain ⟨va, vn, vc, rfl⟩ := hov
    have hx12 : Ext W1 w2 := (Later.ext _).trans hx2
    have H2 := hide (And.intro hok hno)
    have HX12 := hide hx12
    have Q02 := hide (Q01.out.trans hx12)
    have y0 := hx12.at_ (a0 ⟨W1, Ext.refl _⟩)
    clear hc GL GF GO hok hno hx2 hx12
    have GB := hide (GB.out w2 Q02.out)
    go_wp2_with fail
    go_at_call 16
    refine GB.out.mono ?_
    rintro _ w3 ⟨v2, c2, rfl, hx3, hc2, hok2, hno2⟩
    rw [← HC.out] at hc2
    obtain ⟨W3, hW3⟩ : ∃ W3, W3 = w3 := ⟨_, rfl⟩
    rw [← hW3] at hx3 hok2
    obtain ⟨e3, he3⟩ := Later.mk_ex (W := W3) (w := w3) (by rw [hW3]; exact Ext.refl _)
    subst he3
    have Q03 := hide (Q02.out.trans hx3)
    have a3 := cellL a0 (HX12.out.trans hx3)
    have CF := hide (CF.out.later (HX12.out.trans hx3))
    by_cases h2 : c2 = 0
    · have hc0 : c = 0 ∧ (findM f top).isSome = true := by
        rw [h2] at hc2
        by_cases h0 : c = 0
        · rw [if_pos h0] at hc2
          by_cases hs : (findM f top).isSome = true
          · exact ⟨h0, hs⟩
          · rw [if_neg hs] at hc2; omega
        · rw [if_neg h0] at hc2; omega
      obtain ⟨rfl, hsome⟩ := hc0
      have hrow2 := hok2 h2
      subst h2
      have hA := (SStr.of_row (H2.out.1 rfl)).ext hx3
      obtain ⟨va', vc', hva, hcA, hrA⟩ := hA
      obtain ⟨rfl, rfl, rfl⟩ := Value.slice.inj hva
      have HRA := hide hrA
      have hL := SStr.of_row hrow2
      obtain ⟨la, lc, rfl⟩ := row_one_str hrow2
      have HSL := hide hL
      obtain ⟨la', lc', hla, hcL, hrL⟩ := hL
      obtain ⟨rfl, -, rfl⟩ := Value.slice.inj hla
      have HRL := hide hrL
      have HCL := hide hcL
      have LAST := hide (below_last HC.out.symm hsome)
      have LAW := hide (below_at HC.out.symm top)
      have SUB := hide (below_sub f top)
      have USED := hide (below_used HC.out.symm hsome)
      obtain ⟨hF, hnd, -, -, hlen⟩ := check_facts HC.out.symm
      have h64 := (checkF_zero.1 hF).1
      have hAl : (orderF f).length ≤ 64 := by omega
      have hLl : (belowN f top).length ≤ 64 := Nat.le_trans SUB.out.length_le hAl
      have ut : Tryd.prog.underlying 27 = some (.slice (Tryd.prog.elem 27)) := by kernel_rfl
      have sz1 : ∀ w : World, (sizeOf (Tryd.prog.elem 27)).run Tryd.prog w = .ok 1 w := fun _ => by kernel_rfl
      have HUT := hide ut
      have HS1 := hide sz1
      obtain ⟨ti, hti, htz0, hts, htb⟩ := info_parts infoT
      obtain ⟨AO, hAe⟩ : ∃ AO, orderF f = AO := ⟨_, rfl⟩
      obtain ⟨L, hLe⟩ : ∃ L, belowN f top = L := ⟨_, rfl⟩
      simp only [hAe, hLe] at *
      clear hW3 hx3 hok2 hno2 hrow2 hva hla hrA hrL hcA hcL ut sz1 hF hnd hlen h64 hc2 Q02 HX12 H2 GT GB hsome hAe hLe y0 CF HC
      obtain ⟨n, hn, hlast⟩ : ∃ n, L.length = n + 1 ∧ ∀ h : n < L.length, L[n] = top := by
        obtain ⟨pre, hp⟩ := LAST.out
        exact ⟨pre.length, by rw [hp]; simp, fun h => by simp [hp]⟩
      have hnl : n < L.length := by omega
      obtain ⟨bl, ol, rfl, hcn⟩ := HRL.out n hnl
      rw [hlast hnl] at hcn
      have hcn := cellAt hcn
      have HN := hide hn
      have hn64 : n ≤ 63 := by omega
      have hz : (((n : Int) + 1) == 0) = false := beq_eq_false_iff_ne.2 (by omega)
      rw [hn]
      clear LAST hlast hnl hn
      go_wp2_with fail
      have hHN := HN.out
      go_loopw [12, 13, 14] (fun v12 v13 i wr => ∃ k : Nat, k ≤ L.length ∧ i = .int .i64 k ∧ (∃ at_ : Nat, at_ ≤ AO.length ∧ v13 = .int .i64 at_ ∧ List.Sublist (L.drop k) (AO.drop at_)) ∧ (∃ ua uc, v12 = .slice ua (allUses f (L.take k)).length uc) ∧
        wr.ownsRow W3.heap.size 9 1 v12 (allUses f (L.take k)).length ((allUses f (L.take k)).map .string) ∧ (allUses f (L.take k)).length ≤ k * 10000000 ∧ Ext W3 wr) (fun _ _ i _ => L.length - (intOf i).toNat)
      case atStart => exact ⟨0, Nat.zero_le _, rfl, ⟨0, Nat.zero_le _, rfl, by simpa using SUB.out⟩, ⟨none, 0, rfl⟩, World.ownsRow_nil _ _ _ _, by simp [allUses], Later.ext _⟩
      case round =>
        obtain ⟨k, hk, rfl, ⟨at_, hat, rfl, hsub⟩, ⟨ua, uc, rfl⟩, hown, hul, hxr⟩ := hrel
        by_cases hlt : k < L.length
        · obtain ⟨bl', ol', he', hcell⟩ := HRL.out k hlt
          obtain ⟨rfl, rfl⟩ : bl = bl' ∧ ol = ol' := by simpa using he'
          obtain ⟨m, hfm, hmf, huse⟩ := LAW.out k hlt
          have hstep := allUses_step hlt hfm
          have hsubx := hsub
          rw [List.drop_eq_getElem_cons hlt] at hsubx
          have HSUB := hide hsubx
          obtain ⟨vs, hvs⟩ : ∃ vs, vs = Go.sliced (some ⟨bl, ol, none⟩) 0 k lc 1 := ⟨_, rfl⟩
          have hrun : ∀ w : World, (Instr.slice 27 (.slice (some ⟨bl, ol, none⟩) (n + 1) lc) none (some (.int .i64 k)) none).run Tryd.prog w = .ok vs w := fun w => by
            have hcl := HCL.out
            rw [run_slice_h (ht := HUT.out) (h := (k : Int)) (h0 := by omega) (h2 := by omega), HS1.out, hvs]; rfl
          have hss : SStr W3 (L.take k) vs := by rw [hvs]; exact HSL.out.take hlt
          have KU := hide (fun (u : ByteArray) (hu : u ∈ usesM m) => show ECalls Tryd.prog 14 #[vs, .string u] W3 (.bool true) from fun w' hw => (refAmong_any (L.take k) u w' vs (hss.ext hw) (by rw [List.length_take]; omega)).mono fun _ _ ⟨h1, h2⟩ => ⟨by rw [h1, yes_iff.2 (huse u hu)], by rw [h2]; exact Ext.refl _⟩)
          have hit := HIT.out m hmf
          have hmu := uses_len m hit
          have hcells := cellAt (hxr.at_ hcell)
          have HCELL := hide hcell
          have FND := hide (fun (w' : World) (hw : Ext w w') => find_any B f L[k] w' _ (HS.out.extRM hw hB) (Nat.le_trans hB hw.size) (by omega))
          rw [hfm, Option.isSome_some, Option.getD_some] at FND
          have ovs : vs.oneCell' = true := by rw [hvs]; rfl
          have a0r := cellL a3 hxr
          have HXW := hide (Q03.out.trans hxr)
          have HXR := hide hxr
          have HOWN := hide hown
          have HST := hide hstep
          have HUL := hide hul
          have GU := hide (fun (w' : World) (cs : List Value) (hw : Ext w w') (hR : RM w B m cs) => uses_any B m w' cs (hR.ext hw hB) (Nat.le_trans hB hw.size) hit)
          clear hvs hss hcell huse hfm hmf hxr hit hown hstep hsub hsubx he' hul
          generalize L[k] = s at *
          generalize hun : (allUses f (L.take k)).length = un at *
          go_wp2_with fail
          refine wp_region_facts_s (W := wr) (finF w B wr (.slice a f.length cap) (.slice (some ⟨bl, ol, none⟩) (n + 1) lc) k ⟨bl, ol + k, none⟩ s m true) (finG w B wr m) 10 9 15 (by kernel_rfl) (by kernel_rfl) (by kernel_rfl) (by decide) (by decide) ?_ (Ext.refl _) (fun i v w w' h hx => finF_ext h hx) (fun v w w' h hx => finG_ext h hx) ?_ ?_
          · simp [GuardsMet, finF]
          · refine ⟨?_, ?_, ?_, ?_, ?_, ?_, ?_, ?_, ?_, ?_, ?_, ?_, trivial⟩
            · intro A wa hxa hd h0
              obtain ⟨ea, rfl⟩ := Later.mk_ex hxa
              have r2 := rest_at h0 2 (by kernel_rfl)
              simp at r2
              clear hd h0
              go_simp
              first | exact ⟨_, rfl, Ext.refl _, rfl⟩ | exact ⟨Ext.refl _, rfl⟩ | exact rfl | exact ⟨_, rfl, rfl⟩
            · intro A wa hxa hd h0
              obtain ⟨ea, rfl⟩ := Later.mk_ex hxa
              have r8 := rest_at h0 8 (by kernel_rfl)
              simp at r8
              clear hd h0
              go_simp
              first | exact ⟨_, rfl, Ext.refl _, rfl⟩ | exact ⟨Ext.refl _, rfl⟩ | exact rfl | exact ⟨_, rfl, rfl⟩
            · intro A wa hxa hd h0
              obtain ⟨ea, rfl⟩ := Later.mk_ex hxa
              have r14 := rest_at h0 14 (by kernel_rfl)
              simp at r14
              clear hd h0
              go_simp
              first | exact ⟨_, rfl, Ext.refl _, rfl⟩ | exact ⟨Ext.refl _, rfl⟩ | exact rfl | exact ⟨_, rfl, rfl⟩
            · intro A wa hxa hd h0
              obtain ⟨ea, rfl⟩ := Later.mk_ex hxa
              have q1 := depOn hd 1 92 (by kernel_rfl) rfl
              simp [finF] at q1
              have q2 := depOn hd 2 93 (by kernel_rfl) rfl
              simp [finF] at q2
              clear hd h0
              go_simp
              first | exact ⟨_, rfl, Ext.refl _, rfl⟩ | exact ⟨Ext.refl _, rfl⟩ | exact rfl | exact ⟨_, rfl, rfl⟩
            · intro A wa hxa hd h0
              obtain ⟨ea, rfl⟩ := Later.mk_ex hxa
              have q3 := depOn hd 3 94 (by kernel_rfl) rfl
              simp [finF] at q3
              clear hd h0
              go_simp
              first | exact ⟨_, rfl, Ext.refl _, rfl⟩ | exact ⟨Ext.refl _, rfl⟩ | exact rfl | exact ⟨_, rfl, rfl⟩
            · intro A wa hxa hd h0
              obtain ⟨ea, rfl⟩ := Later.mk_ex hxa
              have q0 := depOn hd 0 91 (by kernel_rfl) rfl
              simp [finF] at q0
              have q4 := depOn hd 4 95 (by kernel_rfl) rfl
              simp [finF] at q4
              clear hd h0
              go_simp
              refine (FND.out ea.w (HXW.out.trans ea.ext)).mono ?_
              rintro e w2 ⟨c0, c1, c2, c3, rfl, hR, hx⟩
              have hrm := rm_back hR (HXW.out.trans (ea.ext.trans hx)) hB
              go_simp
              first | exact ⟨_, rfl, hx, _, _, _, _, rfl, hrm⟩ | exact ⟨hx, _, _, _, _, rfl, hrm⟩ | exact ⟨_, rfl, _, _, _, _, rfl, hrm⟩
            · intro A wa hxa hd h0
              obtain ⟨ea, rfl⟩ := Later.mk_ex hxa
              obtain ⟨c0, c1, c2, c3, q5, hrm⟩ := depOn hd 5 96 (by kernel_rfl) rfl
              simp at q5
              clear hd h0
              have HR := hide hrm
              clear hrm
              go_simp
              first | exact ⟨_, rfl, Ext.refl _, _, _, _, _, rfl, HR.out⟩ | exact ⟨Ext.refl _, _, _, _, _, rfl, HR.out⟩ | exact ⟨_, _, _, _, rfl, HR.out⟩
            · intro A wa hxa hd h0
              obtain ⟨ea, rfl⟩ := Later.mk_ex hxa
              obtain ⟨c0, c1, c2, c3, q6, hrm⟩ := depOn hd 6 90 (by kernel_rfl) rfl
              simp at q6
              clear hd h0
              have HR := hide hrm
              clear hrm
              go_simp
              first | exact ⟨_, rfl, Ext.refl _, _, _, _, _, rfl, HR.out⟩ | exact ⟨Ext.refl _, _, _, _, _, rfl, HR.out⟩ | exact ⟨_, _, _, _, rfl, HR.out⟩
            · intro A wa hxa hd h0
              obtain ⟨ea, rfl⟩ := Later.mk_ex hxa
              obtain ⟨c0, c1, c2, c3, q6, hrm⟩ := depOn hd 6 90 (by kernel_rfl) rfl
              simp at q6
              clear hd h0
              go_simp
              first | exact ⟨_, rfl, Ext.refl _, rfl⟩ | exact ⟨Ext.refl _, rfl⟩ | exact rfl | exact ⟨_, rfl, rfl⟩
            · intro A wa hxa hd h0
              obtain ⟨ea, rfl⟩ := Later.mk_ex hxa
              clear hd h0
              obtain ⟨W4, hW4, hx4, hb4⟩ := box4 ea.w (.string ⟨#[]⟩) (.slice none 0 0) (.slice none 0 0) (.slice none 0 0) 36
              have hV4 := hW4.symm
              have HG := hide (And.intro hx4 hb4)
              have HZ := hide ea.ext.size
              clear hW4 hx4 hb4
              go_simp
              exact ⟨_, rfl, HG.out.1, _, _, _, _, _, rfl, HZ.out, HG.out.2⟩
            · intro A wa hxa hd h0
              obtain ⟨ea, rfl⟩ := Later.mk_ex hxa
              obtain ⟨g, d0, d1, d2, d3, q9, hge, hbk⟩ := depOn hd 9 15 (by kernel_rfl) rfl
              simp at q9
              obtain ⟨c0, c1, c2, c3, q7, hrm⟩ := depOn hd 7 97 (by kernel_rfl) rfl
              simp at q7
              clear hd h0
              obtain ⟨z0, z1, z2, z3⟩ := hbk.get4
              obtain ⟨f0, f1, f2, f3⟩ := hbk.free4
              have hrm' := hrm
              obtain ⟨v1', v2', v3', hcs, hp1, hq1, hi1⟩ := hrm'
              simp only [List.cons.injEq, and_true] at hcs
              obtain ⟨rfl, rfl, rfl, rfl⟩ := hcs
              have o1 := hp1.oneCell
              have o2 := hq1.oneCell
              have o3 := hi1.oneCell
              clear hp1 hq1 hi1
              have HG := hide (And.intro hge (And.intro hbk hrm))
              clear hge hbk hrm
              go_simp
              exact ⟨ext_store4 ea.ext HG.out.1 _ _ _ _, fun j u h => finF_store _ _ _ _ h, _, _, _, _, _, rfl, HG.out.1, HG.out.2.1.store4 _ _ _ _, HG.out.2.2⟩
            · intro A wa hxa hd h0
              obtain ⟨ea, rfl⟩ := Later.mk_ex hxa
              have q8 := depOn hd 8 98 (by kernel_rfl) rfl
              simp [finF] at q8
              clear hd h0
              go_simp
              first | exact ⟨_, rfl, Ext.refl _, rfl⟩ | exact ⟨Ext.refl _, rfl⟩ | exact rfl | exact ⟨_, rfl, rfl⟩
          intro A wa hk hG
          obtain ⟨hxa, hsz, hdf, hdn, hrs⟩ := hk
          obtain ⟨ea, rfl⟩ := Later.mk_ex hxa
          obtain ⟨g, c0, c1, c2, c3, k15, hge, hbk, hrm⟩ := hG
          have k16 := hdn 11 16 rfl rfl
          simp [finF] at k16
          have k0 := rest_at hrs 0 (by kernel_rfl)
          simp at k0
          have k1 := rest_at hrs 1 (by kernel_rfl)
          simp at k1
          have k2 := rest_at hrs 2 (by kernel_rfl)
          simp at k2
          have k3 := rest_at hrs 3 (by kernel_rfl)
          simp at k3
          have k4 := rest_at hrs 4 (by kernel_rfl)
          simp at k4
          have k5 := rest_at hrs 5 (by kernel_rfl)
          simp at k5
          have k6 := rest_at hrs 6 (by kernel_rfl)
          simp at k6
          have k7 := rest_at hrs 7 (by kernel_rfl)
          simp at k7
          have k8 := rest_at hrs 8 (by kernel_rfl)
          simp at k8
          have k9 := rest_at hrs 9 (by kernel_rfl)
          simp at k9
          have k10 := rest_at hrs 10 (by kernel_rfl)
          simp at k10
          have k11 := rest_at hrs 11 (by kernel_rfl)
          simp at k11
          have k12 := rest_at hrs 12 (by kernel_rfl)
          simp at k12
          have k13 := rest_at hrs 13 (by kernel_rfl)
          simp at k13
          have k14 := rest_at hrs 14 (by kernel_rfl)
          simp at k14
          have k19 := rest_at hrs 19 (by kernel_rfl)
          simp at k19
          have k20 := rest_at hrs 20 (by kernel_rfl)
          simp at k20
          have k21 := rest_at hrs 21 (by kernel_rfl)
          simp at k21
          have k22 := rest_at hrs 22 (by kernel_rfl)
          simp at k22
          have k23 := rest_at hrs 23 (by kernel_rfl)
          simp at k23
          have k24 := rest_at hrs 24 (by kernel_rfl)
          simp at k24
          have k25 := rest_at hrs 25 (by kernel_rfl)
          simp at k25
          have k26 := rest_at hrs 26 (by kernel_rfl)
          simp at k26
          have k27 := rest_at hrs 27 (by kernel_rfl)
          simp at k27
          have k28 := rest_at hrs 28 (by kernel_rfl)
          simp at k28
          have k29 := rest_at hrs 29 (by kernel_rfl)
          simp at k29
          have k30 := rest_at hrs 30 (by kernel_rfl)
          simp at k30
          have k31 := rest_at hrs 31 (by kernel_rfl)
          simp at k31
          have k32 := rest_at hrs 32 (by kernel_rfl)
          simp at k32
          have k33 := rest_at hrs 33 (by kernel_rfl)
          simp at k33
          have k34 := rest_at hrs 34 (by kernel_rfl)
          simp at k34
          have k35 := rest_at hrs 35 (by kernel_rfl)
          simp at k35
          have k36 := rest_at hrs 36 (by kernel_rfl)
          simp at k36
          have k37 := rest_at hrs 37 (by kernel_rfl)
          simp at k37
          have k38 := rest_at hrs 38 (by kernel_rfl)
          simp at k38
          have k39 := rest_at hrs 39 (by kernel_rfl)
          simp at k39
          have k40 := rest_at hrs 40 (by kernel_rfl)
          simp at k40
          have k41 := rest_at hrs 41 (by kernel_rfl)
          simp at k41
          have k42 := rest_at hrs 42 (by kernel_rfl)
          simp at k42
          have k43 := rest_at hrs 43 (by kernel_rfl)
          simp at k43
          have k44 := rest_at hrs 44 (by kernel_rfl)
          simp at k44
          have k45 := rest_at hrs 45 (by kernel_rfl)
          simp at k45
          have k46 := rest_at hrs 46 (by kernel_rfl)
          simp at k46
          have k47 := rest_at hrs 47 (by kernel_rfl)
          simp at k47
          have k48 := rest_at hrs 48 (by kernel_rfl)
          simp at k48
          have k49 := rest_at hrs 49 (by kernel_rfl)
          simp at k49
          have k50 := rest_at hrs 50 (by kernel_rfl)
          simp at k50
          have k51 := rest_at hrs 51 (by kernel_rfl)
          simp at k51
          have k52 := rest_at hrs 52 (by kernel_rfl)
          simp at k52
          have k53 := rest_at hrs 53 (by kernel_rfl)
          simp at k53
          have k54 := rest_at hrs 54 (by kernel_rfl)
          simp at k54
          have k55 := rest_at hrs 55 (by kernel_rfl)
          simp at k55
          have k56 := rest_at hrs 56 (by kernel_rfl)
          simp at k56
          have k57 := rest_at hrs 57 (by kernel_rfl)
          simp at k57
          have k58 := rest_at hrs 58 (by kernel_rfl)
          simp at k58
          have k59 := rest_at hrs 59 (by kernel_rfl)
          simp at k59
          have k60 := rest_at hrs 60 (by kernel_rfl)
          simp at k60
          have k61 := rest_at hrs 61 (by kernel_rfl)
          simp at k61
          have k62 := rest_at hrs 62 (by kernel_rfl)
          simp at k62
          have k63 := rest_at hrs 63 (by kernel_rfl)
          simp at k63
          have k64 := rest_at hrs 64 (by kernel_rfl)
          simp at k64
          have k65 := rest_at hrs 65 (by kernel_rfl)
          simp at k65
          have k66 := rest_at hrs 66 (by kernel_rfl)
          simp at k66
          have k67 := rest_at hrs 67 (by kernel_rfl)
          simp at k67
          have k68 := rest_at hrs 68 (by kernel_rfl)
          simp at k68
          have k69 := rest_at hrs 69 (by kernel_rfl)
          simp at k69
          have k70 := rest_at hrs 70 (by kernel_rfl)
          simp at k70
          have k71 := rest_at hrs 71 (by kernel_rfl)
          simp at k71
          have k72 := rest_at hrs 72 (by kernel_rfl)
          simp at k72
          have k73 := rest_at hrs 73 (by kernel_rfl)
          simp at k73
          have k74 := rest_at hrs 74 (by kernel_rfl)
          simp at k74
          have k75 := rest_at hrs 75 (by kernel_rfl)
          simp at k75
          have k76 := rest_at hrs 76 (by kernel_rfl)
          simp at k76
          have k77 := rest_at hrs 77 (by kernel_rfl)
          simp at k77
          have k78 := rest_at hrs 78 (by kernel_rfl)
          simp at k78
          have k79 := rest_at hrs 79 (by kernel_rfl)
          simp at k79
          have k80 := rest_at hrs 80 (by kernel_rfl)
          simp at k80
          have k81 := rest_at hrs 81 (by kernel_rfl)
          simp at k81
          have k82 := rest_at hrs 82 (by kernel_rfl)
          simp at k82
          have k83 := rest_at hrs 83 (by kernel_rfl)
          simp at k83
          have k142 := rest_at hrs 142 (by kernel_rfl)
          simp at k142
          have k143 := rest_at hrs 143 (by kernel_rfl)
          simp at k143
          have k144 := rest_at hrs 144 (by kernel_rfl)
          simp at k144
          have k145 := rest_at hrs 145 (by kernel_rfl)
          simp at k145
          have k146 := rest_at hrs 146 (by kernel_rfl)
          simp at k146
          have k147 := rest_at hrs 147 (by kernel_rfl)
          simp at k147
          have k148 := rest_at hrs 148 (by kernel_rfl)
          simp at k148
          have k149 := rest_at hrs 149 (by kernel_rfl)
          simp at k149
          have k150 := rest_at hrs 150 (by kernel_rfl)
          simp at k150
          have k151 := rest_at hrs 151 (by kernel_rfl)
          simp at k151
          have k152 := rest_at hrs 152 (by kernel_rfl)
          simp at k152
          have k153 := rest_at hrs 153 (by kernel_rfl)
          simp at k153
          have k154 := rest_at hrs 154 (by kernel_rfl)
          simp at k154
          have k155 := rest_at hrs 155 (by kernel_rfl)
          simp at k155
          have k156 := rest_at hrs 156 (by kernel_rfl)
          simp at k156
          clear hdn hrs
          rw [act_lit hsz hdf]
          simp [List.range, List.range.loop] at k15 k16 k0 k1 k2 k3 k4 k5 k6 k7 k8 k9 k10 k11 k12 k13 k14 k19 k20 k21 k22 k23 k24 k25 k26 k27 k28 k29 k30 k31 k32 k33 k34 k35 k36 k37 k38 k39 k40 k41 k42 k43 k44 k45 k46 k47 k48 k49 k50 k51 k52 k53 k54 k55 k56 k57 k58 k59 k60 k61 k62 k63 k64 k65 k66 k67 k68 k69 k70 k71 k72 k73 k74 k75 k76 k77 k78 k79 k80 k81 k82 k83 k142 k143 k144 k145 k146 k147 k148 k149 k150 k151 k152 k153 k154 k155 k156
          simp [List.range, List.range.loop, k15, k16, k0, k1, k2, k3, k4, k5, k6, k7, k8, k9, k10, k11, k12, k13, k14, k19, k20, k21, k22, k23, k24, k25, k26, k27, k28, k29, k30, k31, k32, k33, k34, k35, k36, k37, k38, k39, k40, k41, k42, k43, k44, k45, k46, k47, k48, k49, k50, k51, k52, k53, k54, k55, k56, k57, k58, k59, k60, k61, k62, k63, k64, k65, k66, k67, k68, k69, k70, k71, k72, k73, k74, k75, k76, k77, k78, k79, k80, k81, k82, k83, k142, k143, k144, k145, k146, k147, k148, k149, k150, k151, k152, k153, k154, k155, k156]
          clear k15 k16 k0 k1 k2 k3 k4 k5 k6 k7 k8 k9 k10 k11 k12 k13 k14 k19 k20 k21 k22 k23 k24 k25 k26 k27 k28 k29 k30 k31 k32 k33 k34 k35 k36 k37 k38 k39 k40 k41 k42 k43 k44 k45 k46 k47 k48 k49 k50 k51 k52 k53 k54 k55 k56 k57 k58 k59 k60 k61 k62 k63 k64 k65 k66 k67 k68 k69 k70 k71 k72 k73 k74 k75 k76 k77 k78 k79 k80 k81 k82 k83 k142 k143 k144 k145 k146 k147 k148 k149 k150 k151 k152 k153 k154 k155 k156 hsz hdf
          generalize A.tmps[17]?.getD undef = A17 at *
          generalize A.tmps[18]?.getD undef = A18 at *
          generalize A.tmps[84]?.getD undef = A84 at *
          generalize A.tmps[85]?.getD undef = A85 at *
          generalize A.tmps[86]?.getD undef = A86 at *
          generalize A.tmps[87]?.getD undef = A87 at *
          generalize A.tmps[88]?.getD undef = A88 at *
          generalize A.tmps[89]?.getD undef = A89 at *
          generalize A.tmps[90]?.getD undef = A90 at *
          generalize A.tmps[91]?.getD undef = A91 at *
          generalize A.tmps[92]?.getD undef = A92 at *
          generalize A.tmps[93]?.getD undef = A93 at *
          generalize A.tmps[94]?.getD undef = A94 at *
          generalize A.tmps[95]?.getD undef = A95 at *
          generalize A.tmps[96]?.getD undef = A96 at *
          generalize A.tmps[97]?.getD undef = A97 at *
          generalize A.tmps[98]?.getD undef = A98 at *
          generalize A.tmps[99]?.getD undef = A99 at *
          generalize A.tmps[100]?.getD undef = A100 at *
          generalize A.tmps[101]?.getD undef = A101 at *
          generalize A.tmps[102]?.getD undef = A102 at *
          generalize A.tmps[103]?.getD undef = A103 at *
          generalize A.tmps[104]?.getD undef = A104 at *
          generalize A.tmps[105]?.getD undef = A105 at *
          generalize A.tmps[106]?.getD undef = A106 at *
          generalize A.tmps[107]?.getD undef = A107 at *
          generalize A.tmps[108]?.getD undef = A108 at *
          generalize A.tmps[109]?.getD undef = A109 at *
          generalize A.tmps[110]?.getD undef = A110 at *
          generalize A.tmps[111]?.getD undef = A111 at *
          generalize A.tmps[112]?.getD undef = A112 at *
          generalize A.tmps[113]?.getD undef = A113 at *
          generalize A.tmps[114]?.getD undef = A114 at *
          generalize A.tmps[115]?.getD undef = A115 at *
          generalize A.tmps[116]?.getD undef = A116 at *
          generalize A.tmps[117]?.getD undef = A117 at *
          generalize A.tmps[118]?.getD undef = A118 at *
          generalize A.tmps[119]?.getD undef = A119 at *
          generalize A.tmps[120]?.getD undef = A120 at *
          generalize A.tmps[121]?.getD undef = A121 at *
          generalize A.tmps[122]?.getD undef = A122 at *
          generalize A.tmps[123]?.getD undef = A123 at *
          generalize A.tmps[124]?.getD undef = A124 at *
          generalize A.tmps[125]?.getD undef = A125 at *
          generalize A.tmps[126]?.getD undef = A126 at *
          generalize A.tmps[127]?.getD undef = A127 at *
          generalize A.tmps[128]?.getD undef = A128 at *
          generalize A.tmps[129]?.getD undef = A129 at *
          generalize A.tmps[130]?.getD undef = A130 at *
          generalize A.tmps[131]?.getD undef = A131 at *
          generalize A.tmps[132]?.getD undef = A132 at *
          generalize A.tmps[133]?.getD undef = A133 at *
          generalize A.tmps[134]?.getD undef = A134 at *
          generalize A.tmps[135]?.getD undef = A135 at *
          generalize A.tmps[136]?.getD undef = A136 at *
          generalize A.tmps[137]?.getD undef = A137 at *
          generalize A.tmps[138]?.getD undef = A138 at *
          generalize A.tmps[139]?.getD undef = A139 at *
          generalize A.tmps[140]?.getD undef = A140 at *
          generalize A.tmps[141]?.getD undef = A141 at *
          have HBK := hide (And.intro hbk (And.intro hrm hge))
          have HXE := hide (HXW.out.trans ea.ext)
          have HX5 := hide (HXR.out.trans ea.ext)
          obtain ⟨d0, d1, d2, d3⟩ := hbk.get4
          have GU := hide (GU.out ea.w [c0, c1, c2, c3] HXE.out hrm)
          clear hbk hrm hge hcells
          go_wp2_with fail
          go_at_call 15
          refine GU.out.mono ?_
          rintro _ w6 ⟨v, rfl, hownu, hx6⟩
          have hsu := SStr.of_row hownu
          obtain ⟨ua2, uc2, rfl⟩ := row_slice_n hownu
          have HSU := hide hsu
          obtain ⟨ua', uc', hua, huc, hru⟩ := hsu
          obtain ⟨rfl, -, rfl⟩ := Value.slice.inj hua
          have HRU := hide hru
          have HX6 := hide (HX5.out.trans hx6)
          have HOW6 := hide (row_ext HOWN.out (ea.ext.trans hx6))
          have hU := hide (fun (j : Nat) (hj : j < (usesM m).length) => KU.out (usesM m)[j] (List.getElem_mem hj))
          obtain ⟨wq, hwq⟩ : ∃ wq, wq = wr := ⟨_, rfl⟩
          subst hwq
          clear hownu hx6 hru huc hua GU KU HX5 d0 d1 d2 d3 a0r
          obtain ⟨U, hUe⟩ : ∃ U, usesM m = U := ⟨_, rfl⟩
          simp only [hUe] at *
          clear hUe
          go_wp2_with fail
          go_loopw [18] (fun i wr => ∃ j : Nat, j ≤ U.length ∧ i = .int .i64 j ∧ Ext w6 wr) (fun i _ => U.length - (intOf i).toNat)
          case atStart => exact ⟨0, Nat.zero_le _, rfl, Ext.refl _⟩
          case round =>
            obtain ⟨j, hj, rfl, hxj⟩ := hrel
            by_cases hjl : j < U.length
            · obtain ⟨bu, ou, rfl, hcu⟩ := HRU.out j hjl
              have hcu := cellAt (hxj.at_ hcu)
              have KA := hide ((hU.out j hjl).later (HX6.out.trans hxj))
              have HXJ := hide hxj
              clear hxj
              generalize U[j] = s2 at *
              go_wp2_with fail
              refine wp_region_later (W := wr) (by kernel_rfl) (by kernel_rfl) (Ext.refl _) ?_
              repeat (go_big_quiet_step ((go_at_call 14; exact KA.out.at_ _)))
              refine wpQuiet_nil ?_
              rintro _ ⟨e7, rfl⟩
              go_wp2_with fail
              go_roundw
              case rel => exact ⟨j + 1, by omega, by go_num, HXJ.out.trans e7.ext⟩
              case measure => simp [intOf]; omega
            · have hjl2 : j = U.length := by omega
              subst hjl2
              have HXZ := hide (HX6.out.trans hxj)
              have HOW7 := hide (row_ext HOW6.out hxj)
              have HFL := hide (Flat.strs (HSU.out.ext hxj))
              have hb7 := (HX6.out.trans hxj).size
              have hkn : k ≤ 64 := by omega
              have hunl : un ≤ 640000000 := by have := HUL.out; omega
              clear hxj
              go_wp2_with (at_builtin; refine wpList_append_flat rfl _ _ 27 rfl W3.heap.size 9 ti _ 1 16 Tryd.underlying27 hti htz0 hts htb rfl (by decide) (by decide) (.slice ua un uc) un _ rfl HOW7.out ua2 U.length uc2 (U.map .string) rfl HFL.out (by omega) (by omega) hb7 ?_; intro v7 w7 hown7 hg7 hf7
                           have hx7 : Ext W3 w7 := HXZ.out.grown hg7 (fun r hr => (HOW7.out.lt r hr).1)
                           obtain ⟨a7, c7, rfl⟩ := row_one_str hown7
                           have H7 := hide (And.intro hown7 hx7)
                           clear hown7 hg7 hf7 hx7)
              obtain ⟨wy, hwy⟩ : ∃ wy, wy = wr := ⟨_, rfl⟩
              subst hwy
              go_wp2_with fail
              go_loopw [13] (fun v13 wr => ∃ a2 : Nat, a2 ≤ AO.length ∧ v13 = .int .i64 a2 ∧ List.Sublist (s :: L.drop (k + 1)) (AO.drop a2) ∧ Ext w7 wr) (fun v13 _ => AO.length - (intOf v13).toNat)
              case atStart => exact ⟨at_, hat, rfl, HSUB.out, Ext.refl _⟩
              case round =>
                obtain ⟨a2, ha2, rfl, hsub2, hxa⟩ := hrel
                by_cases hlt2 : a2 < AO.length
                · obtain ⟨ba, oa, rfl, hca⟩ := HRA.out a2 hlt2
                  rw [List.drop_eq_getElem_cons hlt2] at hsub2
                  have hxs := H7.out.2.trans hxa
                  have hcl := cellAt (hxs.at_ HCELL.out)
                  have hca := cellAt (hxs.at_ hca)
                  have HXA := hide hxa
                  have HXS := hide hxs
                  clear hxa hxs
                  by_cases he : AO[a2] = s
                  · have HS2 := hide (show List.Sublist (L.drop (k + 1)) (AO.drop a2) from by rw [List.drop_eq_getElem_cons hlt2, he]; rw [he] at hsub2; exact sub_take hsub2)
                    rw [he] at hca
                    have hne : ((a2 : Int) == (AO.length : Int)) = false := by
                      have : ¬ (a2 : Int) = (AO.length : Int) := by omega
                      simpa using this
                    clear hsub2 he
                    go_wp2_with fail
                    refine wp_region_later (W := wr) (by kernel_rfl) (by kernel_rfl) (Ext.refl _) ?_
                    repeat (go_big_quiet_step (fail))
                    refine wpQuiet_nil ?_
                    rintro _ ⟨e8, rfl⟩
                    go_wp2_with fail
                    go_roundw
                    case rel =>
                      have hlen : (allUses f (L.take (k + 1))).length = un + U.length := by rw [HST.out, List.length_append, hun]
                      exact ⟨k + 1, by omega, by go_num, ⟨a2, by omega, rfl, HS2.out⟩, ⟨a7, c7, by rw [hlen]⟩, by rw [hlen, HST.out, List.map_append]; exact row_ext H7.out.1 (HXA.out.trans e8.ext), by rw [hlen]; have := HUL.out; omega, HXS.out.trans e8.ext⟩
                    case measure => simp [intOf]; omega
                  · have HS2 := hide (sub_skip hsub2 he)
                    have hne := text_ne he
                    clear hsub2 he
                    generalize AO[a2] = s3 at *
                    go_wp2_with fail
                    refine wp_region_later (W := wr) (by kernel_rfl) (by kernel_rfl) (Ext.refl _) ?_
                    repeat (go_big_quiet_step (fail))
                    refine wpQuiet_nil ?_
                    rintro _ ⟨e8, rfl⟩
                    go_wp2_with fail
                    go_roundw
                    case rel => exact ⟨a2 + 1, by omega, by go_num, HS2.out, HXA.out.trans e8.ext⟩
                    case measure => simp [intOf]; omega
                · exfalso
                  rw [List.drop_eq_nil_of_le (Nat.le_of_not_lt hlt2)] at hsub2
                  exact sub_nil hsub2
        · have hkl : k = L.length := by omega
          subst hkl
          have HOWN := hide hown
          have HX := hide (Q03.out.trans hxr)
          have HCL := hide (fun (j : Nat) (hj : j < L.length) => show wr.cell? ⟨bl, ol + j, none⟩ = some (.string L[j]) from by
            obtain ⟨bl', ol', he', hcell⟩ := HRL.out j hj
            obtain ⟨rfl, rfl⟩ : bl = bl' ∧ ol = ol' := by simpa using he'
            exact hxr.at_ hcell)
          have hulb : (allUses f (L.take L.length)).length ≤ 1000000000 := by omega
          have HUS := hide (fun (j : Nat) (hj : j + 1 < L.length) => show L[j]'(Nat.lt_of_succ_lt hj) ∈ allUses f (L.take L.length) from by
            obtain ⟨b, m, h1, h2, h3⟩ := USED.out j hj
            rw [List.take_length]
            exact mem_allUses h1 h2 h3)
          obtain ⟨wq, hwq⟩ : ∃ wq, wq = wr := ⟨_, rfl⟩
          subst hwq
          clear hown hxr hsub hul
          generalize (allUses f (L.take L.length)) = UU at *
          go_wp2_with fail
          clear hHN
          go_loopw [19] (fun i wr => ∃ j : Nat, j ≤ n ∧ i = .int .i64 j ∧ wr = wq) (fun i _ => n - (intOf i).toNat)
          case atStart => exact ⟨0, Nat.zero_le _, rfl, rfl⟩
          case round =>
            obtain ⟨j, hj, rfl, rfl⟩ := hrel
            by_cases hjl : j < n
            · have hjL : j < L.length := by have := HN.out; omega
              have hcj := HCL.out j hjL
              have KA := hide (refAmong_any UU L[j] _ _ (SStr.of_row HOWN.out) hulb)
              rw [yes_iff.2 (HUS.out j (by have := HN.out; omega))] at KA
              generalize L[j] = s4 at *
              go_wp2_with fail
              go_at_call 14
              refine KA.out.mono ?_
              rintro _ _ ⟨rfl, rfl⟩
              go_wp2_with fail
              go_roundw
              case rel => exact ⟨j + 1, by omega, by go_num, by first | trivial | rfl⟩
              case measure => simp [intOf]; omega
            · have hjn : j = n := by omega
              subst hjn
              go_wp2_with fail
              go_ret
              exact ⟨rfl, HX.out⟩
    · obtain rfl := hno2 h2
      have GT := hide (GT.out e3.w (Q03.out.trans e3.ext))
      have hne : (c2 != 0) = true := by simpa using h2
      have hcases : (c ≠ 0 ∧ c2 = c) ∨ (c = 0 ∧ (findM f top).isSome = false ∧ c2 = 71) := by
        by_cases h0 : c = 0
        · rw [if_pos h0] at hc2
          by_cases hs : (findM f top).isSome = true
          · rw [if_pos hs] at hc2; exact absurd hc2 h2
          · rw [if_neg hs] at hc2; exact .inr ⟨h0, by simpa using hs, hc2⟩
        · rw [if_neg h0] at hc2; exact .inl ⟨h0, hc2⟩
      have HCS := hide hcases
      clear hcases hc2 h2 hno2 hok2 hx3 hW3 GB H2 HX12 HC y0
      go_wp2_with fail
      go_at_call 13
      refine GT.out.mono ?_
      rintro _ w4 ⟨d0, d1, d2, d3, rfl, hR, hx4⟩
      obtain ⟨u1, u2, u3, hcs, hp1, hq1, hi1⟩ := hR
      simp only [List.cons.injEq, and_true] at hcs
      obtain ⟨rfl, rfl, rfl, rfl⟩ := hcs
      have o1 := hp1.oneCell
      have o2 := hq1.oneCell
      have o3 := hi1.oneCell
      generalize ((findM f top).getD zeroM).name = nmx at *
      obtain ⟨Wb, Wc, hVb, ⟨p0, p1, p2, p3⟩, ⟨q0, q1, q2, q3⟩, hVc, hbc, hxc, -⟩ := varM w4 (.string nmx) d1 d2 d3
      obtain ⟨ec, hec⟩ := Later.mk_ex (Ext.refl Wc)
      replace hVc := hVc.trans hec
      have hx3c := (e3.ext.trans hx4).trans hxc
      have CF := hide (CF.out.later hx3c)
      have a3 := cellL a3 hx3c
      have HX := hide (Q03.out.trans hx3c)
      clear hp1 hq1 hi1 hbc hxc hec hx4 hx3c GT
      rcases HCS.out with ⟨h0, rfl⟩ | ⟨rfl, hs, rfl⟩
      · clear h0 HCS
        go_wp2_with (go_at_call 12; refine (CF.out.at_ _).mono ?_; rintro _ _ ⟨rfl, e, rfl⟩)
        go_ret
        exact ⟨rfl, HX.out.trans (Later.ext _)⟩
      · clear HCS
        rw [hs]
        go_wp2_with (go_at_call 12; refine (CF.out.at_ _).mono ?_; rintro _ _ ⟨rfl, e, rfl⟩)
        go_ret
        exact ⟨rfl, HX.out.trans (Later.ext _)⟩

end Go.Proofs.YtjoglnjpgkobeaaDoor
