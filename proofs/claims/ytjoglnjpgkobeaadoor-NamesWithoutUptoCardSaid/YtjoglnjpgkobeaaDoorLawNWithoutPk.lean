/-
  THE LAW NamesWithout: WHAT IT COMPUTES.
-/
import Derived.Test.YtjoglnjpgkobeaaDoorNLawWPk
namespace Go.Proofs.YtjoglnjpgkobeaaDoor
open Go Go.RowKit
set_option linter.all false
set_option linter.unusedVariables false
set_option linter.unusedSimpArgs false
set_option linter.unusedVariables false
set_option linter.unusedSimpArgs false
attribute [local go_sem] run_store_one

theorem sl_imp {α : Type} {R R' : α → List Value → Prop} {w : World} {B sz : Nat} {l : List α} {v : Value} (h : Sl R w B sz l v) (hR : ∀ x cs, R x cs → R' x cs) : Sl R' w B sz l v := by
  obtain ⟨a, cap, hv, hc, hr⟩ := h
  refine ⟨a, cap, hv, hc, fun k hk => ?_⟩
  obtain ⟨b, o, cs, ha, hb, hl, hC, h1, hx⟩ := hr k hk
  exact ⟨b, o, cs, ha, hb, hl, hC, h1, hR _ _ hx⟩
theorem only_step {f : List Mdl} {l : List ByteArray} {k : Nat} (hk : k < f.length) : onlyM (f.take (k + 1)) l = onlyM (f.take k) l ++ (if yes (f[k].name ∈ l) then [f[k]] else []) := by
  unfold onlyM
  rw [List.take_succ_eq_append_getElem hk, List.filter_append]
  congr 1
  rw [List.filter_cons]; rfl
/-- A row of the law's own that holds the modules that are wanted. -/
structure OnlyI (w : World) (B : Nat) (w2 : World) (g : List Mdl) (v : Value) (news : List Value) (X : World) : Prop where
  box : Blk X w2.heap.size 24 [v]
  row : X.ownsRow (w2.heap.size + 1) 36 4 v g.length news
  one : ∀ u ∈ news, u.oneCell' = true
  rm : ∀ j (h : j < g.length), RM w B g[j] ((news.drop (j * 4)).take 4)
theorem OnlyI.push {w : World} {B : Nat} {w2 : World} {g : List Mdl} {v v' : Value} {news cs : List Value} {X Y : World} {x : Mdl} (h : OnlyI w B w2 g v news X) (hbox : Blk Y w2.heap.size 24 [v']) (hrow : Y.ownsRow (w2.heap.size + 1) 36 4 v' (g.length + 1) (news ++ cs))
    (h4 : cs.length = 4) (h1 : ∀ u ∈ cs, u.oneCell' = true) (hx : RM w B x cs) : OnlyI w B w2 (g ++ [x]) v' (news ++ cs) Y := by
  have hl := h.row.1
  refine ⟨hbox, by rw [List.length_append]; exact hrow, fun u hu => (List.mem_append.1 hu).elim (h.one u) (h1 u), fun j hj => ?_⟩
  rw [List.length_append] at hj
  by_cases hlt : j < g.length
  · have hks : j * 4 + 4 ≤ g.length * 4 := by omega
    rw [List.getElem_append_left hlt, List.drop_append_of_le_length (by omega), List.take_append_of_le_length (by rw [List.length_drop]; omega)]
    exact h.rm j hlt
  · obtain rfl : j = g.length := by simp at hj; omega
    rw [← hl, List.drop_left, ← h4, List.take_length]
    simpa using hx
theorem OnlyI.sl {w : World} {B : Nat} {w2 : World} {g : List Mdl} {v : Value} {news : List Value} {X : World} (h : OnlyI w B w2 g v news X) (hx : Ext w X) (hB : B ≤ w.heap.size) : Sl (RM X X.heap.size) X X.heap.size 4 g v :=
  sl_imp (Sl.of_own (R := RM w B) (by decide) h.row h.one h.rm) fun x cs hr => (hr.ext hx hB).more (Nat.le_trans hB hx.size)

set_option maxRecDepth 20000 in
set_option maxHeartbeats 16000000 in
theorem lawNWithout_any (B : Nat) (f : List Mdl) (top : ByteArray) (w : World) (vf : Value) (hT : Tabs w) (hB : B ≤ w.heap.size) (hS : Sl (RM w B) w B 4 f vf) (hsz : msize sizeM f ≤ 10000000) (hvx : ∀ m, m ∈ f → VM m) (htz : top.size ≤ 1000000000) :
    Calls Tryd.prog 8 #[.agg #[vf], .string top] w fun e w' => e = .returned (.bool true) ∧ Ext w w' := by
  have HS := hide hS
  have HTab := hide hT
  have HVX := hide hvx
  have hln := length_le_msize sizeM f sizeM_pos
  obtain ⟨a, cap, rfl, hcap, hrow⟩ := hS
  have HROW := hide hrow
  obtain ⟨W1, e1, hV1, hx1, -, a0⟩ := boxL1 w (.slice a f.length cap) 24
  have hB1 : B ≤ W1.heap.size := Nat.le_trans hB hx1.size
  have GL := hide (show ECalls Tryd.prog 9 #[] W1 (.bool true) from fun w' hw => live7_any w' (HTab.out.ext (hx1.trans hw)))
  have GF := hide (show ECalls Tryd.prog 10 #[.agg #[.slice a f.length cap]] W1 (.bool (yes (fewP (msize sizeM f) (mdeep deepM f)))) from fun w' hw => few7_any B f w' _ (HS.out.extRM (hx1.trans hw) hB) (Nat.le_trans hB1 hw.size) (by omega))
  have GB := hide (fun (e : Later W1) => below_any B f top e.w _ (HTab.out.ext (hx1.trans e.ext)) (HS.out.extRM (hx1.trans e.ext) hB) (Nat.le_trans hB1 e.ext.size) hsz hvx)
  have Q01 := hide hx1
  clear hcap hrow hx1 hT hvx
  cases hb1 : yes (fewP (msize sizeM f) (mdeep deepM f)) with
  | false =>
    rw [hb1] at GF
    clear GB
    go_enter Tryd.func8, Tryd.ntmps8
    go_wp2_with (first
      | (go_at_call 9; refine (GL.out.at_ _).mono ?_; rintro _ _ ⟨rfl, e, rfl⟩)
      | (go_at_call 10; with_reducible refine (GF.out.at_ _).mono ?_; rintro _ _ ⟨rfl, e, rfl⟩))
    go_ret
    exact ⟨rfl, Q01.out.trans (Later.ext _)⟩
  | true =>
    rw [hb1] at GF
    clear hb1
    by_cases ht : (100 : Int) < (top.size : Int)
    · clear GB
      go_enter Tryd.func8, Tryd.ntmps8
      go_wp2_with (first
        | (go_at_call 9; refine (GL.out.at_ _).mono ?_; rintro _ _ ⟨rfl, e, rfl⟩)
        | (go_at_call 10; with_reducible refine (GF.out.at_ _).mono ?_; rintro _ _ ⟨rfl, e, rfl⟩))
      go_ret
      exact ⟨rfl, Q01.out.trans (Later.ext _)⟩
    go_enter Tryd.func8, Tryd.ntmps8
    go_wp2_with (first
      | (go_at_call 9; refine (GL.out.at_ _).mono ?_; rintro _ _ ⟨rfl, e, rfl⟩)
      | (go_at_call 10; with_reducible refine (GF.out.at_ _).mono ?_; rintro _ _ ⟨rfl, e, rfl⟩))
    go_at_call 16
    refine (GB.out _).mono ?_
    rintro _ w2 ⟨v, c, rfl, hx2, hc, hok, hno⟩
    have hx12 : Ext W1 w2 := (Later.ext _).trans hx2
    have Q02 := hide (Q01.out.trans hx12)
    have a2 := cellL a0 hx12
    clear GL GF GB Q01 a0
    by_cases h0 : c = 0
    · have hc0 : checkN f = 0 ∧ (findM f top).isSome = true := by
        rw [h0] at hc
        by_cases h1 : checkN f = 0
        · rw [if_pos h1] at hc
          by_cases hs : (findM f top).isSome = true
          · exact ⟨h1, hs⟩
          · rw [if_neg hs] at hc; omega
        · rw [if_neg h1] at hc; omega
      obtain ⟨hck, hsome⟩ := hc0
      have hrow2 := hok h0
      subst h0
      have HSL := hide (SStr.of_row hrow2)
      obtain ⟨la, lc, rfl⟩ := row_form hrow2
      have LAW := hide (without_law hck hsome)
      obtain ⟨hF, hnd, -, -, hlen⟩ := check_facts hck
      have h64 := (checkF_zero.1 hF).1
      have hLl : (belowN f top).length ≤ 64 := Nat.le_trans (below_sub f top).length_le (by omega)
      obtain ⟨L, hLe⟩ : ∃ L, belowN f top = L := ⟨_, rfl⟩
      simp only [hLe] at *
      obtain ⟨W3, hW3, hx3, hb3⟩ := box1 w2 (.slice none 0 0) 24
      have hV3 := hW3.symm
      have HX3 := hide hx3
      have HB3 := hide hb3
      have hs3 : W3.heap.size = w2.heap.size + 1 := by rw [hW3]; simp
      have HS3 := hide hs3
      clear hck hsome hok hno hx2 hrow2 hF hnd hlen hW3 hx3 hb3 hs3 hc hx12 hLe
      go_wp2_with fail
      go_loopw [9] (fun i wr => ∃ k : Nat, k ≤ f.length ∧ i = .int .i64 k ∧ Ext w2 wr ∧ w2.heap.size + 1 ≤ wr.heap.size ∧ ∃ v news, OnlyI w B w2 (onlyM (f.take k) L) v news wr) (fun i _ => f.length - (intOf i).toNat)
      case atStart => exact ⟨0, Nat.zero_le _, rfl, HX3.out, by have := HS3.out; omega, .slice none 0 0, [], HB3.out, World.ownsRow_nil _ _ _ _, (fun u hu => nomatch hu), fun j hj => by simp [onlyM] at hj⟩
      case round =>
        obtain ⟨k, hk, rfl, hxr, hsr, vr, news, hoi⟩ := hrel
        have HO := hide hoi
        have HXR := hide hxr
        have HSR := hide hsr
        clear hoi hxr hsr hV3
        have y2 := HXR.out.at_ (a2 ⟨w2, Ext.refl _⟩)
        by_cases hlt : k < f.length
        · obtain ⟨b, o, v0, v1, v2, v3, rfl, hbB, hR, hC, o0, o1, o2, o3⟩ := HROW.out.open4 hlt
          have hxw := Q02.out.trans HXR.out
          obtain ⟨d0, d1, d2, d3⟩ := (hC.ext hxw).get4
          have HRM := hide hR
          obtain ⟨v1', v2', v3', hcs, -, -, -⟩ := hR
          simp only [List.cons.injEq, and_true] at hcs
          obtain ⟨rfl, rfl, rfl, rfl⟩ := hcs
          have HC := hide hC
          have KA := hide (refAmong_any L f[k].name wr _ (HSL.out.ext HXR.out) (by omega))
          have HST := hide (only_step (l := L) hlt)
          have hcnt : (onlyM (f.take k) L).length ≤ 64 := by
            have := List.length_filter_le (fun m : Mdl => yes (m.name ∈ L)) (f.take k)
            rw [List.length_take] at this
            unfold onlyM
            omega
          clear hC hxw
          by_cases hin : f[k].name ∈ L
          · rw [yes_iff.2 hin] at KA HST
            rw [if_pos rfl] at HST
            clear hin
            obtain ⟨x, hxe⟩ : ∃ x, f[k] = x := ⟨_, rfl⟩
            simp only [hxe] at *
            clear hxe
            obtain ⟨G, hG⟩ : ∃ G, onlyM (f.take k) L = G := ⟨_, rfl⟩
            rw [hG] at HO HST hcnt
            clear hG
            go_wp2_with fail
            go_at_call 14
            refine KA.out.mono ?_
            rintro _ wr ⟨rfl, rfl⟩
            have HROWJ := hide HO.out.row
            have HBOXJ := hide HO.out.box
            have HONE := hide (show ∀ u ∈ [Value.string x.name, v1, v2, v3], u.oneCell' = true from by
              intro u hu
              simp only [List.mem_cons, List.not_mem_nil, or_false] at hu
              rcases hu with rfl | rfl | rfl | rfl <;> first | assumption | rfl)
            have HLEN := hide (show G.length ≤ 1000000000 by omega)
            have HBASE := HSR
            have HOB := hide (show w2.heap.size < w2.heap.size + 1 by omega)
            have HOBG := hide (Nat.le_refl w2.heap.size)
            have HEXT := HXR
            have hcl := (HC.out.ext Q02.out).later4
            obtain ⟨c0, c1, c2, c3⟩ := hcl
            clear d0 d1 d2 d3 y2 KA
            go_wp2_with fail
            refine wp_region_facts_j (W := w2) (addF wr.heap.size w2.heap.size w.heap.size vr (.slice (some ⟨b, o, none⟩) f.length cap) k G.length ⟨b, o + k * 4, none⟩ [.string x.name, v1, v2, v3]) (addJ wr.heap.size (w2.heap.size + 1) w2.heap.size 60 vr G.length news [(.string x.name), v1, v2, v3]) (by kernel_rfl) (by kernel_rfl) ?_ HEXT.out ⟨fun _ => HROWJ.out, fun h => (by cases h), fun _ => HBOXJ.out, fun h => (by cases h), Nat.le_refl _⟩ ?_ ?_
            · simp [GuardsMet, addF]
            · refine ⟨?_, ?_, ?_, ?_, ?_, ?_, ?_, ?_, ?_, ?_, ?_, trivial⟩
              · refine StepJ.plain (S := [1, 8, 10]) (T := [60]) (addJ_looks wr.heap.size (w2.heap.size + 1) w2.heap.size 60 vr G.length news [(.string x.name), v1, v2, v3]) (fun i v w w' h hx => addF_ext h hx) (by decide) (by decide) ?_
                intro A wa hxa hd h0
                obtain ⟨ea, rfl⟩ := Later.mk_ex hxa
                have r8 := rest_at h0 8 (by kernel_rfl)
                simp at r8
                clear hd h0
                go_simp
                first | exact ⟨_, rfl, Ext.refl _, rfl⟩ | exact ⟨Ext.refl _, rfl⟩ | exact rfl | exact ⟨_, rfl, rfl⟩
              · intro L A wa hxa hli haf hsz hd h0 hJ
                obtain ⟨ea, rfl⟩ := Later.mk_ex hxa
                have q0 := depOn hd 0 52 (by kernel_rfl) rfl
                simp [addF] at q0
                have y0 := (hJ.2.2.1 (addJ_no10 hJ (.inl hli))).get1
                have HJ := hide hJ
                clear hd h0 hJ haf hli hsz
                go_simp
                first | exact ⟨_, rfl, ea.ext, fun j u h => h, rfl, addJ_load (d := some 53) (by decide) HJ.out⟩ | exact ⟨_, rfl, rfl, addJ_load (d := some 53) (by decide) HJ.out⟩ | exact ⟨_, rfl, fun j u h => h, rfl, addJ_load (d := some 53) (by decide) HJ.out⟩ | (trace_state; fail)
              · refine StepJ.plain (S := [1, 8, 10]) (T := [60]) (addJ_looks wr.heap.size (w2.heap.size + 1) w2.heap.size 60 vr G.length news [(.string x.name), v1, v2, v3]) (fun i v w w' h hx => addF_ext h hx) (by decide) (by decide) ?_
                intro A wa hxa hd h0
                obtain ⟨ea, rfl⟩ := Later.mk_ex hxa
                have r2 := rest_at h0 2 (by kernel_rfl)
                simp at r2
                clear hd h0
                go_simp
                first | exact ⟨_, rfl, Ext.refl _, rfl⟩ | exact ⟨Ext.refl _, rfl⟩ | exact rfl | exact ⟨_, rfl, rfl⟩
              · refine StepJ.plain (S := [1, 8, 10]) (T := [60]) (addJ_looks wr.heap.size (w2.heap.size + 1) w2.heap.size 60 vr G.length news [(.string x.name), v1, v2, v3]) (fun i v w w' h hx => addF_ext h hx) (by decide) (by decide) ?_
                intro A wa hxa hd h0
                obtain ⟨ea, rfl⟩ := Later.mk_ex hxa
                have q2 := depOn hd 2 54 (by kernel_rfl) rfl
                simp [addF] at q2
                clear hd h0
                go_simp
                first | exact ⟨_, rfl, Ext.refl _, rfl⟩ | exact ⟨Ext.refl _, rfl⟩ | exact rfl | exact ⟨_, rfl, rfl⟩
              · refine StepJ.plain (S := [1, 8, 10]) (T := [60]) (addJ_looks wr.heap.size (w2.heap.size + 1) w2.heap.size 60 vr G.length news [(.string x.name), v1, v2, v3]) (fun i v w w' h hx => addF_ext h hx) (by decide) (by decide) ?_
                intro A wa hxa hd h0
                obtain ⟨ea, rfl⟩ := Later.mk_ex hxa
                have r9 := rest_at h0 9 (by kernel_rfl)
                simp at r9
                clear hd h0
                go_simp
                first | exact ⟨_, rfl, Ext.refl _, rfl⟩ | exact ⟨Ext.refl _, rfl⟩ | exact rfl | exact ⟨_, rfl, rfl⟩
              · refine StepJ.plain (S := [1, 8, 10]) (T := [60]) (addJ_looks wr.heap.size (w2.heap.size + 1) w2.heap.size 60 vr G.length news [(.string x.name), v1, v2, v3]) (fun i v w w' h hx => addF_ext h hx) (by decide) (by decide) ?_
                intro A wa hxa hd h0
                obtain ⟨ea, rfl⟩ := Later.mk_ex hxa
                have q3 := depOn hd 3 55 (by kernel_rfl) rfl
                simp [addF] at q3
                have q4 := depOn hd 4 56 (by kernel_rfl) rfl
                simp [addF] at q4
                clear hd h0
                go_simp
                first | exact ⟨_, rfl, Ext.refl _, rfl⟩ | exact ⟨Ext.refl _, rfl⟩ | exact rfl | exact ⟨_, rfl, rfl⟩
              · refine StepJ.plain (S := [1, 8, 10]) (T := [60]) (addJ_looks wr.heap.size (w2.heap.size + 1) w2.heap.size 60 vr G.length news [(.string x.name), v1, v2, v3]) (fun i v w w' h hx => addF_ext h hx) (by decide) (by decide) ?_
                intro A wa hxa hd h0
                obtain ⟨ea, rfl⟩ := Later.mk_ex hxa
                have q5 := depOn hd 5 57 (by kernel_rfl) rfl
                simp [addF] at q5
                clear hd h0
                go_simp
                first | exact ⟨_, rfl, Ext.refl _, rfl⟩ | exact ⟨Ext.refl _, rfl⟩ | exact rfl | exact ⟨_, rfl, rfl⟩
              · intro L A wa hxa hli haf hsz hd h0 hJ
                obtain ⟨ea, rfl⟩ := Later.mk_ex hxa
                have q6 := depOn hd 6 58 (by kernel_rfl) rfl
                simp [addF] at q6
                obtain ⟨W7, hW7, hx7, hb7⟩ := box4 ea.w (.string x.name) v1 v2 v3 36
                have hV7 := hW7.symm
                have HG := hide (And.intro hx7 hb7)
                have HJ := hide hJ
                clear hW7 hx7 hb7 hd h0 hJ haf hli hsz
                go_simp
                first | exact ⟨_, rfl, ea.ext.trans HG.out.1, fun j u h => addF_ext h HG.out.1, ⟨_, rfl, HJ.out.2.2.2.2, HG.out.2⟩, addJ_new (d := some 59) (by decide) HG.out.1 HJ.out⟩ | exact ⟨_, rfl, ea.ext.trans HG.out.1, fun j u h => addF_ext h HG.out.1, ⟨_, rfl, HJ.out.2.2.2.2, HG.out.2⟩, addJ_new (d := some 59) (by decide) HG.out.1 HJ.out⟩ | (trace_state; fail)
              · intro L A wa hxa hli haf hsz hd h0 hJ
                obtain ⟨ea, rfl⟩ := Later.mk_ex hxa
                have q1 := depOn hd 1 53 (by kernel_rfl) rfl
                simp [addF] at q1
                obtain ⟨g, q7, hge, hbk⟩ := depOn hd 7 59 (by kernel_rfl) rfl
                simp at q7
                have hrow := hJ.1 hli
                obtain ⟨ti, hti, htz, hts, htb⟩ := info_parts infoM
                have hfl : Flat ea.w 4 (some ⟨g, 0, none⟩) 1 [(.string x.name), v1, v2, v3] := ⟨rfl, HONE.out, fun _ => ⟨g, 0, rfl, hbk.cells⟩⟩
                have hbs : (w2.heap.size + 1) ≤ ea.w.heap.size := Nat.le_trans HBASE.out hJ.2.2.2.2
                refine oper_append_flat _ _ 22 rfl (w2.heap.size + 1) 36 ti _ 4 88 Tryd.underlying22 hti htz hts htb rfl (by decide) (by decide) vr G.length news ?_ hrow (some ⟨g, 0, none⟩) 1 1 [(.string x.name), v1, v2, v3] ?_ hfl HLEN.out (by omega) hbs ?_
                · simp [Act.eval, q1]
                · simp [Act.eval, q7]
                intro v8 w8 hown8 hg8 hf8
                refine ⟨v8, rfl, ea.ext.grown hg8 (fun r hr => Nat.le_trans (Nat.le_of_lt HOB.out) (HROWJ.out.lt r hr).1), fun j u h => addF_grown h hg8 (fun r hr => (HROWJ.out.lt r hr).2), ?_, addJ_append (by rw [hsz]; show (60 : Nat) < 94; decide) (by have := HOB.out; omega) hli hJ hown8 hg8⟩
                obtain ⟨a8, c8, rfl⟩ := row_form hown8; exact ⟨a8, c8, rfl⟩
              · refine StepJ.plain (S := [1, 8, 10]) (T := [60]) (addJ_looks wr.heap.size (w2.heap.size + 1) w2.heap.size 60 vr G.length news [(.string x.name), v1, v2, v3]) (fun i v w w' h hx => addF_ext h hx) (by decide) (by decide) ?_
                intro A wa hxa hd h0
                obtain ⟨ea, rfl⟩ := Later.mk_ex hxa
                have r8 := rest_at h0 8 (by kernel_rfl)
                simp at r8
                clear hd h0
                go_simp
                first | exact ⟨_, rfl, Ext.refl _, rfl⟩ | exact ⟨Ext.refl _, rfl⟩ | exact rfl | exact ⟨_, rfl, rfl⟩
              · intro L A wa hxa hli haf hsz hd h0 hJ
                obtain ⟨ea, rfl⟩ := Later.mk_ex hxa
                have q9 := depOn hd 9 61 (by kernel_rfl) rfl
                simp [addF] at q9
                obtain ⟨a8, c8, q8⟩ := depOn hd 8 60 (by kernel_rfl) rfl
                have q8' := q8
                simp at q8
                have y0 := (hJ.2.2.1 hli).get1
                have z0 := (hJ.2.2.1 hli).free1
                have HS := hide (addJ_store q8' (by have := HOB.out; omega) hli (haf_on haf 1 (by kernel_rfl)) (haf_on haf 8 (by kernel_rfl)) hJ)
                have HX := hide (ea.ext.setCell (p := ⟨w2.heap.size, 0, none⟩) HOBG.out (.slice a8 (G.length + 1) c8))
                have HOL := hide (HBOXJ.out.lt)
                clear hd h0 hJ haf hli hsz q8'
                go_simp
                first | exact ⟨HX.out, fun j u h => addF_grown h (setCell_grown _ _ _ _) (fun r hr => by cases hr; exact HOL.out), ⟨undef, trivial⟩, HS.out⟩ | exact ⟨_, rfl, HX.out, fun j u h => addF_grown h (setCell_grown _ _ _ _) (fun r hr => by cases hr; exact HOL.out), trivial, HS.out⟩ | (trace_state; fail)
            intro A wa hk hJ
            obtain ⟨hxa, hsz, hdf, hdn, hrs⟩ := hk
            obtain ⟨ea, rfl⟩ := Later.mk_ex hxa
            have hrow9 := hJ.2.1 rfl
            have hbox9 := (hJ.2.2.2.1 rfl).2
            have hsz9 := hJ.2.2.2.2
            have k0 := rest_at hrs 0 (by kernel_rfl)
            simp at k0
            have k1 := rest_at hrs 1 (by kernel_rfl)
            simp at k1
            have k2 := rest_at hrs 2 (by kernel_rfl)
            simp at k2
            have k3 := rest_at hrs 3 (by kernel_rfl)
            simp at k3
            have k4 := rest_at hrs 4 (by kernel_rfl)
            simp at k4
            have k5 := rest_at hrs 5 (by kernel_rfl)
            simp at k5
            have k6 := rest_at hrs 6 (by kernel_rfl)
            simp at k6
            have k7 := rest_at hrs 7 (by kernel_rfl)
            simp at k7
            have k8 := rest_at hrs 8 (by kernel_rfl)
            simp at k8
            have k9 := rest_at hrs 9 (by kernel_rfl)
            simp at k9
            have k10 := rest_at hrs 10 (by kernel_rfl)
            simp at k10
            have k11 := rest_at hrs 11 (by kernel_rfl)
            simp at k11
            have k12 := rest_at hrs 12 (by kernel_rfl)
            simp at k12
            have k13 := rest_at hrs 13 (by kernel_rfl)
            simp at k13
            have k14 := rest_at hrs 14 (by kernel_rfl)
            simp at k14
            have k15 := rest_at hrs 15 (by kernel_rfl)
            simp at k15
            have k16 := rest_at hrs 16 (by kernel_rfl)
            simp at k16
            have k17 := rest_at hrs 17 (by kernel_rfl)
            simp at k17
            have k18 := rest_at hrs 18 (by kernel_rfl)
            simp at k18
            have k19 := rest_at hrs 19 (by kernel_rfl)
            simp at k19
            have k20 := rest_at hrs 20 (by kernel_rfl)
            simp at k20
            have k21 := rest_at hrs 21 (by kernel_rfl)
            simp at k21
            have k22 := rest_at hrs 22 (by kernel_rfl)
            simp at k22
            have k23 := rest_at hrs 23 (by kernel_rfl)
            simp at k23
            have k24 := rest_at hrs 24 (by kernel_rfl)
            simp at k24
            have k25 := rest_at hrs 25 (by kernel_rfl)
            simp at k25
            have k26 := rest_at hrs 26 (by kernel_rfl)
            simp at k26
            have k27 := rest_at hrs 27 (by kernel_rfl)
            simp at k27
            have k28 := rest_at hrs 28 (by kernel_rfl)
            simp at k28
            have k29 := rest_at hrs 29 (by kernel_rfl)
            simp at k29
            have k30 := rest_at hrs 30 (by kernel_rfl)
            simp at k30
            have k31 := rest_at hrs 31 (by kernel_rfl)
            simp at k31
            have k32 := rest_at hrs 32 (by kernel_rfl)
            simp at k32
            have k33 := rest_at hrs 33 (by kernel_rfl)
            simp at k33
            have k34 := rest_at hrs 34 (by kernel_rfl)
            simp at k34
            have k35 := rest_at hrs 35 (by kernel_rfl)
            simp at k35
            have k36 := rest_at hrs 36 (by kernel_rfl)
            simp at k36
            have k62 := rest_at hrs 62 (by kernel_rfl)
            simp at k62
            have k63 := rest_at hrs 63 (by kernel_rfl)
            simp at k63
            have k64 := rest_at hrs 64 (by kernel_rfl)
            simp at k64
            have k65 := rest_at hrs 65 (by kernel_rfl)
            simp at k65
            have k66 := rest_at hrs 66 (by kernel_rfl)
            simp at k66
            have k67 := rest_at hrs 67 (by kernel_rfl)
            simp at k67
            have k68 := rest_at hrs 68 (by kernel_rfl)
            simp at k68
            have k69 := rest_at hrs 69 (by kernel_rfl)
            simp at k69
            have k70 := rest_at hrs 70 (by kernel_rfl)
            simp at k70
            have k71 := rest_at hrs 71 (by kernel_rfl)
            simp at k71
            have k72 := rest_at hrs 72 (by kernel_rfl)
            simp at k72
            have k73 := rest_at hrs 73 (by kernel_rfl)
            simp at k73
            have k74 := rest_at hrs 74 (by kernel_rfl)
            simp at k74
            have k75 := rest_at hrs 75 (by kernel_rfl)
            simp at k75
            have k76 := rest_at hrs 76 (by kernel_rfl)
            simp at k76
            have k77 := rest_at hrs 77 (by kernel_rfl)
            simp at k77
            have k78 := rest_at hrs 78 (by kernel_rfl)
            simp at k78
            have k79 := rest_at hrs 79 (by kernel_rfl)
            simp at k79
            have k80 := rest_at hrs 80 (by kernel_rfl)
            simp at k80
            have k81 := rest_at hrs 81 (by kernel_rfl)
            simp at k81
            have k82 := rest_at hrs 82 (by kernel_rfl)
            simp at k82
            have k83 := rest_at hrs 83 (by kernel_rfl)
            simp at k83
            have k84 := rest_at hrs 84 (by kernel_rfl)
            simp at k84
            have k85 := rest_at hrs 85 (by kernel_rfl)
            simp at k85
            have k86 := rest_at hrs 86 (by kernel_rfl)
            simp at k86
            have k87 := rest_at hrs 87 (by kernel_rfl)
            simp at k87
            have k88 := rest_at hrs 88 (by kernel_rfl)
            simp at k88
            have k89 := rest_at hrs 89 (by kernel_rfl)
            simp at k89
            have k90 := rest_at hrs 90 (by kernel_rfl)
            simp at k90
            have k91 := rest_at hrs 91 (by kernel_rfl)
            simp at k91
            have k92 := rest_at hrs 92 (by kernel_rfl)
            simp at k92
            have k93 := rest_at hrs 93 (by kernel_rfl)
            simp at k93
            clear hdn hrs hJ
            rw [act_lit hsz hdf]
            try simp [List.range, List.range.loop] at k0 k1 k2 k3 k4 k5 k6 k7 k8 k9 k10 k11 k12 k13 k14 k15 k16 k17 k18 k19 k20 k21 k22 k23 k24 k25 k26 k27 k28 k29 k30 k31 k32 k33 k34 k35 k36 k62 k63 k64 k65 k66 k67 k68 k69 k70 k71 k72 k73 k74 k75 k76 k77 k78 k79 k80 k81 k82 k83 k84 k85 k86 k87 k88 k89 k90 k91 k92 k93
            simp [List.range, List.range.loop, k0, k1, k2, k3, k4, k5, k6, k7, k8, k9, k10, k11, k12, k13, k14, k15, k16, k17, k18, k19, k20, k21, k22, k23, k24, k25, k26, k27, k28, k29, k30, k31, k32, k33, k34, k35, k36, k62, k63, k64, k65, k66, k67, k68, k69, k70, k71, k72, k73, k74, k75, k76, k77, k78, k79, k80, k81, k82, k83, k84, k85, k86, k87, k88, k89, k90, k91, k92, k93]
            clear k0 k1 k2 k3 k4 k5 k6 k7 k8 k9 k10 k11 k12 k13 k14 k15 k16 k17 k18 k19 k20 k21 k22 k23 k24 k25 k26 k27 k28 k29 k30 k31 k32 k33 k34 k35 k36 k62 k63 k64 k65 k66 k67 k68 k69 k70 k71 k72 k73 k74 k75 k76 k77 k78 k79 k80 k81 k82 k83 k84 k85 k86 k87 k88 k89 k90 k91 k92 k93 hsz hdf
            unfold tau at hrow9 hbox9
            generalize A.tmps.getD 60 undef = v9 at hrow9 hbox9
            generalize A.tmps[37]?.getD undef = A37 at *
            generalize A.tmps[38]?.getD undef = A38 at *
            generalize A.tmps[39]?.getD undef = A39 at *
            generalize A.tmps[40]?.getD undef = A40 at *
            generalize A.tmps[41]?.getD undef = A41 at *
            generalize A.tmps[42]?.getD undef = A42 at *
            generalize A.tmps[43]?.getD undef = A43 at *
            generalize A.tmps[44]?.getD undef = A44 at *
            generalize A.tmps[45]?.getD undef = A45 at *
            generalize A.tmps[46]?.getD undef = A46 at *
            generalize A.tmps[47]?.getD undef = A47 at *
            generalize A.tmps[48]?.getD undef = A48 at *
            generalize A.tmps[49]?.getD undef = A49 at *
            generalize A.tmps[50]?.getD undef = A50 at *
            generalize A.tmps[51]?.getD undef = A51 at *
            generalize A.tmps[52]?.getD undef = A52 at *
            generalize A.tmps[53]?.getD undef = A53 at *
            generalize A.tmps[54]?.getD undef = A54 at *
            generalize A.tmps[55]?.getD undef = A55 at *
            generalize A.tmps[56]?.getD undef = A56 at *
            generalize A.tmps[57]?.getD undef = A57 at *
            generalize A.tmps[58]?.getD undef = A58 at *
            generalize A.tmps[59]?.getD undef = A59 at *
            generalize A.tmps[60]?.getD undef = A60 at *
            generalize A.tmps[61]?.getD undef = A61 at *
            have hrm := HRM.out
            have HNEW := hide (HO.out.push hbox9 hrow9 rfl HONE.out hrm)
            have HE9 := hide (ea.ext)
            have HS9 := hide (Nat.le_trans HSR.out (show wr.heap.size ≤ ea.w.heap.size from hsz9))
            go_wp2_with fail
            go_roundw
            case rel => exact ⟨k + 1, by omega, by go_num, HE9.out, HS9.out, v9, _, by rw [HST.out]; exact HNEW.out⟩
            case measure => simp [intOf]; omega
          · rw [yes_no.2 hin] at KA HST
            rw [if_neg (by decide), List.append_nil] at HST
            clear hin
            go_wp2_with fail
            go_at_call 14
            refine KA.out.mono ?_
            rintro _ wr ⟨rfl, rfl⟩
            go_wp2_with fail
            go_roundw
            case rel => exact ⟨k + 1, by omega, by go_num, HXR.out, HSR.out, vr, news, by rw [HST.out]; exact HO.out⟩
            case measure => simp [intOf]; omega
        · have hkl : k = f.length := by omega
          subst hkl
          rw [List.take_length] at HO
          obtain ⟨g, hge⟩ : ∃ g, onlyM f L = g := ⟨_, rfl⟩
          have hsub : List.Sublist g f := by rw [← hge]; exact List.filter_sublist
          rw [hge] at HO LAW
          have hgs := Nat.le_trans (msize_sub sizeM hsub) hsz
          have hgv : ∀ m, m ∈ g → VM m := fun m hm => HVX.out m (hsub.subset hm)
          have HXW := hide (Q02.out.trans HXR.out)
          have HSG := hide (HO.out.sl HXW.out hB)
          obtain ⟨lw1, lw2, lw3, lw4⟩ := LAW.out
          have GO := hide (orderN_any wr.heap.size g wr _ (HTab.out.ext HXW.out) HSG.out (Nat.le_refl _) hgs hgv)
          have GB := hide (fun (w' : World) (hx : Ext wr w') => below_any wr.heap.size g top w' _ (HTab.out.ext (HXW.out.trans hx)) (HSG.out.extRM hx (Nat.le_refl _)) hx.size hgs hgv)
          rw [lw1] at GO
          have y8 := HO.out.box.get1
          have HLW := hide (And.intro lw2 lw4)
          have HLC := hide (show (if checkN g = 0 then if (findM g top).isSome = true then (0 : Int) else 71 else checkN g) = 0 from by rw [if_pos lw1, if_pos lw3])
          obtain ⟨wq, hwq⟩ : ∃ wq, wq = wr := ⟨_, rfl⟩
          subst hwq
          clear hgs hgv hsub lw1 lw2 lw3 lw4 LAW HSG hge
          obtain ⟨av, cv, hvr⟩ := row_form HO.out.row
          subst hvr
          go_wp2_with fail
          go_at_call 11
          refine GO.out.mono ?_
          rintro _ w4 ⟨v4, rfl, hx4, ho4, -⟩
          have hss4 := SStr.of_row (ho4 trivial)
          obtain ⟨a4, c4, rfl⟩ := row_form (ho4 trivial)
          have HS4 := hide hss4
          have HX4 := hide hx4
          have y8' := hx4.at_ y8
          have GB := hide (GB.out w4 hx4)
          clear ho4 hss4 hx4 y8 GO y2
          go_wp2_with fail
          go_at_call 16
          refine GB.out.mono ?_
          rintro _ w5 ⟨v5, c5, rfl, hx5, hc5, ho5, -⟩
          rw [HLC.out] at hc5
          subst hc5
          have hss5 := SStr.of_row (ho5 rfl)
          obtain ⟨a5, c5, rfl⟩ := row_form (ho5 rfl)
          have hx45 := HX4.out.trans hx5
          have HL5 := hide (HSL.out.ext (HXR.out.trans hx45))
          have hl1 : (orderF g).length ≤ 1000000000 := by rw [HLW.out.1]; omega
          have hl2 : (belowN g top).length ≤ 1000000000 := by rw [HLW.out.2]; omega
          have KT1 := hide (show ECalls Tryd.prog 24 #[.slice la L.length lc, .slice a4 (orderF g).length c4] w5 (.bool true) from fun w' hw => (refTexts_any L (orderF g) w' _ _ (HL5.out.ext hw) ((HS4.out.ext hx5).ext hw) (by omega) hl1).mono fun _ _ ⟨h1, h2⟩ => ⟨by rw [h1, yes_iff.2 HLW.out.1.symm], h2⟩)
          have KT2 := hide (show ECalls Tryd.prog 24 #[.slice la L.length lc, .slice a5 (belowN g top).length c5] w5 (.bool true) from fun w' hw => (refTexts_any L (belowN g top) w' _ _ (HL5.out.ext hw) (hss5.ext hw) (by omega) hl2).mono fun _ _ ⟨h1, h2⟩ => ⟨by rw [h1, yes_iff.2 HLW.out.2.symm], h2⟩)
          have HXZ := hide (HXW.out.trans hx45)
          clear ho5 hss5 hx5 hx45 GB y8' HL5 HS4
          generalize (orderF g).length = n4 at *
          generalize (belowN g top).length = n5 at *
          go_wp2_with fail
          go_at_call 24
          refine (KT1.out w5 (Ext.refl _)).mono ?_
          rintro _ w6 ⟨rfl, hx6⟩
          have HX6 := hide hx6
          clear hx6
          go_wp2_with fail
          go_at_call 24
          refine (KT2.out w6 HX6.out).mono ?_
          rintro _ w7 ⟨rfl, hx7⟩
          have HX7 := hide (HXZ.out.trans (HX6.out.trans hx7))
          clear hx7
          go_wp2_with fail
          go_ret
          exact ⟨rfl, HX7.out⟩
    · have hne : (c != 0) = true := by simpa using h0
      have HX := hide Q02.out
      clear hok hno hc h0 hx2 hx12
      go_wp2_with fail
      go_ret
      exact ⟨rfl, HX.out⟩

end Go.Proofs.YtjoglnjpgkobeaaDoor
