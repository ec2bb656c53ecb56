/-
  THE LAW NamesTwice: WHAT IT COMPUTES.
-/
import Derived.Test.YtjoglnjpgkobeaaDoorNLawWPk
namespace Go.Proofs.YtjoglnjpgkobeaaDoor
open Go Go.RowKit
set_option linter.all false
set_option linter.unusedVariables false
set_option linter.unusedSimpArgs false
set_option linter.unusedVariables false
set_option linter.unusedSimpArgs false
attribute [local go_sem] run_store_one

theorem TwJ.no15 {R : Mdl → List Value → Prop} {N0 : Nat} {f : List Mdl} {nm : ByteArray} {L : Nat → Bool} {τ : Tmp → Value} {w : World} (h : TwJ R N0 f nm L τ w) (h14 : L 14 = false) : L 15 = false := by
  cases e : L 15 with
  | false => rfl
  | true => rw [(h.o15 e).1] at h14; cases h14

theorem one_cW (s : ByteArray) (gx : Nat) : ∀ u ∈ cW s gx, u.oneCell' = true := by
  intro u hu
  simp only [cW, List.mem_cons, List.not_mem_nil, or_false] at hu
  rcases hu with rfl | rfl | rfl | rfl | rfl | rfl | rfl | rfl | rfl <;> rfl
def tzF (f : List Mdl) (k : Nat) (vf vt : Value) (n : Nat) (p : Addr) (s : ByteArray) (i : Nat) (v : Value) (w : World) : Prop := match i with
  | 0 | 1 | 12 | 13 | 14 => v = .bool true
  | 2 => v = .agg #[vf]
  | 3 => v = .int .i64 k
  | 4 => v = vt
  | 5 => v = .int .i64 n
  | 6 => v = .pointer (some p)
  | 7 => v = .string s
  | 8 => ∃ gx, v = .agg (cW s gx).toArray ∧ Blk w gx 57 cX
  | 9 => ∃ g gx, v = .slice (some ⟨g, 0, none⟩) 1 1 ∧ Blk w g 51 (cW s gx) ∧ Blk w gx 57 cX
  | 10 => ∃ v', v = .agg #[v'] ∧ Sl (RM w w.heap.size) w w.heap.size 4 (putM f k [iW s]) v'
  | 11 => v = .int .i64 70
  | _ => True
theorem tzF_ext {f : List Mdl} {k : Nat} {vf vt : Value} {n : Nat} {p : Addr} {s : ByteArray} {i : Nat} {v : Value} {w w' : World} (h : tzF f k vf vt n p s i v w) (hx : Ext w w') : tzF f k vf vt n p s i v w' := by
  unfold tzF at *
  split at h
  all_goals first
    | exact h
    | (obtain ⟨gx, h1, h2⟩ := h; exact ⟨gx, h1, h2.ext hx⟩)
    | (obtain ⟨g, gx, h1, h2, h3⟩ := h; exact ⟨g, gx, h1, h2.ext hx, h3.ext hx⟩)
    | (obtain ⟨v', h1, h2⟩ := h; exact ⟨v', h1, (h2.extRM hx (Nat.le_refl _)).moreRM hx.size⟩)

set_option maxRecDepth 20000 in
set_option maxHeartbeats 16000000 in
theorem lawNTwice_any (B : Nat) (f : List Mdl) (kk n : Int) (w : World) (vf : Value) (hT : Tabs w) (hB : B ≤ w.heap.size) (hS : Sl (RM w B) w B 4 f vf) (hsz : msize sizeM f ≤ 2000000) (hvx : ∀ m, m ∈ f → VM m) :
    Calls Tryd.prog 5 #[.agg #[vf], .int .i64 kk, .int .i64 n] w fun e w' => e = .returned (.bool true) ∧ Ext w w' := by
  have HS := hide hS
  have HT := hide hT
  have HVX := hide hvx
  have hln := length_le_msize sizeM f sizeM_pos
  obtain ⟨a, cap, xf, rfl, hfl, hff⟩ := hS.fl
  have hrow := (show ∃ c, Sl (RM w B) w B 4 f (.slice a f.length c) from ⟨_, hS⟩)
  obtain ⟨W1, hW1, hx1, hb1⟩ := box1 w (.slice a f.length cap) 24
  have hV1 := hW1.symm
  have BX := hide hb1
  have X1 := hide hx1
  have HFL := hide hfl
  have HFF0 := hide hff
  clear hT hvx hW1 hx1 hb1 hfl hff hrow hS
  go_enter Tryd.func5, Tryd.ntmps5
  go_wp2_with fail
  go_at_call 9
  refine (live7_any W1 (HT.out.ext X1.out)).mono ?_
  rintro _ w2 ⟨rfl, hx2⟩
  have X2 := hide (X1.out.trans hx2)
  have c2 := (BX.out.ext hx2).get1
  have BX := hide (BX.out.ext hx2)
  clear hx2 hV1
  go_wp2_with fail
  go_at_call 10
  refine (few7_any B f w2 _ (HS.out.extRM X2.out hB) (Nat.le_trans hB X2.out.size) (by omega)).mono ?_
  rintro _ w3 ⟨rfl, hx3⟩
  have X3 := hide (X2.out.trans hx3)
  have c3 := (BX.out.ext hx3).get1
  have BX := hide (BX.out.ext hx3)
  clear hx3 c2
  cases hb1 : yes (fewP (msize sizeM f) (mdeep deepM f)) with
  | false =>
    go_wp2_with fail
    go_ret
    exact ⟨rfl, X3.out⟩
  | true =>
    have hfew := (yes_iff.1 hb1).1
    clear hb1
    go_wp2_with fail
    go_at_call 12
    refine (checkN_any B f w3 _ (HT.out.ext X3.out) (HS.out.extRM X3.out hB) (Nat.le_trans hB X3.out.size) (by omega) HVX.out).mono ?_
    rintro _ wr ⟨rfl, hx4⟩
    have X4 := hide (X3.out.trans hx4)
    have c4 := (BX.out.ext hx4).get1
    have BX := hide (BX.out.ext hx4)
    obtain ⟨cc, hcc⟩ : ∃ cc, checkN f = cc := ⟨_, rfl⟩
    have HCC := hide hcc
    rw [hcc]
    clear hx4 c3 hcc
    by_cases h0 : cc = 0
    · subst h0
      by_cases hk0 : kk < 0
      · go_wp2_with fail
        go_ret
        exact ⟨rfl, X4.out⟩
      by_cases hk1 : (f.length : Int) ≤ kk
      · go_wp2_with fail
        go_ret
        exact ⟨rfl, X4.out⟩
      by_cases h64 : (64 : Int) ≤ (f.length : Int)
      · go_wp2_with fail
        go_ret
        exact ⟨rfl, X4.out⟩
      obtain ⟨k, rfl⟩ : ∃ k : Nat, kk = k := ⟨kk.toNat, by omega⟩
      have hk : k < f.length := by omega
      have hl64 : f.length < 64 := by omega
      obtain ⟨-, hhh⟩ := check_facts HCC.out
      clear hhh
      obtain ⟨b, o, rfl⟩ : ∃ b o, a = some ⟨b, o, none⟩ := by
        obtain ⟨b, o, h, -⟩ := HFL.out.2.2 (by omega)
        exact ⟨b, o, h⟩
      obtain ⟨nm, hnm⟩ : ∃ nm, f[k].name = nm := ⟨_, rfl⟩
      have TW := hide (show checkN (f ++ [mSolo nm []]) = 70 from by rw [← hnm]; exact twice_module HCC.out hfew hl64 (List.getElem_mem hk))
      have hel := HS.out
      obtain ⟨a', cap', hve, -, hrow⟩ := hel
      obtain ⟨rfl, -, rfl⟩ := Value.slice.inj hve
      obtain ⟨b', o', v0, v1, v2, v3, hbe, hbB, hR, hC, o0, o1, o2, o3⟩ := hrow.open4 hk
      obtain ⟨rfl, rfl⟩ : b = b' ∧ o = o' := by simpa using hbe
      have HRM := hide hR
      have HCC4 := hide (hC.ext X4.out)
      obtain ⟨v1', v2', v3', hcs, -, -, -⟩ := hR
      simp only [List.cons.injEq, and_true] at hcs
      obtain ⟨rfl, rfl, rfl, rfl⟩ := hcs
      rw [hnm] at HRM HCC4
      have HFLW := HFL
      have HFL := hide (HFL.out.ext X4.out)
      have HFF := hide (show Fl (RTw w B nm) 4 f xf from HFF0.out.imp fun m cs h => .inl h)
      obtain ⟨d0, d1, d2, d3⟩ := HCC4.out.later4
      have e4 := BX.out.later1
      clear hve hbe hrow hC
      go_wp2_with fail
      refine wp_region_facts_j (W := wr) (twF wr.heap.size w.heap.size (.slice (some ⟨b, o, none⟩) f.length cap) k f.length ⟨b, o + k * 4, none⟩ nm) (TwJ (RTw w B nm) wr.heap.size f nm) (by kernel_rfl) (by kernel_rfl) ?_ (Ext.refl _) ⟨fun h => (by cases h), fun h => (by cases h), fun h => (by cases h), fun h => (by cases h), fun h => (by cases h), fun h => (by cases h), fun h => (by cases h), fun h => (by cases h), Nat.le_refl _⟩ ?_ ?_
      · simp [GuardsMet, twF]
      · refine ⟨?_, ?_, ?_, ?_, ?_, ?_, ?_, ?_, ?_, ?_, ?_, ?_, ?_, ?_, ?_, ?_, trivial⟩
        · refine StepJ.plain (S := [3, 11, 12, 13, 14, 15]) (T := [42, 50, 51, 52, 8]) twJ_looks (fun i v w w' h hx => h) (by decide) (by decide) ?_
          intro A wa hxa hd h0
          obtain ⟨ea, rfl⟩ := Later.mk_ex hxa
          clear hd h0
          go_simp
          first | exact ⟨_, rfl, Ext.new _ _, _, rfl⟩ | exact ⟨Ext.new _ _, _, rfl⟩ | (trace_state; fail)
        · refine StepJ.plain (S := [3, 11, 12, 13, 14, 15]) (T := [42, 50, 51, 52, 8]) twJ_looks (fun i v w w' h hx => h) (by decide) (by decide) ?_
          intro A wa hxa hd h0
          obtain ⟨ea, rfl⟩ := Later.mk_ex hxa
          have r3 := rest_at h0 3 (by kernel_rfl)
          simp at r3
          clear hd h0
          go_simp
          first | exact ⟨_, rfl, Ext.refl _, rfl⟩ | exact ⟨Ext.refl _, rfl⟩ | exact rfl | exact ⟨_, rfl, rfl⟩
        · refine StepJ.plain (S := [3, 11, 12, 13, 14, 15]) (T := [42, 50, 51, 52, 8]) twJ_looks (fun i v w w' h hx => h) (by decide) (by decide) ?_
          intro A wa hxa hd h0
          obtain ⟨ea, rfl⟩ := Later.mk_ex hxa
          have q1 := depOn hd 1 40 (by kernel_rfl) rfl
          simp [twF] at q1
          clear hd h0
          go_simp
          first | exact ⟨_, rfl, Ext.refl _, rfl⟩ | exact ⟨Ext.refl _, rfl⟩ | exact rfl | exact ⟨_, rfl, rfl⟩
        · intro L A wa hxa hli haf hsz hd h0 hJ
          obtain ⟨ea, rfl⟩ := Later.mk_ex hxa
          obtain ⟨g0, q0⟩ := depOn hd 0 39 (by kernel_rfl) rfl
          have z0 := q0
          simp at q0
          have q2 := depOn hd 2 41 (by kernel_rfl) rfl
          simp [twF] at q2
          refine oper_append_empty (R := RTw w B nm) _ _ 22 rfl 36 _ 4 88 infoM Tryd.underlying22 rfl (by decide) (by decide) ⟨g0, 0, none⟩ f (some ⟨b, o, none⟩) cap xf ?_ ?_ (HFL.out.ext ea.ext) HFF.out (by omega) (by omega) ?_
          · simp [Act.eval, q0]
          · simp [Act.eval, q2]
          intro v8 w8 hown8 hx8
          have HJ := twJ_3 (by rw [hsz]; show (42 : Nat) < 86; decide) hli hJ hown8 hx8
          obtain ⟨a8, c8, rfl⟩ := hown8.form
          exact ⟨_, rfl, ea.ext.trans hx8, fun j u h => h, ⟨_, _, rfl⟩, HJ⟩
        · refine StepJ.plain (S := [3, 11, 12, 13, 14, 15]) (T := [42, 50, 51, 52, 8]) twJ_looks (fun i v w w' h hx => h) (by decide) (by decide) ?_
          intro A wa hxa hd h0
          obtain ⟨ea, rfl⟩ := Later.mk_ex hxa
          have r3 := rest_at h0 3 (by kernel_rfl)
          simp at r3
          clear hd h0
          go_simp
          first | exact ⟨_, rfl, Ext.refl _, rfl⟩ | exact ⟨Ext.refl _, rfl⟩ | exact rfl | exact ⟨_, rfl, rfl⟩
        · refine StepJ.plain (S := [3, 11, 12, 13, 14, 15]) (T := [42, 50, 51, 52, 8]) twJ_looks (fun i v w w' h hx => h) (by decide) (by decide) ?_
          intro A wa hxa hd h0
          obtain ⟨ea, rfl⟩ := Later.mk_ex hxa
          have q4 := depOn hd 4 43 (by kernel_rfl) rfl
          simp [twF] at q4
          clear hd h0
          go_simp
          first | exact ⟨_, rfl, Ext.refl _, rfl⟩ | exact ⟨Ext.refl _, rfl⟩ | exact rfl | exact ⟨_, rfl, rfl⟩
        · refine StepJ.plain (S := [3, 11, 12, 13, 14, 15]) (T := [42, 50, 51, 52, 8]) twJ_looks (fun i v w w' h hx => h) (by decide) (by decide) ?_
          intro A wa hxa hd h0
          obtain ⟨ea, rfl⟩ := Later.mk_ex hxa
          have r1 := rest_at h0 1 (by kernel_rfl)
          simp at r1
          clear hd h0
          go_simp
          first | exact ⟨_, rfl, Ext.refl _, rfl⟩ | exact ⟨Ext.refl _, rfl⟩ | exact rfl | exact ⟨_, rfl, rfl⟩
        · refine StepJ.plain (S := [3, 11, 12, 13, 14, 15]) (T := [42, 50, 51, 52, 8]) twJ_looks (fun i v w w' h hx => h) (by decide) (by decide) ?_
          intro A wa hxa hd h0
          obtain ⟨ea, rfl⟩ := Later.mk_ex hxa
          have q5 := depOn hd 5 44 (by kernel_rfl) rfl
          simp [twF] at q5
          have q6 := depOn hd 6 45 (by kernel_rfl) rfl
          simp [twF] at q6
          clear hd h0
          go_simp
          first | exact ⟨_, rfl, Ext.refl _, rfl⟩ | exact ⟨Ext.refl _, rfl⟩ | exact rfl | exact ⟨_, rfl, rfl⟩
        · refine StepJ.plain (S := [3, 11, 12, 13, 14, 15]) (T := [42, 50, 51, 52, 8]) twJ_looks (fun i v w w' h hx => h) (by decide) (by decide) ?_
          intro A wa hxa hd h0
          obtain ⟨ea, rfl⟩ := Later.mk_ex hxa
          have q7 := depOn hd 7 46 (by kernel_rfl) rfl
          simp [twF] at q7
          clear hd h0
          go_simp
          first | exact ⟨_, rfl, Ext.refl _, rfl⟩ | exact ⟨Ext.refl _, rfl⟩ | exact rfl | exact ⟨_, rfl, rfl⟩
        · refine StepJ.plain (S := [3, 11, 12, 13, 14, 15]) (T := [42, 50, 51, 52, 8]) twJ_looks (fun i v w w' h hx => h) (by decide) (by decide) ?_
          intro A wa hxa hd h0
          obtain ⟨ea, rfl⟩ := Later.mk_ex hxa
          have q8 := depOn hd 8 47 (by kernel_rfl) rfl
          simp [twF] at q8
          clear hd h0
          go_simp
          first | exact ⟨_, rfl, Ext.refl _, rfl⟩ | exact ⟨Ext.refl _, rfl⟩ | exact rfl | exact ⟨_, rfl, rfl⟩
        · refine StepJ.plain (S := [3, 11, 12, 13, 14, 15]) (T := [42, 50, 51, 52, 8]) twJ_looks (fun i v w w' h hx => h) (by decide) (by decide) ?_
          intro A wa hxa hd h0
          obtain ⟨ea, rfl⟩ := Later.mk_ex hxa
          have q9 := depOn hd 9 48 (by kernel_rfl) rfl
          simp [twF] at q9
          clear hd h0
          go_simp
          refine (module7_any nm none 0 0 ea.w).mono ?_
          rintro _ w2 ⟨rfl, hx⟩
          go_simp
          first | exact ⟨_, rfl, hx, rfl⟩ | exact ⟨hx, rfl⟩ | exact ⟨_, rfl, rfl⟩ | (trace_state; fail)
        · intro L A wa hxa hli haf hsz hd h0 hJ
          obtain ⟨ea, rfl⟩ := Later.mk_ex hxa
          have q10 := depOn hd 10 49 (by kernel_rfl) rfl
          simp [twF] at q10
          obtain ⟨W7, hW7, hx7, hb7⟩ := box4 ea.w (.string nm) (.slice none 0 0) (.slice none 0 0) (.slice none 0 0) 36
          have hV7 := hW7.symm
          have HJ := hide (twJ_11 (by rw [hsz]; show (50 : Nat) < 86; decide) hli hJ hb7 hx7)
          have HX := hide (ea.ext.trans hx7)
          clear hW7 hx7 hb7 hd h0 hJ haf hli hsz
          go_simp
          first | exact ⟨_, rfl, HX.out, fun j u h => h, ⟨_, rfl⟩, HJ.out⟩ | exact ⟨_, rfl, HX.out, ⟨_, rfl⟩, HJ.out⟩ | (trace_state; fail)
        · intro L A wa hxa hli haf hsz hd h0 hJ
          obtain ⟨ea, rfl⟩ := Later.mk_ex hxa
          obtain ⟨a3, c3, q3⟩ := depOn hd 3 42 (by kernel_rfl) rfl
          have z3 := q3
          simp at q3
          obtain ⟨g11, q11⟩ := depOn hd 11 50 (by kernel_rfl) rfl
          have z11 := q11
          simp at q11
          have h3 := haf_on haf 3 (by kernel_rfl)
          have h11 := haf_on haf 11 (by kernel_rfl)
          obtain ⟨g, hg, hbk⟩ := hJ.new h11 hli
          have hrow := hJ.row3 h3 hli
          have hz3 : tau A 42 = .slice a3 f.length c3 := z3
          have hz11 : tau A 50 = .slice (some ⟨g11, 0, none⟩) 1 1 := z11
          rw [hg] at hz11
          obtain rfl : g = g11 := by cases hz11; rfl
          have hfl : Flat ea.w 4 (some ⟨g, 0, none⟩) 1 (cTw nm) := ⟨rfl, one_Tw nm, fun _ => ⟨g, 0, rfl, hbk.cells⟩⟩
          rw [hz3] at hrow
          refine oper_append_own2 (R := RTw w B nm) _ _ 22 rfl wr.heap.size 36 _ 4 88 infoM Tryd.underlying22 rfl (by decide) (by decide) f [mSolo nm []] (.slice a3 f.length c3) ?_ hrow (some ⟨g, 0, none⟩) 1 (cTw nm) ?_ hfl (Fl.one_ rfl (one_Tw nm) (.inr ⟨rfl, rfl⟩)) (by omega) (by simp) ea.ext.size ?_
          · simp [Act.eval, q3]
          · simp [Act.eval, q11]
          intro v8 w8 hown8 hg8 hlt8 hf8
          have HJ := twJ_12 (by rw [hsz]; show (51 : Nat) < 86; decide) hli h3 h11 hJ hown8 (by rw [hz3]; exact hg8) (by rw [hz3]; exact hf8)
          obtain ⟨a8, c8, rfl⟩ := hown8.form
          refine ⟨_, rfl, ea.ext.grown hg8 (fun r hr => (hlt8 r hr).1), fun j u h => h, ⟨a8, c8, by simp⟩, HJ⟩
        · intro L A wa hxa hli haf hsz hd h0 hJ
          obtain ⟨ea, rfl⟩ := Later.mk_ex hxa
          obtain ⟨a12, c12, q12⟩ := depOn hd 12 51 (by kernel_rfl) rfl
          have z12 := q12
          simp at q12
          have h12 := haf_on haf 12 (by kernel_rfl)
          have hz12 : tau A 51 = .slice a12 (f.length + 1) c12 := z12
          have HJ := hide (twJ_13 (v := .agg #[.slice a12 (f.length + 1) c12]) (by rw [hsz]; show (52 : Nat) < 86; decide) h12 (by rw [hz12]) hJ)
          have HX := hide ea.ext
          clear hd h0 hJ haf hli hsz hz12 z12
          go_simp
          first | exact ⟨_, rfl, HX.out, fun j u h => h, ⟨_, _, rfl⟩, HJ.out⟩ | exact ⟨_, rfl, HX.out, ⟨_, _, rfl⟩, HJ.out⟩ | exact ⟨_, rfl, ⟨_, _, rfl⟩, HJ.out⟩ | (trace_state; fail)
        · intro L A wa hxa hli haf hsz hd h0 hJ
          obtain ⟨ea, rfl⟩ := Later.mk_ex hxa
          obtain ⟨W7, hW7, hx7, hb7⟩ := box1 ea.w (.slice none 0 0) 24
          have hV7 := hW7.symm
          have HJ := hide (twJ_14 (by rw [hsz]; show (8 : Nat) < 86; decide) (hJ.no15 hli) ea.ext.size (Nat.le_refl _) hJ hb7 hx7)
          have HX := hide (ea.ext.trans hx7)
          clear hW7 hx7 hb7 hd h0 hJ haf hli hsz
          go_simp
          first | exact ⟨_, rfl, HX.out, fun j u h => h, ⟨_, rfl⟩, HJ.out⟩ | exact ⟨_, rfl, HX.out, ⟨_, rfl⟩, HJ.out⟩ | (trace_state; fail)
        · intro L A wa hxa hli haf hsz hd h0 hJ
          obtain ⟨ea, rfl⟩ := Later.mk_ex hxa
          obtain ⟨a13, c13, q13⟩ := depOn hd 13 52 (by kernel_rfl) rfl
          have z13 := q13
          simp at q13
          obtain ⟨g14, q14⟩ := depOn hd 14 8 (by kernel_rfl) rfl
          have z14 := q14
          simp at q14
          have h13 := haf_on haf 13 (by kernel_rfl)
          have h14 := haf_on haf 14 (by kernel_rfl)
          have hz13 : tau A 52 = .agg #[.slice a13 (f.length + 1) c13] := z13
          have hz14 : tau A 8 = .pointer (some ⟨g14, 0, none⟩) := z14
          have h51 : tau A 51 = .slice a13 (f.length + 1) c13 := by have hq := Value.agg.inj (hz13.symm.trans (hJ.fil h13)); simpa using hq.symm
          obtain ⟨g, u, hg, hge, hbk, -⟩ := hJ.box h14
          rw [hz14] at hg
          obtain rfl : g14 = g := by cases hg; rfl
          have y0 := hbk.get1
          have y1 := hbk.free1
          have HJ := hide (twJ_15 (hJ.o13 h13) h13 h14 h51 hz14 hJ)
          have HX := hide (ea.ext.setCell (p := ⟨g14, 0, none⟩) hge (.slice a13 (f.length + 1) c13))
          clear hd h0 hJ haf hli hsz hz13 hz14 z13 z14 h51 hg hge hbk
          go_simp
          first | exact ⟨HX.out, fun j u h => h, ⟨undef, trivial⟩, HJ.out⟩ | exact ⟨_, rfl, HX.out, fun j u h => h, trivial, HJ.out⟩ | exact ⟨HX.out, ⟨undef, trivial⟩, HJ.out⟩ | (trace_state; fail)
      intro A wa hk hJ
      obtain ⟨hxa, hsz, hdf, hdn, hrs⟩ := hk
      obtain ⟨ea, rfl⟩ := Later.mk_ex hxa
      obtain ⟨g8, u8, k8, hge8, hbk8, -, -, hu8⟩ := hJ.box rfl
      have hrow8 := hJ.row12 rfl
      rw [← hu8 rfl] at hrow8
      clear hu8
      unfold tau at k8
      simp at k8
      have k0 := rest_at hrs 0 (by kernel_rfl)
      simp at k0
      have k1 := rest_at hrs 1 (by kernel_rfl)
      simp at k1
      have k2 := rest_at hrs 2 (by kernel_rfl)
      simp at k2
      have k3 := rest_at hrs 3 (by kernel_rfl)
      simp at k3
      have k4 := rest_at hrs 4 (by kernel_rfl)
      simp at k4
      have k5 := rest_at hrs 5 (by kernel_rfl)
      simp at k5
      have k6 := rest_at hrs 6 (by kernel_rfl)
      simp at k6
      have k7 := rest_at hrs 7 (by kernel_rfl)
      simp at k7
      have k9 := rest_at hrs 9 (by kernel_rfl)
      simp at k9
      clear hdn hrs hJ
      rw [act_lit hsz hdf]
      simp [List.range, List.range.loop, k8, k0, k1, k2, k3, k4, k5, k6, k7, k9]
      clear k8 k0 k1 k2 k3 k4 k5 k6 k7 k9 hsz hdf
      generalize A.tmps[10]?.getD undef = A10 at *
      generalize A.tmps[11]?.getD undef = A11 at *
      generalize A.tmps[12]?.getD undef = A12 at *
      generalize A.tmps[13]?.getD undef = A13 at *
      generalize A.tmps[14]?.getD undef = A14 at *
      generalize A.tmps[15]?.getD undef = A15 at *
      generalize A.tmps[16]?.getD undef = A16 at *
      generalize A.tmps[17]?.getD undef = A17 at *
      generalize A.tmps[18]?.getD undef = A18 at *
      generalize A.tmps[19]?.getD undef = A19 at *
      generalize A.tmps[20]?.getD undef = A20 at *
      generalize A.tmps[21]?.getD undef = A21 at *
      generalize A.tmps[22]?.getD undef = A22 at *
      generalize A.tmps[23]?.getD undef = A23 at *
      generalize A.tmps[24]?.getD undef = A24 at *
      generalize A.tmps[25]?.getD undef = A25 at *
      generalize A.tmps[26]?.getD undef = A26 at *
      generalize A.tmps[27]?.getD undef = A27 at *
      generalize A.tmps[28]?.getD undef = A28 at *
      generalize A.tmps[29]?.getD undef = A29 at *
      generalize A.tmps[30]?.getD undef = A30 at *
      generalize A.tmps[31]?.getD undef = A31 at *
      generalize A.tmps[32]?.getD undef = A32 at *
      generalize A.tmps[33]?.getD undef = A33 at *
      generalize A.tmps[34]?.getD undef = A34 at *
      generalize A.tmps[35]?.getD undef = A35 at *
      generalize A.tmps[36]?.getD undef = A36 at *
      generalize A.tmps[37]?.getD undef = A37 at *
      generalize A.tmps[38]?.getD undef = A38 at *
      generalize A.tmps[39]?.getD undef = A39 at *
      generalize A.tmps[40]?.getD undef = A40 at *
      generalize A.tmps[41]?.getD undef = A41 at *
      generalize A.tmps[42]?.getD undef = A42 at *
      generalize A.tmps[43]?.getD undef = A43 at *
      generalize A.tmps[44]?.getD undef = A44 at *
      generalize A.tmps[45]?.getD undef = A45 at *
      generalize A.tmps[46]?.getD undef = A46 at *
      generalize A.tmps[47]?.getD undef = A47 at *
      generalize A.tmps[48]?.getD undef = A48 at *
      generalize A.tmps[49]?.getD undef = A49 at *
      generalize A.tmps[50]?.getD undef = A50 at *
      generalize A.tmps[51]?.getD undef = A51 at *
      generalize A.tmps[52]?.getD undef = A52 at *
      generalize A.tmps[53]?.getD undef = A53 at *
      generalize A.tmps[54]?.getD undef = A54 at *
      generalize A.tmps[55]?.getD undef = A55 at *
      generalize A.tmps[56]?.getD undef = A56 at *
      generalize A.tmps[57]?.getD undef = A57 at *
      generalize A.tmps[58]?.getD undef = A58 at *
      generalize A.tmps[59]?.getD undef = A59 at *
      generalize A.tmps[60]?.getD undef = A60 at *
      generalize A.tmps[61]?.getD undef = A61 at *
      generalize A.tmps[62]?.getD undef = A62 at *
      generalize A.tmps[63]?.getD undef = A63 at *
      generalize A.tmps[64]?.getD undef = A64 at *
      generalize A.tmps[65]?.getD undef = A65 at *
      generalize A.tmps[66]?.getD undef = A66 at *
      generalize A.tmps[67]?.getD undef = A67 at *
      generalize A.tmps[68]?.getD undef = A68 at *
      generalize A.tmps[69]?.getD undef = A69 at *
      generalize A.tmps[70]?.getD undef = A70 at *
      generalize A.tmps[71]?.getD undef = A71 at *
      generalize A.tmps[72]?.getD undef = A72 at *
      generalize A.tmps[73]?.getD undef = A73 at *
      generalize A.tmps[74]?.getD undef = A74 at *
      generalize A.tmps[75]?.getD undef = A75 at *
      generalize A.tmps[76]?.getD undef = A76 at *
      generalize A.tmps[77]?.getD undef = A77 at *
      generalize A.tmps[78]?.getD undef = A78 at *
      generalize A.tmps[79]?.getD undef = A79 at *
      generalize A.tmps[80]?.getD undef = A80 at *
      generalize A.tmps[81]?.getD undef = A81 at *
      generalize A.tmps[82]?.getD undef = A82 at *
      generalize A.tmps[83]?.getD undef = A83 at *
      generalize A.tmps[84]?.getD undef = A84 at *
      generalize A.tmps[85]?.getD undef = A85 at *
      have X5 := hide (X4.out.trans ea.ext)
      have HSU := hide (show Sl (RM ea.w ea.w.heap.size) ea.w ea.w.heap.size 4 (f ++ [mSolo nm []]) u8 from (hrow8.sl (by decide)).imp fun m cs h => by
        rcases h with h | ⟨rfl, rfl⟩
        · exact (h.ext X5.out hB).more (Nat.le_trans hB X5.out.size)
        · exact ⟨_, _, _, rfl, Sl.nil, Sl.nil, Sl.nil⟩)
      have hnz : nm.size < 4294967281 := by rw [← hnm]; exact (HVX.out _ (List.getElem_mem hk)).1
      have GC := hide (checkN_any ea.w.heap.size (f ++ [mSolo nm []]) ea.w u8 (HT.out.ext X5.out) HSU.out (Nat.le_refl _) (by rw [msize_append, size_solo]; simp [msize]; omega) (fun m hm => (List.mem_append.1 hm).elim (HVX.out m) (vm_solo (l := []) hnz (fun y hy => nomatch hy) m)))
      obtain ⟨a8, n8, c8, rfl⟩ : ∃ a n c, u8 = .slice a n c := by obtain ⟨a, c, h⟩ := hrow8.form; exact ⟨a, _, c, h⟩
      have y8 := hbk8.get1
      have BX5 := hide (BX.out.ext ea.ext)
      have HC5 := hide (HCC4.out.ext ea.ext)
      rw [TW.out] at GC
      clear hrow8 hbk8 d0 d1 d2 d3 e4 HSU
      go_wp2_with fail
      go_at_call 12
      refine GC.out.mono ?_
      rintro _ w5 ⟨rfl, hx5⟩
      have X6 := hide (X5.out.trans hx5)
      have c5 := (BX5.out.ext hx5).get1
      have BX6 := hide (BX5.out.ext hx5)
      obtain ⟨d0, d1, d2, d3⟩ := (HC5.out.ext hx5).get4
      have hsk := msize_mem sizeM f f[k] (List.getElem_mem hk)
      have hme : sizeM f[k] = 1 + msize sizeB f[k].params + msize sizeP f[k].ports + msize sizeI f[k].items := rfl
      have hil := length_le_msize sizeI f[k].items sizeI_pos
      have GT := hide (rTold_any B f[k] w5 [.string f[k].name, v1, v2, v3] (by rw [hnm]; exact HRM.out.ext X6.out hB) (Nat.le_trans hB X6.out.size) (by omega))
      rw [hnm] at GT
      clear hx5 GC y8
      go_wp2_with fail
      go_at_call 18
      refine GT.out.mono ?_
      rintro _ w7 ⟨v7, rfl, hs7, hx7⟩
      have X7 := hide (X6.out.trans hx7)
      obtain ⟨ta, tc, rfl, -, hta⟩ := hs7
      have HTA := hide hta
      generalize yes (okN f[k] (ownN f[k])) = okk at *
      obtain ⟨nl, hnl⟩ : ∃ nl, (ownN f[k]).length = nl := ⟨_, rfl⟩
      have HNL := hide hnl
      rw [hnl]
      have hfd : ∀ w', (Instr.field 45 (.agg #[.slice ta nl tc, .bool okk]) 0).run Tryd.prog w' = .ok (.slice ta nl tc) w' := fun _ => by kernel_rfl
      have BX7 := hide (BX6.out.ext hx7)
      clear hx7 hta hnl c5 d0 d1 d2 d3 GT
      by_cases hn0 : n < 0
      · go_wp2_with fail
        go_ret
        exact ⟨rfl, X7.out⟩
      by_cases hn1 : (nl : Int) ≤ n
      · go_wp2_with fail
        go_ret
        exact ⟨rfl, X7.out⟩
      obtain ⟨ni, rfl⟩ : ∃ i : Nat, n = i := ⟨n.toNat, by omega⟩
      have hni : ni < (ownN f[k]).length := by rw [HNL.out]; omega
      obtain ⟨tb, to, rfl, hcl⟩ := HTA.out ni hni
      have HP70 := hide (show checkN (putM f k [iW (ownN f[k])[ni]]) = 70 from twice_name HCC.out hfew hk (List.getElem_mem hni))
      have HSZ := hide (show (ownN f[k])[ni].size < 4294967281 from by
        obtain ⟨h1, h2, -⟩ := own_may ((checkF_zero.1 (check_facts HCC.out).1).2.2.2 _ (List.getElem_mem hk)) _ (List.getElem_mem hni)
        omega)
      generalize (ownN f[k])[ni] = s at *
      have hcell := cellAt hcl
      have e5 := BX7.out.later1
      have HSW := hide (fun (e : Later w7) => show Sl (RM e.w e.w.heap.size) e.w e.w.heap.size 4 f (.slice (some ⟨b, o, none⟩) f.length cap) from (HS.out.extRM (X7.out.trans e.ext) hB).moreRM (Nat.le_trans hB (X7.out.trans e.ext).size))
      have HTB := hide (fun (e : Later w7) => HT.out.ext (X7.out.trans e.ext))
      have HPS := hide (show msize sizeM (putM f k [iW s]) ≤ 10000000 from by
        have h1 := msize_set sizeM ⟨f[k].name, f[k].params, f[k].ports, f[k].items ++ [iW s]⟩ f k hk
        have h2 : sizeM ⟨f[k].name, f[k].params, f[k].ports, f[k].items ++ [iW s]⟩ = sizeM f[k] + 2 := by
          show 1 + msize sizeB f[k].params + msize sizeP f[k].ports + msize sizeI (f[k].items ++ [iW s]) = 1 + msize sizeB f[k].params + msize sizeP f[k].ports + msize sizeI f[k].items + 2
          rw [msize_append]
          show _ + (_ + (2 + 0)) = _
          omega
        rw [putM_set hk]
        omega)
      have HPV := hide (show ∀ m, m ∈ putM f k [iW s] → VM m from fun m hm => by
        rw [putM_set hk] at hm
        rcases List.mem_or_eq_of_mem_set hm with hm | rfl
        · exact HVX.out m hm
        · obtain ⟨h1, h2, h3, h4⟩ := HVX.out _ (List.getElem_mem hk)
          refine ⟨h1, h2, h3, fun y hy => ?_⟩
          rcases List.mem_append.1 (show y ∈ f[k].items ++ [iW s] from hy) with hy | hy
          · exact h4 y hy
          · rw [List.mem_singleton.1 hy]; exact vi_iW HSZ.out)
      clear hcl hni
      go_wp2_with fail
      refine wp_region_facts_g (W := w7) (tzF f k (.slice (some ⟨b, o, none⟩) f.length cap) (.slice (some ⟨tb, to, none⟩) nl tc) ni ⟨tb, to + ni, none⟩ s) (by kernel_rfl) (by kernel_rfl) ?_ (Ext.refl _) (fun i v w w' h hx => tzF_ext h hx) ?_ ?_
      · simp [GuardsMet, tzF]
      · refine ⟨?_, ?_, ?_, ?_, ?_, ?_, ?_, ?_, ?_, ?_, ?_, ?_, ?_, ?_, ?_, trivial⟩
        · intro A wa hxa hd h0
          obtain ⟨ea, rfl⟩ := Later.mk_ex hxa
          have r7 := rest_at h0 7 (by kernel_rfl)
          simp at r7
          clear hd h0
          go_simp
          first | exact ⟨_, rfl, Ext.refl _, rfl⟩ | exact ⟨Ext.refl _, rfl⟩ | exact rfl | exact ⟨_, rfl, rfl⟩
        · intro A wa hxa hd h0
          obtain ⟨ea, rfl⟩ := Later.mk_ex hxa
          have q0 := depOn hd 0 72 (by kernel_rfl) rfl
          simp [tzF] at q0
          clear hd h0
          go_simp
          first | exact ⟨_, rfl, Ext.refl _, rfl⟩ | exact ⟨Ext.refl _, rfl⟩ | exact rfl | exact ⟨_, rfl, rfl⟩
        · intro A wa hxa hd h0
          obtain ⟨ea, rfl⟩ := Later.mk_ex hxa
          have r3 := rest_at h0 3 (by kernel_rfl)
          simp at r3
          clear hd h0
          go_simp
          first | exact ⟨_, rfl, Ext.refl _, rfl⟩ | exact ⟨Ext.refl _, rfl⟩ | exact rfl | exact ⟨_, rfl, rfl⟩
        · intro A wa hxa hd h0
          obtain ⟨ea, rfl⟩ := Later.mk_ex hxa
          have r1 := rest_at h0 1 (by kernel_rfl)
          simp at r1
          clear hd h0
          go_simp
          first | exact ⟨_, rfl, Ext.refl _, rfl⟩ | exact ⟨Ext.refl _, rfl⟩ | exact rfl | exact ⟨_, rfl, rfl⟩
        · intro A wa hxa hd h0
          obtain ⟨ea, rfl⟩ := Later.mk_ex hxa
          have r9 := rest_at h0 9 (by kernel_rfl)
          simp at r9
          clear hd h0
          go_simp
          first | exact ⟨_, rfl, Ext.refl _, rfl⟩ | exact ⟨Ext.refl _, rfl⟩ | exact rfl | exact ⟨_, rfl, rfl⟩
        · intro A wa hxa hd h0
          obtain ⟨ea, rfl⟩ := Later.mk_ex hxa
          have r2 := rest_at h0 2 (by kernel_rfl)
          simp at r2
          clear hd h0
          go_simp
          first | exact ⟨_, rfl, Ext.refl _, rfl⟩ | exact ⟨Ext.refl _, rfl⟩ | exact rfl | exact ⟨_, rfl, rfl⟩
        · intro A wa hxa hd h0
          obtain ⟨ea, rfl⟩ := Later.mk_ex hxa
          have q4 := depOn hd 4 76 (by kernel_rfl) rfl
          simp [tzF] at q4
          have q5 := depOn hd 5 77 (by kernel_rfl) rfl
          simp [tzF] at q5
          clear hd h0
          go_simp
          first | exact ⟨_, rfl, Ext.refl _, rfl⟩ | exact ⟨Ext.refl _, rfl⟩ | exact rfl | exact ⟨_, rfl, rfl⟩
        · intro A wa hxa hd h0
          obtain ⟨ea, rfl⟩ := Later.mk_ex hxa
          have q6 := depOn hd 6 78 (by kernel_rfl) rfl
          simp [tzF] at q6
          clear hd h0
          go_simp
          first | exact ⟨_, rfl, Ext.refl _, rfl⟩ | exact ⟨Ext.refl _, rfl⟩ | exact rfl | exact ⟨_, rfl, rfl⟩
        · intro A wa hxa hd h0
          obtain ⟨ea, rfl⟩ := Later.mk_ex hxa
          have q7 := depOn hd 7 79 (by kernel_rfl) rfl
          simp [tzF] at q7
          clear hd h0
          go_simp
          refine (wire7_any s ea.w).mono ?_
          rintro e w2 ⟨gx, rfl, hbx, hgx, hx⟩
          go_simp
          first | exact ⟨_, rfl, hx, ⟨gx, rfl, hbx⟩⟩ | exact ⟨hx, ⟨gx, rfl, hbx⟩⟩ | exact ⟨gx, rfl, hbx⟩ | exact ⟨_, rfl, ⟨gx, rfl, hbx⟩⟩
        · intro A wa hxa hd h0
          obtain ⟨ea, rfl⟩ := Later.mk_ex hxa
          obtain ⟨gx, q8, hbx⟩ := depOn hd 8 80 (by kernel_rfl) rfl
          simp at q8
          clear hd h0
          go_simp
          first | exact ⟨_, rfl, Ext.new _ _, ea.w.heap.size, gx, rfl, Blk.new _ _ (cW s gx), hbx.ext (Ext.new _ _)⟩ | exact ⟨Ext.new _ _, ea.w.heap.size, gx, rfl, Blk.new _ _ (cW s gx), hbx.ext (Ext.new _ _)⟩ | (trace_state; fail)
        · intro A wa hxa hd h0
          obtain ⟨ea, rfl⟩ := Later.mk_ex hxa
          have q2 := depOn hd 2 74 (by kernel_rfl) rfl
          simp [tzF] at q2
          have q3 := depOn hd 3 75 (by kernel_rfl) rfl
          simp [tzF] at q3
          obtain ⟨g9, gx, q9, hb9, hbx⟩ := depOn hd 9 81 (by kernel_rfl) rfl
          simp at q9
          clear hd h0
          go_simp
          refine (put7_any ea.w.heap.size f k hk [iW s] ea.w _ _ (HSW.out ea) (Sl.one hb9.lt rfl hb9.cells (one_cW s gx) (ri_iW s hbx.lt hbx.cells)) (Nat.le_refl _) (by omega) (by simp) (by omega)).mono ?_
          rintro e w2 ⟨v10, rfl, hx, hs10⟩
          go_simp
          first | exact ⟨_, rfl, hx, ⟨v10, rfl, hs10⟩⟩ | exact ⟨hx, ⟨v10, rfl, hs10⟩⟩ | exact ⟨v10, rfl, hs10⟩ | exact ⟨_, rfl, ⟨v10, rfl, hs10⟩⟩
        · intro A wa hxa hd h0
          obtain ⟨ea, rfl⟩ := Later.mk_ex hxa
          obtain ⟨v10, q10, hs10⟩ := depOn hd 10 82 (by kernel_rfl) rfl
          simp at q10
          clear hd h0
          go_simp
          refine (checkN_any ea.w.heap.size (putM f k [iW s]) ea.w v10 (HTB.out ea) hs10 (Nat.le_refl _) HPS.out HPV.out).mono ?_
          rintro e w2 ⟨rfl, hx⟩
          rw [HP70.out]
          go_simp
          first | exact ⟨_, rfl, hx, rfl⟩ | exact ⟨hx, rfl⟩ | exact rfl | exact ⟨_, rfl, rfl⟩
        · intro A wa hxa hd h0
          obtain ⟨ea, rfl⟩ := Later.mk_ex hxa
          have q11 := depOn hd 11 83 (by kernel_rfl) rfl
          simp [tzF] at q11
          clear hd h0
          go_simp
          first | exact ⟨_, rfl, Ext.refl _, rfl⟩ | exact ⟨Ext.refl _, rfl⟩ | exact rfl | exact ⟨_, rfl, rfl⟩
        · intro A wa hxa hd h0
          obtain ⟨ea, rfl⟩ := Later.mk_ex hxa
          have q1 := depOn hd 1 73 (by kernel_rfl) rfl
          simp [tzF] at q1
          have q12 := depOn hd 12 84 (by kernel_rfl) rfl
          simp [tzF] at q12
          clear hd h0
          go_simp
          first | exact ⟨_, rfl, Ext.refl _, rfl⟩ | exact ⟨Ext.refl _, rfl⟩ | exact rfl | exact ⟨_, rfl, rfl⟩
        · intro A wa hxa hd h0
          obtain ⟨ea, rfl⟩ := Later.mk_ex hxa
          have q13 := depOn hd 13 85 (by kernel_rfl) rfl
          simp [tzF] at q13
          clear hd h0
          go_simp
          first | exact ⟨_, rfl, Ext.refl _, rfl⟩ | exact ⟨Ext.refl _, rfl⟩ | exact rfl | exact ⟨_, rfl, rfl⟩
      · intro A wa hk
        obtain ⟨hxa, hsz, hdf, hdn, hrs⟩ := hk
        obtain ⟨ea, rfl⟩ := Later.mk_ex hxa
        have k6 : A.tmps.getD 6 undef = .bool true := hdn 14 6 rfl rfl
        clear hdn hrs
        rw [act_lit hsz hdf]
        simp [List.range, List.range.loop] at k6
        simp [List.range, List.range.loop, k6]
        clear k6 hsz hdf
        generalize A.tmps[0]?.getD undef = A0 at *
        generalize A.tmps[1]?.getD undef = A1 at *
        generalize A.tmps[2]?.getD undef = A2 at *
        generalize A.tmps[3]?.getD undef = A3 at *
        generalize A.tmps[4]?.getD undef = A4 at *
        generalize A.tmps[5]?.getD undef = A5 at *
        generalize A.tmps[7]?.getD undef = A7 at *
        generalize A.tmps[8]?.getD undef = A8 at *
        generalize A.tmps[9]?.getD undef = A9 at *
        generalize A.tmps[10]?.getD undef = A10 at *
        generalize A.tmps[11]?.getD undef = A11 at *
        generalize A.tmps[12]?.getD undef = A12 at *
        generalize A.tmps[13]?.getD undef = A13 at *
        generalize A.tmps[14]?.getD undef = A14 at *
        generalize A.tmps[15]?.getD undef = A15 at *
        generalize A.tmps[16]?.getD undef = A16 at *
        generalize A.tmps[17]?.getD undef = A17 at *
        generalize A.tmps[18]?.getD undef = A18 at *
        generalize A.tmps[19]?.getD undef = A19 at *
        generalize A.tmps[20]?.getD undef = A20 at *
        generalize A.tmps[21]?.getD undef = A21 at *
        generalize A.tmps[22]?.getD undef = A22 at *
        generalize A.tmps[23]?.getD undef = A23 at *
        generalize A.tmps[24]?.getD undef = A24 at *
        generalize A.tmps[25]?.getD undef = A25 at *
        generalize A.tmps[26]?.getD undef = A26 at *
        generalize A.tmps[27]?.getD undef = A27 at *
        generalize A.tmps[28]?.getD undef = A28 at *
        generalize A.tmps[29]?.getD undef = A29 at *
        generalize A.tmps[30]?.getD undef = A30 at *
        generalize A.tmps[31]?.getD undef = A31 at *
        generalize A.tmps[32]?.getD undef = A32 at *
        generalize A.tmps[33]?.getD undef = A33 at *
        generalize A.tmps[34]?.getD undef = A34 at *
        generalize A.tmps[35]?.getD undef = A35 at *
        generalize A.tmps[36]?.getD undef = A36 at *
        generalize A.tmps[37]?.getD undef = A37 at *
        generalize A.tmps[38]?.getD undef = A38 at *
        generalize A.tmps[39]?.getD undef = A39 at *
        generalize A.tmps[40]?.getD undef = A40 at *
        generalize A.tmps[41]?.getD undef = A41 at *
        generalize A.tmps[42]?.getD undef = A42 at *
        generalize A.tmps[43]?.getD undef = A43 at *
        generalize A.tmps[44]?.getD undef = A44 at *
        generalize A.tmps[45]?.getD undef = A45 at *
        generalize A.tmps[46]?.getD undef = A46 at *
        generalize A.tmps[47]?.getD undef = A47 at *
        generalize A.tmps[48]?.getD undef = A48 at *
        generalize A.tmps[49]?.getD undef = A49 at *
        generalize A.tmps[50]?.getD undef = A50 at *
        generalize A.tmps[51]?.getD undef = A51 at *
        generalize A.tmps[52]?.getD undef = A52 at *
        generalize A.tmps[53]?.getD undef = A53 at *
        generalize A.tmps[54]?.getD undef = A54 at *
        generalize A.tmps[55]?.getD undef = A55 at *
        generalize A.tmps[56]?.getD undef = A56 at *
        generalize A.tmps[57]?.getD undef = A57 at *
        generalize A.tmps[58]?.getD undef = A58 at *
        generalize A.tmps[59]?.getD undef = A59 at *
        generalize A.tmps[60]?.getD undef = A60 at *
        generalize A.tmps[61]?.getD undef = A61 at *
        generalize A.tmps[62]?.getD undef = A62 at *
        generalize A.tmps[63]?.getD undef = A63 at *
        generalize A.tmps[64]?.getD undef = A64 at *
        generalize A.tmps[65]?.getD undef = A65 at *
        generalize A.tmps[66]?.getD undef = A66 at *
        generalize A.tmps[67]?.getD undef = A67 at *
        generalize A.tmps[68]?.getD undef = A68 at *
        generalize A.tmps[69]?.getD undef = A69 at *
        generalize A.tmps[70]?.getD undef = A70 at *
        generalize A.tmps[71]?.getD undef = A71 at *
        generalize A.tmps[72]?.getD undef = A72 at *
        generalize A.tmps[73]?.getD undef = A73 at *
        generalize A.tmps[74]?.getD undef = A74 at *
        generalize A.tmps[75]?.getD undef = A75 at *
        generalize A.tmps[76]?.getD undef = A76 at *
        generalize A.tmps[77]?.getD undef = A77 at *
        generalize A.tmps[78]?.getD undef = A78 at *
        generalize A.tmps[79]?.getD undef = A79 at *
        generalize A.tmps[80]?.getD undef = A80 at *
        generalize A.tmps[81]?.getD undef = A81 at *
        generalize A.tmps[82]?.getD undef = A82 at *
        generalize A.tmps[83]?.getD undef = A83 at *
        generalize A.tmps[84]?.getD undef = A84 at *
        generalize A.tmps[85]?.getD undef = A85 at *
        have X8 := hide (X7.out.trans ea.ext)
        go_wp2_with fail
        go_ret
        exact ⟨rfl, X8.out⟩
    · have hne : (cc != 0) = true := by simpa using h0
      clear h0
      go_wp2_with fail
      go_ret
      exact ⟨rfl, X4.out⟩

end Go.Proofs.YtjoglnjpgkobeaaDoor
