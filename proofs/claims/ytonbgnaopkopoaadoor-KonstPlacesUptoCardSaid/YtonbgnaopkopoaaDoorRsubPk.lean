/-
  THE DOCUMENT's ANSWER OF CHAPTER 06: Subst.
-/
import Derived.OwnWalk
import Derived.Maps.AppendAt
import Derived.Test.YtonbgnaopkopoaaDoorRDPk
import Derived.Test.YtonbgnaopkopoaaDoorRonePk
import Derived.Test.YtonbgnaopkopoaaDoorAppPk
namespace Go.Proofs.YtonbgnaopkopoaaDoor
open Go Go.RowKit
set_option linter.all false
set_option linter.unusedVariables false
set_option linter.unusedSimpArgs false
set_option linter.unusedVariables false
set_option linter.unusedSimpArgs false
attribute [local go_sem] run_store_one

/-- What is asked of Subst at one expression. -/
def SubOkR (B : Nat) (env : List (ByteArray × Int)) (ve : Value) (x : X) : Prop := ∀ (w : World) (cs : List Value), RX w B x cs → B ≤ w.heap.size → Sl RNm w B 2 env ve →
  Calls Tryd.prog 24 #[.agg cs.toArray, ve] w fun e w' => ∃ cs', e = .returned (.agg cs'.toArray) ∧ RXD w' (DN B w.heap.size w'.heap.size) (substX (lookE env) x) cs' ∧ Ext w w'

set_option maxRecDepth 100000 in
set_option maxHeartbeats 4000000 in
theorem rsub_name (B : Nat) (env : List (ByteArray × Int)) (ve : Value) (hln : env.length ≤ 1000000000) (x : X) (h1 : x.op = 2) : SubOkR B env ve x := by
  intro w cs hR hB hE
  have HR := hide hR
  have HE := hide hE
  obtain ⟨x5, rfl, hS⟩ := RX_iff.1 hR
  rw [h1] at HR ⊢
  have o5 := hS.oneCell
  have oe := hE.oneCell
  obtain ⟨W1, hW1, hx1, hb1⟩ := box6 w (.int .i64 2) (.string x.name) (.int .i64 x.n) (.int .i64 x.w) (.int .u64 x.v) x5 25
  obtain ⟨W2, hW2, hx2, hb2⟩ := box6 W1 (.int .i64 0) (.string ⟨#[]⟩) (.int .i64 0) (.int .i64 0) (.int .u64 0) (.slice none 0 0) 25
  obtain ⟨e2, he2⟩ := Later.mk_ex (Ext.refl W2)
  have hV1 := hW1.symm
  have hV2 := hW2.symm.trans he2
  have q02 := hx1.trans hx2
  have z1 := size_box hW1
  have hg2 : w.heap.size ≤ W1.heap.size := hx1.size
  have hB2 : B ≤ W2.heap.size := Nat.le_trans hB q02.size
  obtain ⟨c0, c1, c2, c3, c4, c5⟩ := (hb1.ext hx2).later6
  have KL := hide (show ECalls Tryd.prog 17 #[ve, .string x.name] W2 (.tuple #[.int .i64 ((lookE env x.name).getD 0), .bool (lookE env x.name).isSome]) from ECalls.still fun w' hw => rlookup_any B env x.name w' ve (HE.out.extN (q02.trans hw) hB) (Nat.le_trans hB2 hw.size) hln)
  have HB1 := hide (hb1.ext hx2)
  have HB2 := hide hb2
  have Q02 := hide q02
  have hsub := substX_name (env := lookE env) h1
  have HSUB := hide hsub
  clear hR hS hE hW1 hW2 hx1 hx2 hb1 hb2 he2 q02 hsub HB1 HE z1
  clear h1
  cases hz : lookE env x.name with
  | none =>
    rw [hz] at KL HSUB
    simp only [Option.getD_none, Option.isSome_none] at KL HSUB
    rw [HSUB.out]
    clear hz HSUB
    go_enter Tryd.func24, Tryd.ntmps24
    go_wp2_with fail
    refine (KL.out.at_ _).mono ?_
    rintro _ _ ⟨rfl, e, rfl⟩
    have hbe := HB2.out.ext e.ext
    obtain ⟨d0, d1, d2, d3, d4, d5⟩ := hbe.get6
    obtain ⟨f0, f1, f2, f3, f4, f5⟩ := hbe.free6
    obtain ⟨Wz, hWz⟩ : ∃ Wz, Wz = (((((e.w.setCell ⟨W1.heap.size, 0, none⟩ (.int .i64 2)).setCell ⟨W1.heap.size, 1, none⟩ (.string x.name)).setCell ⟨W1.heap.size, 2, none⟩ (.int .i64 x.n)).setCell ⟨W1.heap.size, 3, none⟩ (.int .i64 x.w)).setCell ⟨W1.heap.size, 4, none⟩ (.int .u64 x.v)).setCell ⟨W1.heap.size, 5, none⟩ (x5) := ⟨_, rfl⟩
    have hbz := hbe.store6 (.int .i64 2) (.string x.name) (.int .i64 x.n) (.int .i64 x.w) (.int .u64 x.v) (x5)
    rw [← hWz] at hbz
    obtain ⟨y0, y1, y2, y3, y4, y5⟩ := hbz.get6
    have x0z : Ext w Wz := by rw [hWz]; exact (((((((Q02.out.trans e.ext).setCell hg2 _).setCell hg2 _).setCell hg2 _).setCell hg2 _).setCell hg2 _).setCell hg2 _)
    have HFIN := hide x0z
    have hVz := hWz.symm
    clear hbe hbz hWz x0z
    go_wp2_with fail
    refine bodyPost_ret (v := .agg #[.int .i64 2, .string x.name, .int .i64 x.n, .int .i64 x.w, .int .u64 x.v, x5]) (by simp [results, Tryd.results24, go_sem, y0, y1, y2, y3, y4, y5]) rfl ?_
    exact ⟨[.int .i64 2, .string x.name, .int .i64 x.n, .int .i64 x.w, .int .u64 x.v, x5], rfl, (HR.out.ext HFIN.out hB).rxd (fun b hb => .inl hb) x _, HFIN.out⟩
  | some z =>
    rw [hz] at KL HSUB
    simp only [Option.getD_some, Option.isSome_some] at KL HSUB
    clear hz
    by_cases hin : insideK z
    · rw [if_pos hin] at HSUB
      rw [HSUB.out]
      have hi0 := hin.1
      have hi1 := hin.2
      clear HSUB hin
      go_enter Tryd.func24, Tryd.ntmps24
      go_wp2_with fail
      refine (KL.out.at_ _).mono ?_
      rintro _ _ ⟨rfl, e, rfl⟩
      have hbe := HB2.out.ext e.ext
      obtain ⟨d0, d1, d2, d3, d4, d5⟩ := hbe.get6
      obtain ⟨f0, f1, f2, f3, f4, f5⟩ := hbe.free6
      obtain ⟨Wz, hWz⟩ : ∃ Wz, Wz = (((((e.w.setCell ⟨W1.heap.size, 0, none⟩ (.int .i64 1)).setCell ⟨W1.heap.size, 1, none⟩ (.string ⟨#[]⟩)).setCell ⟨W1.heap.size, 2, none⟩ (.int .i64 0)).setCell ⟨W1.heap.size, 3, none⟩ (.int .i64 0)).setCell ⟨W1.heap.size, 4, none⟩ (.int .u64 z)).setCell ⟨W1.heap.size, 5, none⟩ (.slice none 0 0) := ⟨_, rfl⟩
      have hbz := hbe.store6 (.int .i64 1) (.string ⟨#[]⟩) (.int .i64 0) (.int .i64 0) (.int .u64 z) (.slice none 0 0)
      rw [← hWz] at hbz
      obtain ⟨y0, y1, y2, y3, y4, y5⟩ := hbz.get6
      have x0z : Ext w Wz := by rw [hWz]; exact (((((((Q02.out.trans e.ext).setCell hg2 _).setCell hg2 _).setCell hg2 _).setCell hg2 _).setCell hg2 _).setCell hg2 _)
      have HFIN := hide x0z
      have hVz := hWz.symm
      clear hbe hbz hWz x0z
      go_wp2_with fail
      refine bodyPost_ret (v := .agg #[.int .i64 1, .string ⟨#[]⟩, .int .i64 0, .int .i64 0, .int .u64 z, .slice none 0 0]) (by simp [results, Tryd.results24, go_sem, y0, y1, y2, y3, y4, y5]) rfl ?_
      exact ⟨[.int .i64 1, .string ⟨#[]⟩, .int .i64 0, .int .i64 0, .int .u64 z, .slice none 0 0], rfl, RXD_iff.2 ⟨_, rfl, SlD.nil⟩, HFIN.out⟩
    · rw [if_neg hin] at HSUB
      rw [HSUB.out]
      clear HSUB
      go_enter Tryd.func24, Tryd.ntmps24
      go_wp2_with fail
      refine (KL.out.at_ _).mono ?_
      rintro _ _ ⟨rfl, e, rfl⟩
      by_cases h0 : 0 ≤ z
      · have hgt : decide (z ≤ 2147483647) = false := decide_eq_false (fun h => hin ⟨h0, h⟩)
        clear hin
        have hbe := HB2.out.ext e.ext
        obtain ⟨d0, d1, d2, d3, d4, d5⟩ := hbe.get6
        obtain ⟨f0, f1, f2, f3, f4, f5⟩ := hbe.free6
        obtain ⟨Wz, hWz⟩ : ∃ Wz, Wz = (((((e.w.setCell ⟨W1.heap.size, 0, none⟩ (.int .i64 2)).setCell ⟨W1.heap.size, 1, none⟩ (.string x.name)).setCell ⟨W1.heap.size, 2, none⟩ (.int .i64 x.n)).setCell ⟨W1.heap.size, 3, none⟩ (.int .i64 x.w)).setCell ⟨W1.heap.size, 4, none⟩ (.int .u64 x.v)).setCell ⟨W1.heap.size, 5, none⟩ (x5) := ⟨_, rfl⟩
        have hbz := hbe.store6 (.int .i64 2) (.string x.name) (.int .i64 x.n) (.int .i64 x.w) (.int .u64 x.v) (x5)
        rw [← hWz] at hbz
        obtain ⟨y0, y1, y2, y3, y4, y5⟩ := hbz.get6
        have x0z : Ext w Wz := by rw [hWz]; exact (((((((Q02.out.trans e.ext).setCell hg2 _).setCell hg2 _).setCell hg2 _).setCell hg2 _).setCell hg2 _).setCell hg2 _)
        have HFIN := hide x0z
        have hVz := hWz.symm
        clear hbe hbz hWz x0z
        go_wp2_with fail
        refine bodyPost_ret (v := .agg #[.int .i64 2, .string x.name, .int .i64 x.n, .int .i64 x.w, .int .u64 x.v, x5]) (by simp [results, Tryd.results24, go_sem, y0, y1, y2, y3, y4, y5]) rfl ?_
        exact ⟨[.int .i64 2, .string x.name, .int .i64 x.n, .int .i64 x.w, .int .u64 x.v, x5], rfl, (HR.out.ext HFIN.out hB).rxd (fun b hb => .inl hb) x _, HFIN.out⟩
      · have hlt : decide (0 ≤ z) = false := decide_eq_false h0
        clear hin h0
        have hbe := HB2.out.ext e.ext
        obtain ⟨d0, d1, d2, d3, d4, d5⟩ := hbe.get6
        obtain ⟨f0, f1, f2, f3, f4, f5⟩ := hbe.free6
        obtain ⟨Wz, hWz⟩ : ∃ Wz, Wz = (((((e.w.setCell ⟨W1.heap.size, 0, none⟩ (.int .i64 2)).setCell ⟨W1.heap.size, 1, none⟩ (.string x.name)).setCell ⟨W1.heap.size, 2, none⟩ (.int .i64 x.n)).setCell ⟨W1.heap.size, 3, none⟩ (.int .i64 x.w)).setCell ⟨W1.heap.size, 4, none⟩ (.int .u64 x.v)).setCell ⟨W1.heap.size, 5, none⟩ (x5) := ⟨_, rfl⟩
        have hbz := hbe.store6 (.int .i64 2) (.string x.name) (.int .i64 x.n) (.int .i64 x.w) (.int .u64 x.v) (x5)
        rw [← hWz] at hbz
        obtain ⟨y0, y1, y2, y3, y4, y5⟩ := hbz.get6
        have x0z : Ext w Wz := by rw [hWz]; exact (((((((Q02.out.trans e.ext).setCell hg2 _).setCell hg2 _).setCell hg2 _).setCell hg2 _).setCell hg2 _).setCell hg2 _)
        have HFIN := hide x0z
        have hVz := hWz.symm
        clear hbe hbz hWz x0z
        go_wp2_with fail
        refine bodyPost_ret (v := .agg #[.int .i64 2, .string x.name, .int .i64 x.n, .int .i64 x.w, .int .u64 x.v, x5]) (by simp [results, Tryd.results24, go_sem, y0, y1, y2, y3, y4, y5]) rfl ?_
        exact ⟨[.int .i64 2, .string x.name, .int .i64 x.n, .int .i64 x.w, .int .u64 x.v, x5], rfl, (HR.out.ext HFIN.out hB).rxd (fun b hb => .inl hb) x _, HFIN.out⟩

theorem own_form {w : World} {base : Nat} {t : TypeId} {sz n : Nat} {v : Value} {xs : List Value} (h : w.ownsRow base t sz v n xs) : ∃ a cap, v = .slice a n cap := by
  rcases h.2 with ⟨rfl, rfl⟩ | ⟨g, cap, cur, rfl, -⟩ <;> exact ⟨_, _, rfl⟩
/-- A row of the call's own whose elements lie in blocks of a kind. -/
theorem SlD.of_own {α : Type} {R : α → List Value → Prop} {w : World} {base sz : Nat} {e : TypeId} {l : List α} {v : Value} {xs : List Value} {D : Nat → Prop} (hsz : 0 < sz) (h : w.ownsRow base e sz v l.length xs) (hD : ∀ b, v.ownBlock = some b → D b) (h1 : ∀ u ∈ xs, u.oneCell' = true)
    (hR : ∀ k, (hk : k < l.length) → R l[k] ((xs.drop (k * sz)).take sz)) : SlD R w D sz l v := by
  obtain ⟨a, cap, hv, hc, hr⟩ := Sl.of_own hsz h h1 hR
  refine ⟨a, cap, hv, hc, fun k hk => ?_⟩
  obtain ⟨b, o, cs, ha, hb, hl, hC, h1, hR⟩ := hr k hk
  exact ⟨b, o, cs, ha, hD b (by rw [hv, ha]; rfl), hl, hC, h1, hR⟩

set_option maxRecDepth 100000 in
set_option maxHeartbeats 4000000 in
theorem rsub_other (B : Nat) (env : List (ByteArray × Int)) (ve : Value) (hln : env.length ≤ 1000000000) (x : X) (h1 : x.op ≠ 2) (hsz : x.l.length ≤ 100000000) (IH : ∀ y, y ∈ x.l → SubOkR B env ve y) : SubOkR B env ve x := by
  intro w cs hR hB hE
  have HR := hide hR
  have HE := hide hE
  obtain ⟨x5, rfl, hS⟩ := RX_iff.1 hR
  have o5 := hS.oneCell
  have oe := hE.oneCell
  obtain ⟨W1, hW1, hx1, hb1⟩ := box6 w (.int .i64 x.op) (.string x.name) (.int .i64 x.n) (.int .i64 x.w) (.int .u64 x.v) x5 25
  obtain ⟨W2, hW2, hx2, hb2⟩ := box6 W1 (.int .i64 0) (.string ⟨#[]⟩) (.int .i64 0) (.int .i64 0) (.int .u64 0) (.slice none 0 0) 25
  obtain ⟨e2, he2⟩ := Later.mk_ex (Ext.refl W2)
  have hV1 := hW1.symm
  have hV2 := hW2.symm.trans he2
  have q02 := hx1.trans hx2
  have z1 := size_box hW1
  have hg2 : w.heap.size ≤ W1.heap.size := hx1.size
  have hB2 : B ≤ W2.heap.size := Nat.le_trans hB q02.size
  obtain ⟨c0, c1, c2, c3, c4, c5⟩ := (hb1.ext hx2).later6
  have KL := hide (show ECalls Tryd.prog 17 #[ve, .string x.name] W2 (.tuple #[.int .i64 ((lookE env x.name).getD 0), .bool (lookE env x.name).isSome]) from ECalls.still fun w' hw => rlookup_any B env x.name w' ve (HE.out.extN (q02.trans hw) hB) (Nat.le_trans hB2 hw.size) hln)
  have HB1 := hide (hb1.ext hx2)
  have HB2 := hide hb2
  have Q02 := hide q02
  have hsub := substX_other (env := lookE env) h1
  have HSUB := hide hsub
  obtain ⟨ax, capx, rfl, hcapx, hrow⟩ := hS
  obtain ⟨ti, hti, htz, hts, htb⟩ := info_parts infoX'
  have hg3 : w.heap.size ≤ e2.w.heap.size := Nat.le_trans q02.size e2.ext.size
  have hg3' : W1.heap.size < e2.w.heap.size := Nat.lt_of_lt_of_le hb2.lt e2.ext.size
  have hg3'' : w.heap.size < W1.heap.size := by omega
  have h1' : ((x.op : Int) == 2) = false := by simpa using h1
  obtain ⟨W3, hW3, hx3, hb3⟩ := box6 e2.w (.int .i64 0) (.string ⟨#[]⟩) (.int .i64 0) (.int .i64 0) (.int .u64 0) (.slice none 0 0) 25
  obtain ⟨m0, m1, m2, m3, m4, m5⟩ := hb3.get6
  obtain ⟨n0, n1, n2, n3, n4, n5⟩ := hb3.free6
  obtain ⟨Wc, hWc⟩ : ∃ Wc, Wc = (((((W3.setCell ⟨e2.w.heap.size, 0, none⟩ (.int .i64 x.op)).setCell ⟨e2.w.heap.size, 1, none⟩ (.string x.name)).setCell ⟨e2.w.heap.size, 2, none⟩ (.int .i64 x.n)).setCell ⟨e2.w.heap.size, 3, none⟩ (.int .i64 x.w)).setCell ⟨e2.w.heap.size, 4, none⟩ (.int .u64 x.v)).setCell ⟨e2.w.heap.size, 5, none⟩ (.slice ax x.l.length capx) := ⟨_, rfl⟩
  have hbc := hb3.store6 (.int .i64 x.op) (.string x.name) (.int .i64 x.n) (.int .i64 x.w) (.int .u64 x.v) (.slice ax x.l.length capx)
  rw [← hWc] at hbc
  have hx2c : Ext e2.w Wc := by rw [hWc]; exact ((((((hx3.setCell (Nat.le_refl _) _).setCell (Nat.le_refl _) _).setCell (Nat.le_refl _) _).setCell (Nat.le_refl _) _).setCell (Nat.le_refl _) _).setCell (Nat.le_refl _) _)
  have sc : e2.w.heap.size < Wc.heap.size := hbc.lt
  have SC := hide sc
  have HBC := hide hbc
  have Q2C := hide (e2.ext.trans hx2c)
  have HROW := hide hrow
  have hV3 := hW3.symm
  have hVc := hWc.symm
  clear hR hE hW1 hW2 hW3 hWc hx1 hx2 hx2c hx3 hb1 hb2 hb3 hbc he2 q02 hsub hrow hcapx h1 KL z1 sc
  go_enter Tryd.func24, Tryd.ntmps24
  go_wp2_with fail
  go_loopw [8, 9] (fun v i wr => ∃ (k : Nat) (news : List Value), k ≤ x.l.length ∧ i = .int .i64 k ∧ wr.ownsRow Wc.heap.size 25 6 v k news ∧ (∀ u ∈ news, u.oneCell' = true) ∧
      (∀ j, (h : j < x.l.length) → j < k → RXD wr (fun b => DN B Wc.heap.size wr.heap.size b ∧ v.ownBlock ≠ some b) (substX (lookE env) x.l[j]) ((news.drop (j * 6)).take 6)) ∧ Ext Wc wr) (fun _ i _ => x.l.length - (intOf i).toNat)
  case atStart =>
    exact ⟨0, [], Nat.zero_le _, rfl, World.ownsRow_nil _ _ _ _, (fun u hu => nomatch hu), fun j _ h => by omega, Ext.refl _⟩
  case round =>
    obtain ⟨k, news, hk, rfl, hown, hone, hch, hx⟩ := hrel
    have hx2 := Q2C.out.trans hx
    have hx0 := Q02.out.trans hx2
    have HB1W := hide (HB1.out.ext hx2)
    have HB2W := hide (HB2.out.ext hx2)
    have HBCW := hide (HBC.out.ext hx)
    have hlo := hown.lt
    have hnl := hown.1
    have hsw := hx.size
    by_cases hlt : k < x.l.length
    · have IHk := IH x.l[k] (List.getElem_mem hlt)
      obtain ⟨A1, k1, rfl⟩ := own_form hown
      obtain ⟨b, o, v0, v1, v2, v3, v4, v5, rfl, hbB, hRk, hCk, p0, p1, p2, p3, p4, p5⟩ := HROW.out.open6 hlt
      obtain ⟨d0, d1, d2, d3, d4, d5⟩ := (hCk.ext hx0).get6
      obtain ⟨g0, g1, g2, g3, g4, g5⟩ := HB1W.out.get6
      have KS := hide (IHk wr _ (hRk.ext hx0 hB) (Nat.le_trans hB hx0.size) (HE.out.extN hx0 hB))
      have HREL := hide (And.intro hown (And.intro hone (And.intro hch (And.intro hx hlo))))
      clear hRk hCk hown hone hch hx hlo IHk c0 c1 c2 c3 c4 c5
      go_wp2_with fail
      refine KS.out.mono ?_
      rintro _ w5 ⟨cs', rfl, hD5, hx5⟩
      obtain ⟨hown, hone, hch, hx, hlo⟩ := HREL.out
      generalize hsy : substX (lookE env) x.l[k] = y at *
      obtain ⟨y5, rfl, hy5⟩ := RXD_iff.1 hD5
      have oy := hy5.oneCell
      obtain ⟨W6, hW6, hx6, hb6⟩ := box6 w5 (.int .i64 y.op) (.string y.name) (.int .i64 y.n) (.int .i64 y.w) (.int .u64 y.v) (y5) 25
      have hx56 := hx5.trans hx6
      have hflat : Flat W6 6 (some ⟨w5.heap.size, 0, none⟩) 1 [.int .i64 y.op, .string y.name, .int .i64 y.n, .int .i64 y.w, .int .u64 y.v, y5] := ⟨rfl, (by intro u hu; simp only [List.mem_cons, List.not_mem_nil, or_false] at hu; rcases hu with rfl | rfl | rfl | rfl | rfl | rfl; all_goals first | rfl | exact oy), fun _ => ⟨_, 0, rfl, hb6.cells⟩⟩
      have hown6 : W6.ownsRow Wc.heap.size 25 6 (.slice A1 k k1) k news := hown.kept hx56.grow (by cases hv : Value.ownBlock (.slice A1 k k1) <;> simp)
      have HOWN := hide hown6
      have HFL := hide hflat
      have hs56 := hx5.size
      have hs66 := hx6.size
      have FIN := hide (show ∀ v2 w7, w7.ownsRow Wc.heap.size 25 6 v2 (k + 1) (news ++ [.int .i64 y.op, .string y.name, .int .i64 y.n, .int .i64 y.w, .int .u64 y.v, y5]) → W6.grownBy w7 (Value.slice A1 k k1).ownBlock → (∀ g, v2.ownBlock = some g → (Value.slice A1 k k1).ownBlock = some g ∨ W6.heap.size ≤ g) →
          ∃ (k' : Nat) (news' : List Value), k' ≤ x.l.length ∧ Value.int .i64 ((k : Int) + 1) = .int .i64 k' ∧ w7.ownsRow Wc.heap.size 25 6 v2 k' news' ∧ (∀ u ∈ news', u.oneCell' = true) ∧
          (∀ j, (h : j < x.l.length) → j < k' → RXD w7 (fun b => DN B Wc.heap.size w7.heap.size b ∧ v2.ownBlock ≠ some b) (substX (lookE env) x.l[j]) ((news'.drop (j * 6)).take 6)) ∧ Ext Wc w7 from by
        intro v2 w7 hown7 hg7 hf7
        have hs7 := hg7.size
        have hkeep : ∀ q : Addr, q.block < w5.heap.size → (Value.slice A1 k k1).ownBlock ≠ some q.block → w7.cell? q = w5.cell? q := fun q hq hne => (World.cell?_of_block (hg7.block q.block (by omega) (fun e => hne e.symm))).trans (hx6.cell hq)
        have hBc := HBC.out.lt
        refine ⟨k + 1, news ++ [.int .i64 y.op, .string y.name, .int .i64 y.n, .int .i64 y.w, .int .u64 y.v, y5], by omega, by go_num, hown7, ?_, ?_, ?_⟩
        · intro u hu
          rcases List.mem_append.1 hu with hu | hu
          · exact hone u hu
          · exact hflat.2.1 u hu
        · intro j hj hjk
          by_cases hjl : j < k
          · rw [List.drop_append_of_le_length (by omega), List.take_append_of_le_length (by rw [List.length_drop]; omega)]
            have hbd : ∀ b, DN B Wc.heap.size wr.heap.size b → b < wr.heap.size := fun b hb => by rcases hb with h | h <;> omega
            refine (hch j hj hjl).keep (fun q hq => ?_) (fun b hb => ⟨hb.1.mono (Nat.le_refl _) (by omega), fun e => ?_⟩) _ _
            · exact (hkeep q (by have := hbd _ hq.1; omega) hq.2).trans (hx5.cell (hbd _ hq.1))
            · rcases hf7 b e with h | h
              · exact hb.2 h
              · have := hbd _ hb.1; omega
          · have hjk : j = k := by omega
            subst hjk
            rw [hsy, ← hnl, List.drop_left]
            refine RXD.keep (D := DN B wr.heap.size w5.heap.size) (fun q hq => hkeep q ?_ ?_) (fun b hb => ⟨hb.mono (by omega) (by omega), fun e => ?_⟩) _ _ (RXD_iff.2 ⟨y5, rfl, hy5⟩)
            · rcases hq with h | h <;> omega
            · intro e
              have := hlo _ e
              rcases hq with h | h <;> omega
            · rcases hf7 b e with h | h
              · have := hlo _ h
                rcases hb with h | h <;> omega
              · rcases hb with h | h <;> omega
        · exact (hx.trans hx56).grown hg7 (fun r hr => (hlo r hr).1))
      have hV6 := hW6.symm
      have hs6 : Wc.heap.size ≤ W6.heap.size := by omega
      clear hW6 hown hone hch hx hlo HREL hD5 hy5 hsy KS hx5 hx6 hx56 hflat hown6 hs56 hs66
      go_wp2_with (at_builtin; refine wpList_append_flat rfl _ _ 23 rfl Wc.heap.size 25 ti _ 6 72 Tryd.underlying23 hti htz hts htb rfl (by decide) (by decide) (.slice A1 k k1) k news rfl HOWN.out (some ⟨w5.heap.size, 0, none⟩) 1 1 [.int .i64 y.op, .string y.name, .int .i64 y.n, .int .i64 y.w, .int .u64 y.v, y5] rfl HFL.out (by omega) (by omega) hs6 ?_; intro v2 w7 hown2 hg2 hf2; have FIN2 := hide (FIN.out v2 w7 hown2 hg2 hf2); clear hown2 hg2 hf2)
      go_roundw
      case rel => exact FIN2.out
      case measure => simp [intOf]; omega
    · have hkl : k = x.l.length := by omega
      subst hkl
      obtain ⟨A1, k1, rfl⟩ := own_form hown
      have hbA := HBCW.out
      have hbB := HB2W.out
      obtain ⟨g0, g1, g2, g3, g4, g5⟩ := HB1W.out.get6
      obtain ⟨l0, l1, l2, l3, l4, l5⟩ := hbA.get6
      obtain ⟨m0, m1, m2, m3, m4, m5⟩ := hbA.free6
      obtain ⟨Wa, hWa⟩ : ∃ Wa, Wa = wr.setCell ⟨e2.w.heap.size, 5, none⟩ (.slice A1 x.l.length k1) := ⟨_, rfl⟩
      have hbA2 : Blk Wa e2.w.heap.size 25 [.int .i64 x.op, .string x.name, .int .i64 x.n, .int .i64 x.w, .int .u64 x.v, .slice A1 x.l.length k1] := by rw [hWa]; exact hbA.set_ 5 _
      have hbB2 : Blk Wa W1.heap.size 25 [.int .i64 0, .string ⟨#[]⟩, .int .i64 0, .int .i64 0, .int .u64 0, .slice none 0 0] := by rw [hWa]; exact hbB.far (by show W1.heap.size ≠ e2.w.heap.size; omega) _
      obtain ⟨n0, n1, n2, n3, n4, n5⟩ := hbA2.get6
      obtain ⟨q0, q1, q2, q3, q4, q5⟩ := hbB2.get6
      obtain ⟨f0, f1, f2, f3, f4, f5⟩ := hbB2.free6
      obtain ⟨Wz, hWz⟩ : ∃ Wz, Wz = (((((Wa.setCell ⟨W1.heap.size, 0, none⟩ (.int .i64 x.op)).setCell ⟨W1.heap.size, 1, none⟩ (.string x.name)).setCell ⟨W1.heap.size, 2, none⟩ (.int .i64 x.n)).setCell ⟨W1.heap.size, 3, none⟩ (.int .i64 x.w)).setCell ⟨W1.heap.size, 4, none⟩ (.int .u64 x.v)).setCell ⟨W1.heap.size, 5, none⟩ (.slice A1 x.l.length k1) := ⟨_, rfl⟩
      have hbz := hbB2.store6 (.int .i64 x.op) (.string x.name) (.int .i64 x.n) (.int .i64 x.w) (.int .u64 x.v) (.slice A1 x.l.length k1)
      rw [← hWz] at hbz
      obtain ⟨y0, y1, y2, y3, y4, y5⟩ := hbz.get6
      have hsz' : Wz.heap.size = wr.heap.size := by rw [hWz, hWa]; simp [World.setCell]
      have hkz : ∀ q : Addr, q.block ≠ e2.w.heap.size → q.block ≠ W1.heap.size → Wz.cell? q = wr.cell? q := fun q h1 h2 => by
        rw [hWz, hWa]
        exact World.cell?_of_block (by simp [Below.heap_setCell, h1, h2])
      have hsc := SC.out
      have hownz : Wz.ownsRow Wc.heap.size 25 6 (.slice A1 x.l.length k1) x.l.length news := by
        rw [hWz, hWa]
        exact ownsRow_setCell_below (ownsRow_setCell_below (ownsRow_setCell_below (ownsRow_setCell_below (ownsRow_setCell_below (ownsRow_setCell_below (ownsRow_setCell_below hown (by show e2.w.heap.size < _; omega) _) (by show W1.heap.size < _; omega) _) (by show W1.heap.size < _; omega) _) (by show W1.heap.size < _; omega) _) (by show W1.heap.size < _; omega) _) (by show W1.heap.size < _; omega) _) (by show W1.heap.size < _; omega) _
      have FIN := hide (show RXD Wz (DN B w.heap.size Wz.heap.size) (substX (lookE env) x) [.int .i64 x.op, .string x.name, .int .i64 x.n, .int .i64 x.w, .int .u64 x.v, .slice A1 x.l.length k1] ∧ Ext w Wz from by
        constructor
        · rw [HSUB.out]
          refine RXD_iff.2 ⟨_, rfl, ?_⟩
          show SlD _ Wz _ 6 (x.l.map (substX (lookE env))) _
          have hll : (x.l.map (substX (lookE env))).length = x.l.length := List.length_map ..
          refine SlD.of_own (base := Wc.heap.size) (e := 25) (xs := news) (by decide) (by rw [hll]; exact hownz) (fun b hb => ?_) hone fun k hk => ?_
          · have := hlo b hb
            exact .inr ⟨by omega, by omega⟩
          · have hk' : k < x.l.length := by rw [← hll]; exact hk
            rw [List.getElem_map]
            refine (hch k hk' hk').keep (fun q hq => ?_) (fun b hb => hb.1.mono (by omega) (by omega)) _ _
            rcases hq.1 with h | h
            · exact hkz q (by omega) (by omega)
            · exact hkz q (by omega) (by omega)
        · rw [hWz, hWa]
          exact ((((((((Q02.out.trans (Q2C.out.trans hx)).setCell hg3 _).setCell hg2 _).setCell hg2 _).setCell hg2 _).setCell hg2 _).setCell hg2 _).setCell hg2 _))
      have hVa := hWa.symm
      have hVz := hWz.symm
      clear hbA hbB hbA2 hbB2 hbz hWa hWz hsz' hkz hch hone hown hownz hsc c0 c1 c2 c3 c4 c5
      go_wp2_with fail
      refine bodyPost_ret (v := .agg #[.int .i64 x.op, .string x.name, .int .i64 x.n, .int .i64 x.w, .int .u64 x.v, .slice A1 x.l.length k1]) (by simp [results, Tryd.results24, go_sem, y0, y1, y2, y3, y4, y5]) rfl ?_
      exact ⟨[.int .i64 x.op, .string x.name, .int .i64 x.n, .int .i64 x.w, .int .u64 x.v, .slice A1 x.l.length k1], rfl, FIN.out.1, FIN.out.2⟩

end Go.Proofs.YtonbgnaopkopoaaDoor
