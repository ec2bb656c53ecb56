/-
  THE LAW KonstFree: WHAT IT COMPUTES.
-/
import Derived.Test.YtonbgnaopkopoaaDoorKlivePk
import Derived.Test.YtonbgnaopkopoaaDoorRefFPk
import Derived.Test.YtonbgnaopkopoaaDoorAppPk
namespace Go.Proofs.YtonbgnaopkopoaaDoor
open Go Go.RowKit
set_option linter.all false
set_option linter.unusedVariables false
set_option linter.unusedSimpArgs false
set_option linter.unusedVariables false
set_option linter.unusedSimpArgs false
attribute [local go_sem] run_store_one

/-- Constants' cells, in one list. -/
def rowN (l : List (ByteArray × Int)) : List Value := l.flatMap fun p => [.string p.1, .int .i64 p.2]
theorem rowN_append (l r : List (ByteArray × Int)) : rowN (l ++ r) = rowN l ++ rowN r := List.flatMap_append
theorem rowN_cons (p : ByteArray × Int) (l : List (ByteArray × Int)) : rowN (p :: l) = .string p.1 :: .int .i64 p.2 :: rowN l := by simp [rowN]
theorem one_rowN (l : List (ByteArray × Int)) : ∀ u ∈ rowN l, u.oneCell' = true := by
  intro u hu
  unfold rowN at hu
  obtain ⟨p, -, hp⟩ := List.mem_flatMap.1 hu
  simp only [List.mem_cons, List.not_mem_nil, or_false] at hp
  rcases hp with rfl | rfl <;> rfl
theorem rowN_part (l : List (ByteArray × Int)) : ∀ k, (hk : k < l.length) → RNm l[k] (((rowN l).drop (k * 2)).take 2) := by
  induction l with
  | nil => intro k hk; exact absurd hk (by simp)
  | cons p r ih =>
    intro k hk
    rw [rowN_cons]
    rcases k with _ | k
    · rfl
    · rw [show (k + 1) * 2 = k * 2 + 1 + 1 by omega, List.drop_succ_cons, List.drop_succ_cons]
      exact ih k (by simpa using hk)
theorem rowN_of (l : List (ByteArray × Int)) : ∀ news : List Value, news.length = l.length * 2 → (∀ k, (hk : k < l.length) → RNm l[k] ((news.drop (k * 2)).take 2)) → news = rowN l := by
  induction l with
  | nil => intro news h _; exact List.eq_nil_of_length_eq_zero (by simpa using h)
  | cons p r ih =>
    intro news h hR
    match news, h with
    | [], h => simp at h
    | [_], h => simp at h; omega
    | a :: b :: t, h =>
      have h0 := hR 0 (by simp)
      simp only [Nat.zero_mul, List.drop_zero, List.getElem_cons_zero] at h0
      have h0' : [a, b] = [.string p.1, .int .i64 p.2] := h0
      injection h0' with e1 e2
      injection e2 with e2 _
      rw [rowN_cons, e1, e2, ih t (by simp at h; omega) fun k hk => by
        have := hR (k + 1) (by simpa using hk)
        rw [show (k + 1) * 2 = k * 2 + 1 + 1 by omega, List.drop_succ_cons, List.drop_succ_cons] at this
        exact this]
theorem rowN_flat {w : World} {B : Nat} {l : List (ByteArray × Int)} {a : Option Addr} (h : Row RNm w B 2 l a) : Flat w 2 a l.length (rowN l) := by
  obtain ⟨news, h1, h2⟩ := h.flat
  rw [← rowN_of l news h1.1 h2]
  exact h1
theorem own_formN {w : World} {base : Nat} {t : TypeId} {sz n : Nat} {v : Value} {xs : List Value} (h : w.ownsRow base t sz v n xs) : ∃ a cap, v = .slice a n cap := by
  rcases h.2 with ⟨rfl, rfl⟩ | ⟨g, cap, cur, rfl, -⟩ <;> exact ⟨_, _, rfl⟩
theorem memN_one {o : List ByteArray} {s t : ByteArray} : t ∈ addOne o s ↔ t ∈ o ∨ t = s := by
  by_cases h : s ∈ o
  · rw [addOne_in h]; exact ⟨.inl, fun h' => h'.elim id (fun e => e ▸ h)⟩
  · rw [addOne_out h]; simp
theorem memN_all {t : ByteArray} (l : List ByteArray) : ∀ o : List ByteArray, t ∈ addAll o l ↔ t ∈ o ∨ t ∈ l := by
  induction l with
  | nil => intro o; simp [addAll]
  | cons s r ih => intro o; show t ∈ addAll (addOne o s) r ↔ _; rw [ih, memN_one, List.mem_cons, or_assoc]
theorem mem_free {x : X} {s : ByteArray} : s ∈ freeX x ↔ s ∈ namesX x := by
  unfold freeX
  rw [memN_all]
  simp
theorem namesN_le (x : X) : (namesX x).length ≤ sizeX x := by
  induction x using X.ind with
  | h x ih =>
    rw [namesX_eq, sizeX_eq]
    have : (x.l.flatMap namesX).length ≤ msize sizeX x.l := by
      have h : ∀ l : List X, (∀ y, y ∈ l → (namesX y).length ≤ sizeX y) → (l.flatMap namesX).length ≤ msize sizeX l := by
        intro l
        induction l with
        | nil => intro _; simp [msize]
        | cons y r ih2 =>
          intro hl
          have h1 := hl y (List.mem_cons_self ..)
          have h2 := ih2 (fun z hz => hl z (List.mem_cons_of_mem _ hz))
          rw [List.flatMap_cons, List.length_append]
          simp only [msize]
          omega
      exact h x.l ih
    have h1 : (if hasName x.op = true then [x.name] else [] : List ByteArray).length ≤ 1 := by cases hasName x.op <;> simp
    rw [List.length_append]
    omega
theorem free_len (x : X) : (freeX x).length ≤ sizeX x := by
  have := addAll_le (namesX x) []
  have := namesN_le x
  unfold freeX
  simp at *
  omega
/-- With those alone that stand in it. -/
theorem evalW_own (env : List (ByteArray × Int)) (x : X) : evalW (env.filter fun p => yes (p.1 ∈ freeX x)) x = evalW env x := by
  unfold evalW
  by_cases hc : checkX x = 0
  · rw [if_pos hc, if_pos hc]
    refine eval_congr x fun s hs => ?_
    exact lookE_filter env (fun s => yes (s ∈ freeX x)) s (yes_iff.2 (mem_free.2 hs))
  · rw [if_neg hc, if_neg hc]
/-- With one more, that does not stand in it. -/
theorem evalW_more (env : List (ByteArray × Int)) (x : X) (s : ByteArray) (z : Int) (h : ¬ s ∈ freeX x) : evalW (env ++ [(s, z)]) x = evalW env x := by
  unfold evalW
  by_cases hc : checkX x = 0
  · rw [if_pos hc, if_pos hc]
    refine eval_congr x fun t ht => ?_
    rw [lookE_snoc, if_neg (fun e => h (by rw [show s = t from e]; exact mem_free.2 ht))]
  · rw [if_neg hc, if_neg hc]
theorem own_step {env : List (ByteArray × Int)} {P : ByteArray × Int → Bool} {k : Nat} (h : k < env.length) : (env.take (k + 1)).filter P = (env.take k).filter P ++ (if P env[k] then [env[k]] else []) := by
  rw [List.take_succ_eq_append_getElem h, List.filter_append]
  by_cases hp : P env[k] = true
  · rw [if_pos hp]; simp [hp]
  · rw [if_neg hp]; simp [hp]
theorem infoNm : (Tryd.prog.info? 57).map (fun i => (i.zero, i.size, i.bytes)) = some (some (.agg #[.string ⟨#[]⟩, .int .i64 0]), 2, 24) := by kernel_rfl
def FreeC (P : Program) (args : Array Value) (W : World) (l : List ByteArray) : Prop := ∀ w, Ext W w → Calls P 34 args w fun x w' => ∃ a cap, x = .returned (.slice a l.length cap) ∧ SStr w' l (.slice a l.length cap) ∧ Ext w w'

set_option maxRecDepth 20000 in
set_option maxHeartbeats 8000000 in
theorem lawKFree_any (B : Nat) (env : List (ByteArray × Int)) (x : X) (s : ByteArray) (z : Int) (w : World) (ve : Value) (cs : List Value) (hT : Tabs w) (hR : RX w B x cs) (hS : Sl RNm w B 2 env ve) (hB : B ≤ w.heap.size) (hsz : sizeX x ≤ 100000000) (hv : VX x) (hln : env.length ≤ 100000000) :
    Calls Tryd.prog 11 #[.agg cs.toArray, ve, .string s, .int .i64 z] w fun e w' => e = .returned (.bool true) ∧ Ext w w' := by
  have HR := hide hR
  have HT := hide hT
  have HS := hide hS
  obtain ⟨x5, rfl, hS5⟩ := RX_iff.1 hR
  have o5 := hS5.oneCell
  have oe := hS.oneCell
  have hsz9 : sizeX x ≤ 1000000000 := by omega
  have hln9 : env.length ≤ 1000000000 := by omega
  obtain ⟨ea, ecap, rfl, hecap, hrow⟩ := hS
  obtain ⟨W1, e1, hV1, hx1, hs1, c0, c1, c2, c3, c4, c5⟩ := boxL6 w (.int .i64 x.op) (.string x.name) (.int .i64 x.n) (.int .i64 x.w) (.int .u64 x.v) x5 25
  have hB1 : B ≤ W1.heap.size := Nat.le_trans hB hx1.size
  have GL := hide (show ECalls Tryd.prog 12 #[] W1 (.bool true) from fun w' hw => live6_any w' (HT.out.ext (hx1.trans hw)))
  have GF := hide (show ECalls Tryd.prog 13 #[.agg #[.int .i64 x.op, .string x.name, .int .i64 x.n, .int .i64 x.w, .int .u64 x.v, x5], .slice ea env.length ecap] W1 (.bool (yes (fewE x env.length))) from fun w' hw => fewE_any B env x w' _ _ (HR.out.ext (hx1.trans hw) hB) (HS.out.extN (hx1.trans hw) hB) (Nat.le_trans hB1 hw.size) hsz9 hln9)
  have FR := hide (show FreeC Tryd.prog #[.agg #[.int .i64 x.op, .string x.name, .int .i64 x.n, .int .i64 x.w, .int .u64 x.v, x5]] W1 (freeX x) from fun w' hw => (Free_any B x w' _ (HR.out.ext (hx1.trans hw) hB) (Nat.le_trans hB1 hw.size) hsz).mono fun _ _ ⟨v, h1, h2, h3⟩ => by
    obtain ⟨a, cap, rfl, hc, hr⟩ := SStr.of_row h2
    exact ⟨a, cap, h1, ⟨a, cap, rfl, hc, hr⟩, h3⟩)
  have EV := hide (show ∀ (env' : List (ByteArray × Int)) (v' : Value) (w' : World) (r : Int × Int), Ext W1 w' → Sl RNm w' w'.heap.size 2 env' v' → env'.length ≤ 1000000000 → evalW env' x = r → Calls Tryd.prog 14 #[.agg #[.int .i64 x.op, .string x.name, .int .i64 x.n, .int .i64 x.w, .int .u64 x.v, x5], v'] w' fun e w'' => e = .returned (.tuple #[.int .i64 r.1, .int .i64 r.2]) ∧ Ext w' w'' from
    fun env' v' w' r hw hs hl he => he ▸ kEval_any w'.heap.size env' x w' v' _ (HT.out.ext (hx1.trans hw)) ((HR.out.ext (hx1.trans hw) hB).more (Nat.le_trans hB1 hw.size)) hs (Nat.le_refl _) hsz9 hv hl)
  have SE := hide (show ∀ w', Ext W1 w' → Sl RNm w' w'.heap.size 2 env (.slice ea env.length ecap) from fun w' hw => (HS.out.extN (hx1.trans hw) hB).keep (fun p hp => rfl) (Nat.le_trans hB1 hw.size) (fun _ _ _ h => h))
  have FL := hide (show ∀ w', Ext W1 w' → Flat w' 2 ea env.length (rowN env) from fun w' hw => (rowN_flat hrow).ext (hx1.trans hw))
  have HROW := hide hrow
  have hfl := free_len x
  have hlf : (freeX x).length ≤ 100000000 := by omega
  have EO := evalW_own env x
  have EM := fun h => evalW_more env x s z h
  have Q01 := hide hx1
  clear hT hR hS5 hsz HR HT HS hv hB1 hs1 hfl hrow hecap hln9 hsz9
  cases bf : yes (fewE x env.length) with
  | false =>
    rw [bf] at GF
    clear EO EM FR EV SE FL HROW hx1 hlf hln
    go_enter Tryd.func11, Tryd.ntmps11
    go_wp2_with (first
      | (go_at_call 12; refine (GL.out.at_ _).mono ?_; rintro _ _ ⟨rfl, e, rfl⟩)
      | (go_at_call 13; refine (GF.out.at_ _).mono ?_; rintro _ _ ⟨rfl, e, rfl⟩))
    go_ret
    exact ⟨rfl, Q01.out.trans (Later.ext _)⟩
  | true =>
  rw [bf] at GF
  clear bf
  obtain ⟨r, hr⟩ : ∃ r, evalW env x = r := ⟨_, rfl⟩
  rw [hr] at EO EM
  obtain ⟨fx, hfx⟩ : ∃ fx, freeX x = fx := ⟨_, rfl⟩
  rw [hfx] at FR hlf EO EM
  obtain ⟨r1, r2⟩ := r
  have HR := hide hr
  clear hr hfx
  obtain ⟨ti, hti, htz, hts, htb⟩ := info_parts infoNm
  go_enter Tryd.func11, Tryd.ntmps11
  go_wp2_with (first
    | (go_at_call 12; refine (GL.out.at_ _).mono ?_; rintro _ _ ⟨rfl, e, rfl⟩)
    | (go_at_call 13; refine (GF.out.at_ _).mono ?_; rintro _ _ ⟨rfl, e, rfl⟩))
  refine (FR.out _ (Later.ext _)).mono ?_
  rintro _ w3 ⟨ax, capx, rfl, hss, hx3⟩
  obtain ⟨e3, rfl⟩ := Later.mk_ex ((Later.ext _).trans hx3)
  have HSS := hide hss
  clear hss hx3 GL GF FR
  go_wp2_with fail
  go_loopw [11, 12] (fun v i wr => ∃ k : Nat, k ≤ env.length ∧ i = .int .i64 k ∧ wr.ownsRow e3.w.heap.size 57 2 v ((env.take k).filter fun p => yes (p.1 ∈ fx)).length (rowN ((env.take k).filter fun p => yes (p.1 ∈ fx))) ∧ Ext e3.w wr) (fun _ i _ => env.length - (intOf i).toNat)
  case atStart => exact ⟨0, Nat.zero_le _, rfl, ⟨by simp [rowN], .inl ⟨rfl, by simp⟩⟩, Ext.refl _⟩
  case round =>
    obtain ⟨k, hk, rfl, hown, hxr⟩ := hrel
    by_cases hlt : k < env.length
    · obtain ⟨b, o, v0, v1, rfl, hbB, hRk, hC, o0, o1⟩ := HROW.out.open2 hlt
      simp only [RNm, List.cons.injEq, and_true] at hRk
      obtain ⟨rfl, rfl⟩ := hRk
      obtain ⟨d0, d1⟩ := (hC.ext ((hx1.trans e3.ext).trans hxr)).get2
      have CA := hide (refAmong_any fx env[k].1 wr (.slice ax fx.length capx) (HSS.out.ext hxr) (by omega))
      have hst := own_step (env := env) (P := fun p => yes (p.1 ∈ fx)) hlt
      have hll : ((env.take k).filter fun p => yes (p.1 ∈ fx)).length ≤ 100000000 := Nat.le_trans (List.length_filter_le _ _) (by rw [List.length_take]; omega)
      have HALL := hide (And.intro hown hxr)
      clear hC hown hxr
      by_cases hin : env[k].1 ∈ fx
      · rw [yes_iff.2 hin] at CA
        rw [if_pos (yes_iff.2 hin)] at hst
        have HST := hide hst
        have HLL := hide hll
        clear hin hst hll EO EM EV SE FL
        generalize env[k] = q at *
        obtain ⟨qn, qv⟩ := q
        simp only at d0 d1 CA
        generalize (env.take k).filter (fun p => yes (p.1 ∈ fx)) = L at *
        go_wp2_with (first
          | (go_at_call 35; refine CA.out.mono ?_; rintro _ wr ⟨rfl, rfl⟩)
          | (at_builtin; refine wpList_append_flat rfl _ _ 26 rfl e3.w.heap.size 57 ti _ 2 24 Tryd.underlying26 hti htz hts htb rfl (by decide) (by decide) u11 L.length (rowN L) rfl (HALL.out.1.alloc _) (some ⟨wr.heap.size, 0, none⟩) 1 1 [.string qn, .int .i64 qv] rfl ⟨rfl, (by intro u hu; simp only [List.mem_cons, List.not_mem_nil, or_false] at hu; rcases hu with rfl | rfl <;> rfl), (fun _ => ⟨_, _, rfl, (Blk.new wr _ [.string qn, .int .i64 qv]).cells⟩)⟩ (by have := HLL.out; omega) (by omega) (by have := HALL.out.2.size; simp; omega) ?_; intro v' w' hown' hg' hf'
             have hxw := (HALL.out.2.alloc _).grown hg' (fun r hr => (HALL.out.1.lt r hr).1)
             have HNEW := hide (And.intro hown' hxw)
             clear hown' hxw hf' hg'))
        go_roundw
        case rel => exact ⟨k + 1, by omega, by go_num, by rw [HST.out, List.length_append, rowN_append]; exact HNEW.out.1, HNEW.out.2⟩
        case measure => simp [intOf]; omega
      · rw [yes_no.2 hin] at CA
        rw [if_neg (by rw [yes_no.2 hin]; decide), List.append_nil] at hst
        have HST := hide hst
        clear hin hst hll EO EM EV SE FL
        generalize env[k] = q at *
        obtain ⟨qn, qv⟩ := q
        simp only at d0 d1 CA
        go_wp2_with (go_at_call 35; refine CA.out.mono ?_; rintro _ wr ⟨rfl, rfl⟩)
        go_roundw
        case rel => exact ⟨k + 1, by omega, by go_num, by rw [HST.out]; exact HALL.out.1, HALL.out.2⟩
        case measure => simp [intOf]; omega
    · have hkl : k = env.length := by omega
      subst hkl
      rw [List.take_length] at hown
      have hll : (env.filter fun p => yes (p.1 ∈ fx)).length ≤ 1000000000 := Nat.le_trans (List.length_filter_le _ _) (by omega)
      have hso : Sl RNm wr wr.heap.size 2 (env.filter fun p => yes (p.1 ∈ fx)) u11 := Sl.of_own (by decide) hown (one_rowN _) (rowN_part _)
      obtain ⟨oa, oc, rfl⟩ := own_formN hown
      obtain ⟨er, rfl⟩ := Later.mk_ex (e3.ext.trans hxr)
      have HSO := hide hso
      have hss := HSS.out.ext hxr
      have CA := hide (fun w' (hw : Ext er.w w') => refAmong_any fx s w' (.slice ax fx.length capx) (hss.ext hw) (by omega))
      clear hown hso hss hxr HSS HROW hx1
      generalize (env.filter fun p => yes (p.1 ∈ fx)) = L at *
      obtain ⟨Ws, hWs⟩ : ∃ Ws, Ws = er.w.alloc (.cells #[] 57) := ⟨_, rfl⟩
      have hxs : Ext er.w Ws := by rw [hWs]; exact Ext.new _ _
      have hszs : er.w.heap.size + 1 = Ws.heap.size := by rw [hWs]; simp
      have howns : Ws.ownsRow er.w.heap.size 57 2 (.slice (some ⟨er.w.heap.size, 0, none⟩) 0 0) 0 [] := by
        refine ⟨by simp, .inr ⟨er.w.heap.size, 0, #[], rfl, Nat.le_refl _, ?_, Nat.le_refl _, by decide, by simp, by simp⟩⟩
        rw [hWs]
        exact Blk.new _ _ []
      have HFL := hide (FL.out Ws (er.ext.trans hxs))
      have HOWN := hide howns
      have HXS := hide hxs
      have HSZ := hide hszs
      have hVs := hWs.symm
      clear hWs hxs howns hszs FL
      go_wp2_with (at_builtin; refine wpList_append_flat rfl _ _ 26 rfl er.w.heap.size 57 ti _ 2 24 Tryd.underlying26 hti htz hts htb rfl (by decide) (by decide) (.slice (some ⟨er.w.heap.size, 0, none⟩) 0 0) 0 [] rfl HOWN.out ea env.length ecap (rowN env) rfl HFL.out (by omega) (by omega) (by have := HXS.out.size; omega) ?_; intro v4 w4 hown4 hg4 hf4
                   simp only [Nat.zero_add, List.nil_append] at hown4
                   have hxr4 : Ext er.w w4 := HXS.out.grown hg4 (by intro r hr; simp [Value.ownBlock] at hr; omega)
                   obtain ⟨A4, c4', rfl⟩ := own_formN hown4
                   obtain ⟨e4, he4⟩ := Later.mk_ex (er.ext.trans hxr4)
                   subst he4
                   have HO4 := hide hown4
                   have HX4 := hide hxr4
                   clear hown4 hg4 hf4 hxr4)
      by_cases hin : s ∈ fx
      · have CB := hide ((CA.out e4.w HX4.out).mono fun _ _ h => h)
        rw [yes_iff.2 hin] at CB
        clear CA hin EM
        go_wp2_with (go_at_call 35; refine CB.out.mono ?_; rintro _ wr ⟨rfl, rfl⟩)
        have hso := HSO.out
        have K1 := hide (show ECalls Tryd.prog 14 #[.agg #[.int .i64 x.op, .string x.name, .int .i64 x.n, .int .i64 x.w, .int .u64 x.v, x5], .slice ea env.length ecap] e4.w (.tuple #[.int .i64 r1, .int .i64 r2]) from fun w' hw => EV.out env _ w' (r1, r2) (e4.ext.trans hw) (SE.out w' (e4.ext.trans hw)) (by omega) HR.out)
        have K2 := hide (show ECalls Tryd.prog 14 #[.agg #[.int .i64 x.op, .string x.name, .int .i64 x.n, .int .i64 x.w, .int .u64 x.v, x5], .slice oa L.length oc] e4.w (.tuple #[.int .i64 r1, .int .i64 r2]) from fun w' hw => EV.out L _ w' (r1, r2) (e4.ext.trans hw) ((hso.extN (HX4.out.trans hw) (Nat.le_refl _)).keep (fun p hp => rfl) (HX4.out.trans hw).size (fun _ _ _ h => h)) hll EO)
        have hsm : Sl RNm e4.w e4.w.heap.size 2 (env) (.slice A4 env.length c4') := Sl.of_own (by decide) (by simpa [rowN_append, rowN] using HO4.out) (one_rowN _) (rowN_part _)
        have K3 := hide (show ECalls Tryd.prog 14 #[.agg #[.int .i64 x.op, .string x.name, .int .i64 x.n, .int .i64 x.w, .int .u64 x.v, x5], .slice A4 env.length c4'] e4.w (.tuple #[.int .i64 r1, .int .i64 r2]) from fun w' hw => EV.out (env) _ w' (r1, r2) (e4.ext.trans hw) ((hsm.extN hw (Nat.le_refl _)).keep (fun p hp => rfl) hw.size (fun _ _ _ h => h)) (by first | omega | (simp; omega)) HR.out)
        obtain ⟨WE, hWE⟩ : ∃ WE, WE = e4.w := ⟨_, rfl⟩
        rw [← hWE] at K1 K2 K3
        obtain ⟨ee, hee⟩ := Later.mk_ex (W := WE) (w := e4.w) (by rw [hWE]; exact Ext.refl _)
        have q1e : Ext W1 WE := by rw [hWE]; exact e4.ext
        have c0 := cellL c0 q1e
        have c1 := cellL c1 q1e
        have c2 := cellL c2 q1e
        have c3 := cellL c3 q1e
        have c4 := cellL c4 q1e
        have c5 := cellL c5 q1e
        have Q0e := hide (Q01.out.trans q1e)
        clear hso hsm EV SE HSO HO4 EO hWE
        generalize e4.w = wE at *
        subst hee
        go_wp2_with (first
          | (go_at_call 14; with_reducible refine (K1.out.at_ _).mono ?_; rintro _ _ ⟨rfl, e', rfl⟩)
          | (go_at_call 14; with_reducible refine (K2.out.at_ _).mono ?_; rintro _ _ ⟨rfl, e', rfl⟩)
          | (go_at_call 14; with_reducible refine (K3.out.at_ _).mono ?_; rintro _ _ ⟨rfl, e', rfl⟩))
        go_ret
        exact ⟨rfl, Q0e.out.trans (Later.ext _)⟩
      · have CB := hide ((CA.out e4.w HX4.out).mono fun _ _ h => h)
        rw [yes_no.2 hin] at CB
        have em := EM hin
        clear CA hin EM
        go_wp2_with (first
          | (go_at_call 35; refine CB.out.mono ?_; rintro _ wr ⟨rfl, rfl⟩)
          | (at_builtin; refine wpList_append_flat rfl _ _ 26 rfl er.w.heap.size 57 ti _ 2 24 Tryd.underlying26 hti htz hts htb rfl (by decide) (by decide) (.slice A4 env.length c4') env.length (rowN env) rfl (HO4.out.alloc _) (some ⟨e4.w.heap.size, 0, none⟩) 1 1 [.string s, .int .i64 z] rfl ⟨rfl, (by intro u hu; simp only [List.mem_cons, List.not_mem_nil, or_false] at hu; rcases hu with rfl | rfl <;> rfl), (fun _ => ⟨_, _, rfl, (Blk.new e4.w _ [.string s, .int .i64 z]).cells⟩)⟩ (by omega) (by omega) (by have := HX4.out.size; simp; omega) ?_; intro v5 w5 hown5 hg5 hf5
             have hxr5 : Ext er.w w5 := (HX4.out.alloc _).grown hg5 (fun r hr => (HO4.out.lt r hr).1)
             obtain ⟨A5, c5', rfl⟩ := own_formN hown5
             obtain ⟨e5, he5⟩ := Later.mk_ex (er.ext.trans hxr5)
             subst he5
             have HO5 := hide hown5
             have HX5 := hide hxr5
             clear hown5 hg5 hf5 hxr5))
        have hso := HSO.out
        have K1 := hide (show ECalls Tryd.prog 14 #[.agg #[.int .i64 x.op, .string x.name, .int .i64 x.n, .int .i64 x.w, .int .u64 x.v, x5], .slice ea env.length ecap] e5.w (.tuple #[.int .i64 r1, .int .i64 r2]) from fun w' hw => EV.out env _ w' (r1, r2) (e5.ext.trans hw) (SE.out w' (e5.ext.trans hw)) (by omega) HR.out)
        have K2 := hide (show ECalls Tryd.prog 14 #[.agg #[.int .i64 x.op, .string x.name, .int .i64 x.n, .int .i64 x.w, .int .u64 x.v, x5], .slice oa L.length oc] e5.w (.tuple #[.int .i64 r1, .int .i64 r2]) from fun w' hw => EV.out L _ w' (r1, r2) (e5.ext.trans hw) ((hso.extN (HX5.out.trans hw) (Nat.le_refl _)).keep (fun p hp => rfl) (HX5.out.trans hw).size (fun _ _ _ h => h)) hll EO)
        have hsm : Sl RNm e5.w e5.w.heap.size 2 (env ++ [(s, z)]) (.slice A5 (env.length + 1) c5') := Sl.of_own (by decide) (by simpa [rowN_append, rowN] using HO5.out) (one_rowN _) (rowN_part _)
        have K3 := hide (show ECalls Tryd.prog 14 #[.agg #[.int .i64 x.op, .string x.name, .int .i64 x.n, .int .i64 x.w, .int .u64 x.v, x5], .slice A5 (env.length + 1) c5'] e5.w (.tuple #[.int .i64 r1, .int .i64 r2]) from fun w' hw => EV.out (env ++ [(s, z)]) _ w' (r1, r2) (e5.ext.trans hw) ((hsm.extN hw (Nat.le_refl _)).keep (fun p hp => rfl) hw.size (fun _ _ _ h => h)) (by simp; omega) em)
        obtain ⟨WE, hWE⟩ : ∃ WE, WE = e5.w := ⟨_, rfl⟩
        rw [← hWE] at K1 K2 K3
        obtain ⟨ee, hee⟩ := Later.mk_ex (W := WE) (w := e5.w) (by rw [hWE]; exact Ext.refl _)
        have q1e : Ext W1 WE := by rw [hWE]; exact e5.ext
        have c0 := cellL c0 q1e
        have c1 := cellL c1 q1e
        have c2 := cellL c2 q1e
        have c3 := cellL c3 q1e
        have c4 := cellL c4 q1e
        have c5 := cellL c5 q1e
        have Q0e := hide (Q01.out.trans q1e)
        clear hso hsm EV SE HSO HO5 EO hWE
        generalize e5.w = wE at *
        subst hee
        go_wp2_with (first
          | (go_at_call 14; with_reducible refine (K1.out.at_ _).mono ?_; rintro _ _ ⟨rfl, e', rfl⟩)
          | (go_at_call 14; with_reducible refine (K2.out.at_ _).mono ?_; rintro _ _ ⟨rfl, e', rfl⟩)
          | (go_at_call 14; with_reducible refine (K3.out.at_ _).mono ?_; rintro _ _ ⟨rfl, e', rfl⟩))
        go_ret
        exact ⟨rfl, Q0e.out.trans (Later.ext _)⟩

end Go.Proofs.YtonbgnaopkopoaaDoor
