/-
  THE LAW AstWhole: WHAT IT COMPUTES.
-/
import Derived.Test.YtmpoheemnjpoeaaDoorLivePk
import Derived.Test.YtmpoheemnjpoeaaDoorLawPPk
namespace Go.Proofs.YtmpoheemnjpoeaaDoor
open Go Go.RowKit
set_option linter.all false
set_option linter.unusedVariables false
set_option linter.unusedSimpArgs false
set_option linter.unusedVariables false
set_option linter.unusedSimpArgs false
attribute [local go_sem] run_store_one

set_option maxRecDepth 20000 in
set_option maxHeartbeats 20000000 in
theorem lawWhole_any (B : Nat) (x : X) (s : S) (w : World) (cx cs : List Value) (hT : Tabs w) (hB : B ≤ w.heap.size) (hx : RX w B x cx) (hs : RS w B s cs) (zx : sizeX x ≤ 1000000000) (zs : sizeS s ≤ 1000000000) (Vx : VX x) (Vs : VS s) :
    Calls Tryd.prog 5 #[.agg cx.toArray, .agg cs.toArray] w fun e w' => e = .returned (.bool true) ∧ Ext w w' := by
  have HX := hide hx
  have HS := hide hs
  have HTab := hide hT
  obtain ⟨x5, rfl, hx5⟩ := RX_iff.1 hx
  obtain ⟨s2, s3, rfl, hs2, hs3⟩ := RS_iff.1 hs
  obtain ⟨ax, capx, rfl, hcapx, hrowx⟩ := hx5
  obtain ⟨a2, cap2, rfl, hcap2, hrow2⟩ := hs2
  obtain ⟨a3, cap3, rfl, hcap3, hrow3⟩ := hs3
  have hlx := length_le_msize sizeX x.l sizeX_pos
  have hl2 := length_le_msize sizeX s.x sizeX_pos
  have hl3 := length_le_msize sizeS s.l sizeS_pos
  have hsx := sizeX_eq x
  have hss := sizeS_eq s
  have hnx : x.l.length ≤ 1000000000 := by omega
  have hn2 : s.x.length ≤ 1000000000 := by omega
  have hn3 : s.l.length ≤ 1000000000 := by omega
  have zxl := fun y (hy : y ∈ x.l) => (show sizeX y ≤ 1000000000 by have := msize_mem sizeX x.l y hy; omega)
  have zsx := fun y (hy : y ∈ s.x) => (show sizeX y ≤ 1000000000 by have := msize_mem sizeX s.x y hy; omega)
  have zsl := fun y (hy : y ∈ s.l) => (show sizeS y ≤ 1000000000 by have := msize_mem sizeS s.l y hy; omega)
  clear hx hs hT hlx hl2 hl3 hsx hss
  obtain ⟨W1, e1, hV1, hx1, -, c0, c1, c2, c3, c4, c5⟩ := boxL6 w (.int .i64 x.op) (.string x.name) (.int .i64 x.n) (.int .i64 x.w) (.int .u64 x.v) (.slice ax x.l.length capx) 25
  obtain ⟨W2, e2, hV2, hx2, -, i0, i1, i2, i3⟩ := boxL4 e1.w (.int .i64 s.op) (.string s.name) (.slice a2 s.x.length cap2) (.slice a3 s.l.length cap3) 28
  have q12 := e1.ext.trans hx2
  have q02 := hx1.trans q12
  have c0 := cellL c0 q12
  have c1 := cellL c1 q12
  have c2 := cellL c2 q12
  have c3 := cellL c3 q12
  have c4 := cellL c4 q12
  have c5 := cellL c5 q12
  have hB2 : B ≤ W2.heap.size := Nat.le_trans hB q02.size
  have GL := hide (show ECalls Tryd.prog 11 #[] W2 (.bool true) from fun w' hw => live_any w' (HTab.out.ext (q02.trans hw)))
  have GX := hide (show ECalls Tryd.prog 12 #[.agg #[.int .i64 x.op, .string x.name, .int .i64 x.n, .int .i64 x.w, .int .u64 x.v, .slice ax x.l.length capx]] W2 (.bool (yes (fewP (sizeX x) (deepX x)))) from fun w' hw => fewX_any B x w' _ (HX.out.ext (q02.trans hw) hB) (Nat.le_trans hB2 hw.size) zx)
  have GS := hide (show ECalls Tryd.prog 13 #[.agg #[.int .i64 s.op, .string s.name, .slice a2 s.x.length cap2, .slice a3 s.l.length cap3]] W2 (.bool (yes (fewP (sizeS s) (deepS s)))) from fun w' hw => fewS_any B s w' _ (HS.out.ext (q02.trans hw) hB) (Nat.le_trans hB2 hw.size) zs)
  have KX := hide (show ECalls Tryd.prog 14 #[.agg #[.int .i64 x.op, .string x.name, .int .i64 x.n, .int .i64 x.w, .int .u64 x.v, .slice ax x.l.length capx]] W2 (.int .i64 (checkX x)) from fun w' hw => CheckX_any B x w' _ (HTab.out.ext (q02.trans hw)) (HX.out.ext (q02.trans hw) hB) (Nat.le_trans hB2 hw.size) zx Vx)
  have KS := hide (show ECalls Tryd.prog 16 #[.agg #[.int .i64 s.op, .string s.name, .slice a2 s.x.length cap2, .slice a3 s.l.length cap3]] W2 (.int .i64 (checkS s)) from fun w' hw => CheckS_any B s w' _ (HTab.out.ext (q02.trans hw)) (HS.out.ext (q02.trans hw) hB) (Nat.le_trans hB2 hw.size) zs Vs)
  -- an expression that lies in memory, and a statement
  have EX := hide (show ∀ y cs, checkX y = 0 → RX w B y cs → sizeX y ≤ 1000000000 → VX y → ECalls Tryd.prog 14 #[.agg cs.toArray] W2 (.int .i64 0) from
    fun y cs hc hr hz hv w' hw => hc ▸ CheckX_any B y w' cs (HTab.out.ext (q02.trans hw)) (hr.ext (q02.trans hw) hB) (Nat.le_trans hB2 hw.size) hz hv)
  have ES := hide (show ∀ y cs, checkS y = 0 → RS w B y cs → sizeS y ≤ 1000000000 → VS y → ECalls Tryd.prog 16 #[.agg cs.toArray] W2 (.int .i64 0) from
    fun y cs hc hr hz hv w' hw => hc ▸ CheckS_any B y w' cs (HTab.out.ext (q02.trans hw)) (hr.ext (q02.trans hw) hB) (Nat.le_trans hB2 hw.size) hz hv)
  have EN := hide (show checkX (xNm x.name) = 0 → ECalls Tryd.prog 14 #[.agg #[.int .i64 2, .string x.name, .int .i64 0, .int .i64 0, .int .u64 0, .slice none 0 0]] W2 (.int .i64 0) from
    fun hc => ECalls.eq (v := .int .i64 (checkX (xNm x.name))) (fun w' hw => CheckX_any B (xNm x.name) w' (cNm x.name) (HTab.out.ext (q02.trans hw)) (rx_nm x.name) (Nat.le_trans hB2 hw.size) (by simp [xNm, sizeX_eq, X.l, msize]) (VX_iff.2 ⟨by simp [xNm, X.v], by simp [xNm, X.v], (VX_iff.1 Vx).2.2.1, fun y hy => by cases hy⟩)) (by rw [hc]))
  have EM := hide (show ECalls Tryd.prog 28 #[.string x.name] W2 (.agg #[.int .i64 2, .string x.name, .int .i64 0, .int .i64 0, .int .u64 0, .slice none 0 0]) from fun w' hw => lawname_any x.name w')
  have Q02 := hide q02
  have HVx := hide ((VX_iff.1 Vx).2.2.2)
  have HVsx := hide ((VS_iff.1 Vs).2.1)
  have HVsl := hide ((VS_iff.1 Vs).2.2)
  have PX := hide (part_checkX (x := x))
  have PN := hide (name_checkX (x := x))
  have PE := hide (exprs_checkS (s := s))
  have PS := hide (stmts_checkS (s := s))
  have ZX := hide zxl
  have ZE := hide zsx
  have ZS := hide zsl
  have RXx := hide hrowx
  have RX2 := hide hrow2
  have RS3 := hide hrow3
  clear HX HS HTab hx1 hx2 q12 q02 zx zs Vx Vs zxl zsx zsl hrowx hrow2 hrow3 hcapx hcap2 hcap3
  generalize yes (fewP (sizeX x) (deepX x)) = b1 at *
  generalize yes (fewP (sizeS s) (deepS s)) = b2 at *
  by_cases hfew : b1 = true ∧ b2 = true
  case neg =>
    go_enter Tryd.func5, Tryd.ntmps5
    go_wp2_with (first
      | (go_at_call 11; refine (GL.out.at_ _).mono ?_; rintro _ _ ⟨rfl, e, rfl⟩)
      | (go_at_call 12; refine (GX.out.at_ _).mono ?_; rintro _ _ ⟨rfl, e, rfl⟩)
      | (go_at_call 13; refine (GS.out.at_ _).mono ?_; rintro _ _ ⟨rfl, e, rfl⟩))
    all_goals first
      | (exfalso; clear GL GX GS; simp_all; done)
      | (go_ret
         exact ⟨rfl, Q02.out.trans (Later.ext _)⟩)
  case pos =>
    obtain ⟨rfl, rfl⟩ := hfew
    by_cases hts : checkS s = 0
    · rw [hts] at KS
      by_cases htx : checkX x = 0
      · by_cases hnm : x.name.toList = []
        · rw [htx] at KX
          go_enter Tryd.func5, Tryd.ntmps5
          go_wp2_with (first
            | (go_at_call 11; refine (GL.out.at_ _).mono ?_; rintro _ _ ⟨rfl, e, rfl⟩)
            | (go_at_call 12; refine (GX.out.at_ _).mono ?_; rintro _ _ ⟨rfl, e, rfl⟩)
            | (go_at_call 13; refine (GS.out.at_ _).mono ?_; rintro _ _ ⟨rfl, e, rfl⟩)
            | (go_at_call 14; with_reducible refine (KX.out.at_ _).mono ?_; rintro _ _ ⟨rfl, e, rfl⟩)
            | (go_at_call 16; with_reducible refine (KS.out.at_ _).mono ?_; rintro _ _ ⟨rfl, e, rfl⟩))
          go_loopw [6] (fun i wr => ∃ k : Nat, k ≤ x.l.length ∧ i = .int .i64 k ∧ ∃ e : Later W2, wr = e.w) (fun i _ => x.l.length - (intOf i).toNat)
          case atStart => exact ⟨0, Nat.zero_le _, rfl, _, rfl⟩
          case round =>
            obtain ⟨k, hk, rfl, e, rfl⟩ := hrel
            by_cases hlt : k < x.l.length
            · obtain ⟨b, o, v0, v1, v2, v3, v4, v5, hax, hbB, hR, hC, o0, o1, o2, o3, o4, o5⟩ := RXx.out.open6 hlt
              have KK := hide (EX.out _ _ (PX.out htx _ (List.getElem_mem hlt)) hR (ZX.out _ (List.getElem_mem hlt)) (HVx.out _ (List.getElem_mem hlt)))
              obtain ⟨d0, d1, d2, d3, d4, d5⟩ := (hC.ext Q02.out).later6
              clear hR hC
              subst hax
              go_wp2_with (go_at_call 14; with_reducible refine (KK.out.at_ _).mono ?_; rintro _ _ ⟨rfl, e, rfl⟩)
              go_roundw
              case rel => exact ⟨k + 1, by omega, by go_num, _, rfl⟩
              case measure => simp [intOf]; omega
            · have : k = x.l.length := by omega
              subst this
              go_wp2_with (go_at_call 16; with_reducible refine (KS.out.at_ _).mono ?_; rintro _ _ ⟨rfl, e, rfl⟩)
              go_loopw [7] (fun i wr => ∃ k : Nat, k ≤ s.x.length ∧ i = .int .i64 k ∧ ∃ e : Later W2, wr = e.w) (fun i _ => s.x.length - (intOf i).toNat)
              case atStart => exact ⟨0, Nat.zero_le _, rfl, _, rfl⟩
              case round =>
                obtain ⟨k, hk, rfl, e, rfl⟩ := hrel
                by_cases hlt : k < s.x.length
                · obtain ⟨b, o, v0, v1, v2, v3, v4, v5, hax, hbB, hR, hC, o0, o1, o2, o3, o4, o5⟩ := RX2.out.open6 hlt
                  have KK := hide (EX.out _ _ (PE.out hts _ (List.getElem_mem hlt)) hR (ZE.out _ (List.getElem_mem hlt)) (HVsx.out _ (List.getElem_mem hlt)))
                  obtain ⟨d0, d1, d2, d3, d4, d5⟩ := (hC.ext Q02.out).later6
                  clear hR hC
                  subst hax
                  go_wp2_with (go_at_call 14; with_reducible refine (KK.out.at_ _).mono ?_; rintro _ _ ⟨rfl, e, rfl⟩)
                  go_roundw
                  case rel => exact ⟨k + 1, by omega, by go_num, _, rfl⟩
                  case measure => simp [intOf]; omega
                · have : k = s.x.length := by omega
                  subst this
                  go_wp2_with fail
                  go_loopw [8] (fun i wr => ∃ k : Nat, k ≤ s.l.length ∧ i = .int .i64 k ∧ ∃ e : Later W2, wr = e.w) (fun i _ => s.l.length - (intOf i).toNat)
                  case atStart => exact ⟨0, Nat.zero_le _, rfl, _, rfl⟩
                  case round =>
                    obtain ⟨k, hk, rfl, e, rfl⟩ := hrel
                    by_cases hlt : k < s.l.length
                    · obtain ⟨b, o, v0, v1, v2, v3, hax, hbB, hR, hC, o0, o1, o2, o3⟩ := RS3.out.open4 hlt
                      obtain ⟨d0, d1, d2, d3⟩ := (hC.ext Q02.out).later4
                      obtain ⟨u2, u3, hcs, hS2, hS3⟩ := RS_iff.1 hR
                      simp only [List.cons.injEq, and_true] at hcs
                      obtain ⟨rfl, rfl, rfl, rfl⟩ := hcs
                      obtain ⟨ay, capy, rfl, -, -⟩ := id hS3
                      obtain ⟨az, capz, rfl, -, -⟩ := id hS2
                      have hp := PS.out hts _ (List.getElem_mem hlt)
                      have hz := ZS.out _ (List.getElem_mem hlt)
                      have hv := HVsl.out _ (List.getElem_mem hlt)
                      have K4 := hide (fun h4 => ES.out (armB s.l[k]) [.int .i64 5, .string ⟨#[]⟩, .slice none 0 0, (.slice ay s.l[k].l.length capy)] (hp.2 h4) (RS_iff.2 ⟨_, _, rfl, Sl.nil, hS3⟩) (Nat.le_trans (armB_size _) hz) (armB_bounds hv))
                      have Kn := hide (fun h4 => ES.out (s.l[k]) _ (hp.1 h4) hR hz hv)
                      clear hR hC hp hz hv hS2 hS3
                      generalize s.l[k] = y at *
                      subst hax
                      obtain ⟨Wa, hWa, hxa, hba⟩ := box4 e.w (.int .i64 0) (.string ⟨#[]⟩) (.slice none 0 0) (.slice none 0 0) 28
                      have hga : W2.heap.size ≤ e.w.heap.size := e.ext.size
                      obtain ⟨ea, rfl⟩ := Later.mk_ex (e.ext.trans hxa)
                      have hVa := hWa.symm
                      obtain ⟨m0, m1, m2, m3⟩ := hba.get4
                      obtain ⟨n0, n1, n2, n3⟩ := hba.free4
                      obtain ⟨Wb, hWb⟩ : ∃ Wb, Wb = (((ea.w.setCell ⟨e.w.heap.size, 0, none⟩ (.int .i64 y.op)).setCell ⟨e.w.heap.size, 1, none⟩ (.string y.name)).setCell ⟨e.w.heap.size, 2, none⟩ (.slice az y.x.length capz)).setCell ⟨e.w.heap.size, 3, none⟩ (.slice ay y.l.length capy) := ⟨_, rfl⟩
                      have hbb := hba.store4 (.int .i64 y.op) (.string y.name) (.slice az y.x.length capz) (.slice ay y.l.length capy)
                      rw [← hWb] at hbb
                      obtain ⟨eb, rfl⟩ := Later.mk_ex (show Ext W2 Wb by rw [hWb]; exact (((ea.ext.setCell hga _).setCell hga _).setCell hga _).setCell hga _)
                      have hVb := hWb.symm
                      obtain ⟨s0, s1, s2, s3⟩ := hbb.get4
                      obtain ⟨t0, t1, t2, t3⟩ := hbb.free4
                      clear hWa hWb hba
                      by_cases h4 : y.op = 4
                      · have KK := hide (K4.out h4)
                        clear K4 Kn
                        generalize y.op = op at *
                        subst h4
                        obtain ⟨Wc, hWc⟩ : ∃ Wc, Wc = (((eb.w.setCell ⟨e.w.heap.size, 0, none⟩ (.int .i64 5)).setCell ⟨e.w.heap.size, 1, none⟩ (.string ⟨#[]⟩)).setCell ⟨e.w.heap.size, 2, none⟩ (.slice none 0 0)).setCell ⟨e.w.heap.size, 3, none⟩ (.slice ay y.l.length capy) := ⟨_, rfl⟩
                        have hbc := hbb.store4 (.int .i64 5) (.string ⟨#[]⟩) (.slice none 0 0) (.slice ay y.l.length capy)
                        rw [← hWc] at hbc
                        obtain ⟨ec, rfl⟩ := Later.mk_ex (show Ext W2 Wc by rw [hWc]; exact (((eb.ext.setCell hga _).setCell hga _).setCell hga _).setCell hga _)
                        have hVc := hWc.symm
                        obtain ⟨p0, p1, p2, p3⟩ := hbc.get4
                        clear hWc hbc hbb
                        go_wp2_with (go_at_call 16; with_reducible refine (KK.out.at_ _).mono ?_; rintro _ _ ⟨rfl, e, rfl⟩)
                        go_roundw
                        case rel => exact ⟨k + 1, by omega, by go_num, _, rfl⟩
                        case measure => simp [intOf]; omega
                      · have KK := hide (Kn.out h4)
                        have h4' : ((y.op : Int) == 4) = false := by simpa using h4
                        clear hbb
                        go_wp2_with (go_at_call 16; with_reducible refine (KK.out.at_ _).mono ?_; rintro _ _ ⟨rfl, e, rfl⟩)
                        go_roundw
                        case rel => exact ⟨k + 1, by omega, by go_num, _, rfl⟩
                        case measure => simp [intOf]; omega
                    · have : k = s.l.length := by omega
                      subst this
                      go_wp2_with fail
                      go_ret
                      exact ⟨rfl, Q02.out.trans (Later.ext _)⟩
        · have EN' := hide (EN.out (PN.out htx (size_ne hnm)))
          rw [htx] at KX
          go_enter Tryd.func5, Tryd.ntmps5
          go_wp2_with (first
            | (go_at_call 11; refine (GL.out.at_ _).mono ?_; rintro _ _ ⟨rfl, e, rfl⟩)
            | (go_at_call 12; refine (GX.out.at_ _).mono ?_; rintro _ _ ⟨rfl, e, rfl⟩)
            | (go_at_call 13; refine (GS.out.at_ _).mono ?_; rintro _ _ ⟨rfl, e, rfl⟩)
            | (go_at_call 14; with_reducible refine (KX.out.at_ _).mono ?_; rintro _ _ ⟨rfl, e, rfl⟩)
            | (go_at_call 16; with_reducible refine (KS.out.at_ _).mono ?_; rintro _ _ ⟨rfl, e, rfl⟩)
            | (go_at_call 28; refine (EM.out.at_ _).mono ?_; rintro _ _ ⟨rfl, e, rfl⟩)
            | (go_at_call 14; with_reducible refine (EN'.out.at_ _).mono ?_; rintro _ _ ⟨rfl, e, rfl⟩))
          go_loopw [6] (fun i wr => ∃ k : Nat, k ≤ x.l.length ∧ i = .int .i64 k ∧ ∃ e : Later W2, wr = e.w) (fun i _ => x.l.length - (intOf i).toNat)
          case atStart => exact ⟨0, Nat.zero_le _, rfl, _, rfl⟩
          case round =>
            obtain ⟨k, hk, rfl, e, rfl⟩ := hrel
            by_cases hlt : k < x.l.length
            · obtain ⟨b, o, v0, v1, v2, v3, v4, v5, hax, hbB, hR, hC, o0, o1, o2, o3, o4, o5⟩ := RXx.out.open6 hlt
              have KK := hide (EX.out _ _ (PX.out htx _ (List.getElem_mem hlt)) hR (ZX.out _ (List.getElem_mem hlt)) (HVx.out _ (List.getElem_mem hlt)))
              obtain ⟨d0, d1, d2, d3, d4, d5⟩ := (hC.ext Q02.out).later6
              clear hR hC
              subst hax
              go_wp2_with (go_at_call 14; with_reducible refine (KK.out.at_ _).mono ?_; rintro _ _ ⟨rfl, e, rfl⟩)
              go_roundw
              case rel => exact ⟨k + 1, by omega, by go_num, _, rfl⟩
              case measure => simp [intOf]; omega
            · have : k = x.l.length := by omega
              subst this
              go_wp2_with (go_at_call 16; with_reducible refine (KS.out.at_ _).mono ?_; rintro _ _ ⟨rfl, e, rfl⟩)
              go_loopw [7] (fun i wr => ∃ k : Nat, k ≤ s.x.length ∧ i = .int .i64 k ∧ ∃ e : Later W2, wr = e.w) (fun i _ => s.x.length - (intOf i).toNat)
              case atStart => exact ⟨0, Nat.zero_le _, rfl, _, rfl⟩
              case round =>
                obtain ⟨k, hk, rfl, e, rfl⟩ := hrel
                by_cases hlt : k < s.x.length
                · obtain ⟨b, o, v0, v1, v2, v3, v4, v5, hax, hbB, hR, hC, o0, o1, o2, o3, o4, o5⟩ := RX2.out.open6 hlt
                  have KK := hide (EX.out _ _ (PE.out hts _ (List.getElem_mem hlt)) hR (ZE.out _ (List.getElem_mem hlt)) (HVsx.out _ (List.getElem_mem hlt)))
                  obtain ⟨d0, d1, d2, d3, d4, d5⟩ := (hC.ext Q02.out).later6
                  clear hR hC
                  subst hax
                  go_wp2_with (go_at_call 14; with_reducible refine (KK.out.at_ _).mono ?_; rintro _ _ ⟨rfl, e, rfl⟩)
                  go_roundw
                  case rel => exact ⟨k + 1, by omega, by go_num, _, rfl⟩
                  case measure => simp [intOf]; omega
                · have : k = s.x.length := by omega
                  subst this
                  go_wp2_with fail
                  go_loopw [8] (fun i wr => ∃ k : Nat, k ≤ s.l.length ∧ i = .int .i64 k ∧ ∃ e : Later W2, wr = e.w) (fun i _ => s.l.length - (intOf i).toNat)
                  case atStart => exact ⟨0, Nat.zero_le _, rfl, _, rfl⟩
                  case round =>
                    obtain ⟨k, hk, rfl, e, rfl⟩ := hrel
                    by_cases hlt : k < s.l.length
                    · obtain ⟨b, o, v0, v1, v2, v3, hax, hbB, hR, hC, o0, o1, o2, o3⟩ := RS3.out.open4 hlt
                      obtain ⟨d0, d1, d2, d3⟩ := (hC.ext Q02.out).later4
                      obtain ⟨u2, u3, hcs, hS2, hS3⟩ := RS_iff.1 hR
                      simp only [List.cons.injEq, and_true] at hcs
                      obtain ⟨rfl, rfl, rfl, rfl⟩ := hcs
                      obtain ⟨ay, capy, rfl, -, -⟩ := id hS3
                      obtain ⟨az, capz, rfl, -, -⟩ := id hS2
                      have hp := PS.out hts _ (List.getElem_mem hlt)
                      have hz := ZS.out _ (List.getElem_mem hlt)
                      have hv := HVsl.out _ (List.getElem_mem hlt)
                      have K4 := hide (fun h4 => ES.out (armB s.l[k]) [.int .i64 5, .string ⟨#[]⟩, .slice none 0 0, (.slice ay s.l[k].l.length capy)] (hp.2 h4) (RS_iff.2 ⟨_, _, rfl, Sl.nil, hS3⟩) (Nat.le_trans (armB_size _) hz) (armB_bounds hv))
                      have Kn := hide (fun h4 => ES.out (s.l[k]) _ (hp.1 h4) hR hz hv)
                      clear hR hC hp hz hv hS2 hS3
                      generalize s.l[k] = y at *
                      subst hax
                      obtain ⟨Wa, hWa, hxa, hba⟩ := box4 e.w (.int .i64 0) (.string ⟨#[]⟩) (.slice none 0 0) (.slice none 0 0) 28
                      have hga : W2.heap.size ≤ e.w.heap.size := e.ext.size
                      obtain ⟨ea, rfl⟩ := Later.mk_ex (e.ext.trans hxa)
                      have hVa := hWa.symm
                      obtain ⟨m0, m1, m2, m3⟩ := hba.get4
                      obtain ⟨n0, n1, n2, n3⟩ := hba.free4
                      obtain ⟨Wb, hWb⟩ : ∃ Wb, Wb = (((ea.w.setCell ⟨e.w.heap.size, 0, none⟩ (.int .i64 y.op)).setCell ⟨e.w.heap.size, 1, none⟩ (.string y.name)).setCell ⟨e.w.heap.size, 2, none⟩ (.slice az y.x.length capz)).setCell ⟨e.w.heap.size, 3, none⟩ (.slice ay y.l.length capy) := ⟨_, rfl⟩
                      have hbb := hba.store4 (.int .i64 y.op) (.string y.name) (.slice az y.x.length capz) (.slice ay y.l.length capy)
                      rw [← hWb] at hbb
                      obtain ⟨eb, rfl⟩ := Later.mk_ex (show Ext W2 Wb by rw [hWb]; exact (((ea.ext.setCell hga _).setCell hga _).setCell hga _).setCell hga _)
                      have hVb := hWb.symm
                      obtain ⟨s0, s1, s2, s3⟩ := hbb.get4
                      obtain ⟨t0, t1, t2, t3⟩ := hbb.free4
                      clear hWa hWb hba
                      by_cases h4 : y.op = 4
                      · have KK := hide (K4.out h4)
                        clear K4 Kn
                        generalize y.op = op at *
                        subst h4
                        obtain ⟨Wc, hWc⟩ : ∃ Wc, Wc = (((eb.w.setCell ⟨e.w.heap.size, 0, none⟩ (.int .i64 5)).setCell ⟨e.w.heap.size, 1, none⟩ (.string ⟨#[]⟩)).setCell ⟨e.w.heap.size, 2, none⟩ (.slice none 0 0)).setCell ⟨e.w.heap.size, 3, none⟩ (.slice ay y.l.length capy) := ⟨_, rfl⟩
                        have hbc := hbb.store4 (.int .i64 5) (.string ⟨#[]⟩) (.slice none 0 0) (.slice ay y.l.length capy)
                        rw [← hWc] at hbc
                        obtain ⟨ec, rfl⟩ := Later.mk_ex (show Ext W2 Wc by rw [hWc]; exact (((eb.ext.setCell hga _).setCell hga _).setCell hga _).setCell hga _)
                        have hVc := hWc.symm
                        obtain ⟨p0, p1, p2, p3⟩ := hbc.get4
                        clear hWc hbc hbb
                        go_wp2_with (go_at_call 16; with_reducible refine (KK.out.at_ _).mono ?_; rintro _ _ ⟨rfl, e, rfl⟩)
                        go_roundw
                        case rel => exact ⟨k + 1, by omega, by go_num, _, rfl⟩
                        case measure => simp [intOf]; omega
                      · have KK := hide (Kn.out h4)
                        have h4' : ((y.op : Int) == 4) = false := by simpa using h4
                        clear hbb
                        go_wp2_with (go_at_call 16; with_reducible refine (KK.out.at_ _).mono ?_; rintro _ _ ⟨rfl, e, rfl⟩)
                        go_roundw
                        case rel => exact ⟨k + 1, by omega, by go_num, _, rfl⟩
                        case measure => simp [intOf]; omega
                    · have : k = s.l.length := by omega
                      subst this
                      go_wp2_with fail
                      go_ret
                      exact ⟨rfl, Q02.out.trans (Later.ext _)⟩
      · generalize checkX x = tx at *
        have htx' : ((tx : Int) == 0) = false := by simpa using htx
        go_enter Tryd.func5, Tryd.ntmps5
        go_wp2_with (first
          | (go_at_call 11; refine (GL.out.at_ _).mono ?_; rintro _ _ ⟨rfl, e, rfl⟩)
          | (go_at_call 12; refine (GX.out.at_ _).mono ?_; rintro _ _ ⟨rfl, e, rfl⟩)
          | (go_at_call 13; refine (GS.out.at_ _).mono ?_; rintro _ _ ⟨rfl, e, rfl⟩)
          | (go_at_call 14; with_reducible refine (KX.out.at_ _).mono ?_; rintro _ _ ⟨rfl, e, rfl⟩)
          | (go_at_call 16; with_reducible refine (KS.out.at_ _).mono ?_; rintro _ _ ⟨rfl, e, rfl⟩))
        go_loopw [7] (fun i wr => ∃ k : Nat, k ≤ s.x.length ∧ i = .int .i64 k ∧ ∃ e : Later W2, wr = e.w) (fun i _ => s.x.length - (intOf i).toNat)
        case atStart => exact ⟨0, Nat.zero_le _, rfl, _, rfl⟩
        case round =>
          obtain ⟨k, hk, rfl, e, rfl⟩ := hrel
          by_cases hlt : k < s.x.length
          · obtain ⟨b, o, v0, v1, v2, v3, v4, v5, hax, hbB, hR, hC, o0, o1, o2, o3, o4, o5⟩ := RX2.out.open6 hlt
            have KK := hide (EX.out _ _ (PE.out hts _ (List.getElem_mem hlt)) hR (ZE.out _ (List.getElem_mem hlt)) (HVsx.out _ (List.getElem_mem hlt)))
            obtain ⟨d0, d1, d2, d3, d4, d5⟩ := (hC.ext Q02.out).later6
            clear hR hC
            subst hax
            go_wp2_with (go_at_call 14; with_reducible refine (KK.out.at_ _).mono ?_; rintro _ _ ⟨rfl, e, rfl⟩)
            go_roundw
            case rel => exact ⟨k + 1, by omega, by go_num, _, rfl⟩
            case measure => simp [intOf]; omega
          · have : k = s.x.length := by omega
            subst this
            go_wp2_with fail
            go_loopw [8] (fun i wr => ∃ k : Nat, k ≤ s.l.length ∧ i = .int .i64 k ∧ ∃ e : Later W2, wr = e.w) (fun i _ => s.l.length - (intOf i).toNat)
            case atStart => exact ⟨0, Nat.zero_le _, rfl, _, rfl⟩
            case round =>
              obtain ⟨k, hk, rfl, e, rfl⟩ := hrel
              by_cases hlt : k < s.l.length
              · obtain ⟨b, o, v0, v1, v2, v3, hax, hbB, hR, hC, o0, o1, o2, o3⟩ := RS3.out.open4 hlt
                obtain ⟨d0, d1, d2, d3⟩ := (hC.ext Q02.out).later4
                obtain ⟨u2, u3, hcs, hS2, hS3⟩ := RS_iff.1 hR
                simp only [List.cons.injEq, and_true] at hcs
                obtain ⟨rfl, rfl, rfl, rfl⟩ := hcs
                obtain ⟨ay, capy, rfl, -, -⟩ := id hS3
                obtain ⟨az, capz, rfl, -, -⟩ := id hS2
                have hp := PS.out hts _ (List.getElem_mem hlt)
                have hz := ZS.out _ (List.getElem_mem hlt)
                have hv := HVsl.out _ (List.getElem_mem hlt)
                have K4 := hide (fun h4 => ES.out (armB s.l[k]) [.int .i64 5, .string ⟨#[]⟩, .slice none 0 0, (.slice ay s.l[k].l.length capy)] (hp.2 h4) (RS_iff.2 ⟨_, _, rfl, Sl.nil, hS3⟩) (Nat.le_trans (armB_size _) hz) (armB_bounds hv))
                have Kn := hide (fun h4 => ES.out (s.l[k]) _ (hp.1 h4) hR hz hv)
                clear hR hC hp hz hv hS2 hS3
                generalize s.l[k] = y at *
                subst hax
                obtain ⟨Wa, hWa, hxa, hba⟩ := box4 e.w (.int .i64 0) (.string ⟨#[]⟩) (.slice none 0 0) (.slice none 0 0) 28
                have hga : W2.heap.size ≤ e.w.heap.size := e.ext.size
                obtain ⟨ea, rfl⟩ := Later.mk_ex (e.ext.trans hxa)
                have hVa := hWa.symm
                obtain ⟨m0, m1, m2, m3⟩ := hba.get4
                obtain ⟨n0, n1, n2, n3⟩ := hba.free4
                obtain ⟨Wb, hWb⟩ : ∃ Wb, Wb = (((ea.w.setCell ⟨e.w.heap.size, 0, none⟩ (.int .i64 y.op)).setCell ⟨e.w.heap.size, 1, none⟩ (.string y.name)).setCell ⟨e.w.heap.size, 2, none⟩ (.slice az y.x.length capz)).setCell ⟨e.w.heap.size, 3, none⟩ (.slice ay y.l.length capy) := ⟨_, rfl⟩
                have hbb := hba.store4 (.int .i64 y.op) (.string y.name) (.slice az y.x.length capz) (.slice ay y.l.length capy)
                rw [← hWb] at hbb
                obtain ⟨eb, rfl⟩ := Later.mk_ex (show Ext W2 Wb by rw [hWb]; exact (((ea.ext.setCell hga _).setCell hga _).setCell hga _).setCell hga _)
                have hVb := hWb.symm
                obtain ⟨s0, s1, s2, s3⟩ := hbb.get4
                obtain ⟨t0, t1, t2, t3⟩ := hbb.free4
                clear hWa hWb hba
                by_cases h4 : y.op = 4
                · have KK := hide (K4.out h4)
                  clear K4 Kn
                  generalize y.op = op at *
                  subst h4
                  obtain ⟨Wc, hWc⟩ : ∃ Wc, Wc = (((eb.w.setCell ⟨e.w.heap.size, 0, none⟩ (.int .i64 5)).setCell ⟨e.w.heap.size, 1, none⟩ (.string ⟨#[]⟩)).setCell ⟨e.w.heap.size, 2, none⟩ (.slice none 0 0)).setCell ⟨e.w.heap.size, 3, none⟩ (.slice ay y.l.length capy) := ⟨_, rfl⟩
                  have hbc := hbb.store4 (.int .i64 5) (.string ⟨#[]⟩) (.slice none 0 0) (.slice ay y.l.length capy)
                  rw [← hWc] at hbc
                  obtain ⟨ec, rfl⟩ := Later.mk_ex (show Ext W2 Wc by rw [hWc]; exact (((eb.ext.setCell hga _).setCell hga _).setCell hga _).setCell hga _)
                  have hVc := hWc.symm
                  obtain ⟨p0, p1, p2, p3⟩ := hbc.get4
                  clear hWc hbc hbb
                  go_wp2_with (go_at_call 16; with_reducible refine (KK.out.at_ _).mono ?_; rintro _ _ ⟨rfl, e, rfl⟩)
                  go_roundw
                  case rel => exact ⟨k + 1, by omega, by go_num, _, rfl⟩
                  case measure => simp [intOf]; omega
                · have KK := hide (Kn.out h4)
                  have h4' : ((y.op : Int) == 4) = false := by simpa using h4
                  clear hbb
                  go_wp2_with (go_at_call 16; with_reducible refine (KK.out.at_ _).mono ?_; rintro _ _ ⟨rfl, e, rfl⟩)
                  go_roundw
                  case rel => exact ⟨k + 1, by omega, by go_num, _, rfl⟩
                  case measure => simp [intOf]; omega
              · have : k = s.l.length := by omega
                subst this
                go_wp2_with fail
                go_ret
                exact ⟨rfl, Q02.out.trans (Later.ext _)⟩
    · generalize checkS s = ts at *
      have hts' : ((ts : Int) == 0) = false := by simpa using hts
      by_cases htx : checkX x = 0
      · by_cases hnm : x.name.toList = []
        · rw [htx] at KX
          go_enter Tryd.func5, Tryd.ntmps5
          go_wp2_with (first
            | (go_at_call 11; refine (GL.out.at_ _).mono ?_; rintro _ _ ⟨rfl, e, rfl⟩)
            | (go_at_call 12; refine (GX.out.at_ _).mono ?_; rintro _ _ ⟨rfl, e, rfl⟩)
            | (go_at_call 13; refine (GS.out.at_ _).mono ?_; rintro _ _ ⟨rfl, e, rfl⟩)
            | (go_at_call 14; with_reducible refine (KX.out.at_ _).mono ?_; rintro _ _ ⟨rfl, e, rfl⟩)
            | (go_at_call 16; with_reducible refine (KS.out.at_ _).mono ?_; rintro _ _ ⟨rfl, e, rfl⟩))
          go_loopw [6] (fun i wr => ∃ k : Nat, k ≤ x.l.length ∧ i = .int .i64 k ∧ ∃ e : Later W2, wr = e.w) (fun i _ => x.l.length - (intOf i).toNat)
          case atStart => exact ⟨0, Nat.zero_le _, rfl, _, rfl⟩
          case round =>
            obtain ⟨k, hk, rfl, e, rfl⟩ := hrel
            by_cases hlt : k < x.l.length
            · obtain ⟨b, o, v0, v1, v2, v3, v4, v5, hax, hbB, hR, hC, o0, o1, o2, o3, o4, o5⟩ := RXx.out.open6 hlt
              have KK := hide (EX.out _ _ (PX.out htx _ (List.getElem_mem hlt)) hR (ZX.out _ (List.getElem_mem hlt)) (HVx.out _ (List.getElem_mem hlt)))
              obtain ⟨d0, d1, d2, d3, d4, d5⟩ := (hC.ext Q02.out).later6
              clear hR hC
              subst hax
              go_wp2_with (go_at_call 14; with_reducible refine (KK.out.at_ _).mono ?_; rintro _ _ ⟨rfl, e, rfl⟩)
              go_roundw
              case rel => exact ⟨k + 1, by omega, by go_num, _, rfl⟩
              case measure => simp [intOf]; omega
            · have : k = x.l.length := by omega
              subst this
              go_wp2_with (go_at_call 16; with_reducible refine (KS.out.at_ _).mono ?_; rintro _ _ ⟨rfl, e, rfl⟩)
              go_ret
              exact ⟨rfl, Q02.out.trans (Later.ext _)⟩
        · have EN' := hide (EN.out (PN.out htx (size_ne hnm)))
          rw [htx] at KX
          go_enter Tryd.func5, Tryd.ntmps5
          go_wp2_with (first
            | (go_at_call 11; refine (GL.out.at_ _).mono ?_; rintro _ _ ⟨rfl, e, rfl⟩)
            | (go_at_call 12; refine (GX.out.at_ _).mono ?_; rintro _ _ ⟨rfl, e, rfl⟩)
            | (go_at_call 13; refine (GS.out.at_ _).mono ?_; rintro _ _ ⟨rfl, e, rfl⟩)
            | (go_at_call 14; with_reducible refine (KX.out.at_ _).mono ?_; rintro _ _ ⟨rfl, e, rfl⟩)
            | (go_at_call 16; with_reducible refine (KS.out.at_ _).mono ?_; rintro _ _ ⟨rfl, e, rfl⟩)
            | (go_at_call 28; refine (EM.out.at_ _).mono ?_; rintro _ _ ⟨rfl, e, rfl⟩)
            | (go_at_call 14; with_reducible refine (EN'.out.at_ _).mono ?_; rintro _ _ ⟨rfl, e, rfl⟩))
          go_loopw [6] (fun i wr => ∃ k : Nat, k ≤ x.l.length ∧ i = .int .i64 k ∧ ∃ e : Later W2, wr = e.w) (fun i _ => x.l.length - (intOf i).toNat)
          case atStart => exact ⟨0, Nat.zero_le _, rfl, _, rfl⟩
          case round =>
            obtain ⟨k, hk, rfl, e, rfl⟩ := hrel
            by_cases hlt : k < x.l.length
            · obtain ⟨b, o, v0, v1, v2, v3, v4, v5, hax, hbB, hR, hC, o0, o1, o2, o3, o4, o5⟩ := RXx.out.open6 hlt
              have KK := hide (EX.out _ _ (PX.out htx _ (List.getElem_mem hlt)) hR (ZX.out _ (List.getElem_mem hlt)) (HVx.out _ (List.getElem_mem hlt)))
              obtain ⟨d0, d1, d2, d3, d4, d5⟩ := (hC.ext Q02.out).later6
              clear hR hC
              subst hax
              go_wp2_with (go_at_call 14; with_reducible refine (KK.out.at_ _).mono ?_; rintro _ _ ⟨rfl, e, rfl⟩)
              go_roundw
              case rel => exact ⟨k + 1, by omega, by go_num, _, rfl⟩
              case measure => simp [intOf]; omega
            · have : k = x.l.length := by omega
              subst this
              go_wp2_with (go_at_call 16; with_reducible refine (KS.out.at_ _).mono ?_; rintro _ _ ⟨rfl, e, rfl⟩)
              go_ret
              exact ⟨rfl, Q02.out.trans (Later.ext _)⟩
      · generalize checkX x = tx at *
        have htx' : ((tx : Int) == 0) = false := by simpa using htx
        go_enter Tryd.func5, Tryd.ntmps5
        go_wp2_with (first
          | (go_at_call 11; refine (GL.out.at_ _).mono ?_; rintro _ _ ⟨rfl, e, rfl⟩)
          | (go_at_call 12; refine (GX.out.at_ _).mono ?_; rintro _ _ ⟨rfl, e, rfl⟩)
          | (go_at_call 13; refine (GS.out.at_ _).mono ?_; rintro _ _ ⟨rfl, e, rfl⟩)
          | (go_at_call 14; with_reducible refine (KX.out.at_ _).mono ?_; rintro _ _ ⟨rfl, e, rfl⟩)
          | (go_at_call 16; with_reducible refine (KS.out.at_ _).mono ?_; rintro _ _ ⟨rfl, e, rfl⟩))
        go_ret
        exact ⟨rfl, Q02.out.trans (Later.ext _)⟩

end Go.Proofs.YtmpoheemnjpoeaaDoor
