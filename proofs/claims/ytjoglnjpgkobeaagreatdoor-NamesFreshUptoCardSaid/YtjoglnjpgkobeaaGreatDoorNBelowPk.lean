/-
  PACKAGE names: Order; Below: the search.
-/
import Derived.Shelf.SlicesE.DeleteFunc
import Derived.Ground.SlgfProg
import Derived.Test.YtjoglnjpgkobeaaGreatDoorNCheckPk
import Derived.Test.YtjoglnjpgkobeaaGreatDoorNFindPk
namespace Go.Proofs.YtjoglnjpgkobeaaGreatDoor
open Go Go.RowKit
set_option linter.all false
set_option linter.unusedVariables false
set_option linter.unusedSimpArgs false
set_option linter.unusedVariables false
set_option linter.unusedSimpArgs false
attribute [local go_sem] run_store_one

theorem row_lower {X : World} {base base' k : Nat} {v : Value} {xs : List Value} (h : X.ownsRow base 9 1 v k xs) (hb : base' ≤ base) : X.ownsRow base' 9 1 v k xs := by
  refine ⟨h.1, ?_⟩
  rcases h.2 with h0 | ⟨g, cap, cur, h1, h2, h3⟩
  · exact .inl h0
  · exact .inr ⟨g, cap, cur, h1, Nat.le_trans hb h2, h3⟩
set_option maxRecDepth 20000 in
set_option maxHeartbeats 1000000 in
theorem orderN_any (B : Nat) (f : List Mdl) (w : World) (vf : Value) (hT : Tabs w) (hS : Sl (RM w B) w B 4 f vf) (hB : B ≤ w.heap.size) (hsz : msize sizeM f ≤ 10000000) (hvx : ∀ m, m ∈ f → VM m) :
    Calls Tryz.prog 18 #[.agg #[vf]] w fun e w' => ∃ v, e = .returned (.tuple #[v, .int .i64 (checkN f)]) ∧ Ext w w' ∧ (checkN f = 0 → w'.ownsRow w.heap.size 9 1 v (orderF f).length ((orderF f).map .string)) ∧ (checkN f ≠ 0 → v = .slice none 0 0) := by
  have HS := hide hS
  have hln := length_le_msize sizeM f sizeM_pos
  have HIT := hide (fun m (hm : m ∈ f) => Nat.le_trans (items_le hm) hsz)
  obtain ⟨a, cap, rfl, hcap, hrow⟩ := hS
  obtain ⟨W1, e1, hV1, hx1, hz1, a0⟩ := boxL1 w (.slice a f.length cap) 24
  have HX := hide (hx1.trans e1.ext)
  have GC := hide (checkN_any B f e1.w _ (hT.ext HX.out) (HS.out.extRM HX.out hB) (Nat.le_trans hB HX.out.size) hsz hvx)
  clear hcap hrow hx1 hz1 hT hvx
  obtain ⟨c, hc⟩ : ∃ c, c = checkN f := ⟨_, rfl⟩
  rw [← hc] at GC ⊢
  have HC := hide hc
  clear hc
  go_enter Tryz.func18, Tryz.ntmps18
  go_wp2_with fail
  go_at_call 10
  refine GC.out.mono ?_
  rintro _ w1 ⟨rfl, hx⟩
  obtain ⟨e2, rfl⟩ := Later.mk_ex (e1.ext.trans hx)
  have HX2 := hide (HX.out.trans hx)
  have a1 := a0 e2
  clear hx GC a0
  by_cases h0 : c = 0
  · have hne : (c != 0) = false := by simpa using h0
    have H0 := hide h0
    clear h0
    have GO := hide (order_any B f e2.w _ (HS.out.extRM HX2.out hB) (Nat.le_trans hB HX2.out.size) (by omega) HIT.out)
    go_wp2_with fail
    go_at_call 36
    refine GO.out.mono ?_
    rintro _ w2 ⟨v, rfl, hown, hx3⟩
    have FIN := hide (And.intro (row_lower hown HX2.out.size) (HX2.out.trans hx3))
    clear hown hx3 GO
    go_wp2_with fail
    go_ret2
    exact ⟨v, by rw [H0.out]; rfl, FIN.out.2, fun _ => FIN.out.1, fun h => absurd H0.out h⟩
  · have hne : (c != 0) = true := by simpa using h0
    have H0 := hide h0
    clear h0
    go_wp2_with fail
    go_ret2
    exact ⟨_, rfl, HX2.out, fun h => absurd h H0.out, fun _ => rfl⟩

/-- What the search holds. -/
structure DInv (w : World) (fb mb db mp : Nat) (vf : Value) (N : ByteArray → Prop) (X : World) : Prop where
  fbk : Blk X fb 24 [vf]
  mbk : Blk X mb 62 [.map (some mp)]
  dbk : Blk X db 65 [.func (.func 50) #[] #[.pointer (some ⟨fb, 0, none⟩), .pointer (some ⟨mb, 0, none⟩), .pointer (some ⟨db, 0, none⟩)]]
  set : SetB X mp N
  ext : Ext w X
theorem DInv.later {w X Y : World} {fb mb db mp : Nat} {vf : Value} {N : ByteArray → Prop} (h : DInv w fb mb db mp vf N X) (hx : Ext X Y) : DInv w fb mb db mp vf N Y :=
  ⟨h.fbk.ext hx, h.mbk.ext hx, h.dbk.ext hx, h.set.kept hx.gr (by simp), h.ext.trans hx⟩
theorem DInv.add {w X : World} {fb mb db mp : Nat} {vf : Value} {N N' : ByteArray → Prop} (h : DInv w fb mb db mp vf N X) (hm : w.heap.size ≤ mp) (o : Obj) (hs : SetB (setO X mp o) mp N') : DInv w fb mb db mp vf N' (setO X mp o) := by
  have hg := setO_grown X mp o
  exact ⟨(hg.block fb h.fbk.lt (blk_ne_set h.fbk h.set).symm).trans h.fbk, (hg.block mb h.mbk.lt (blk_ne_set h.mbk h.set).symm).trans h.mbk, (hg.block db h.dbk.lt (blk_ne_set h.dbk h.set).symm).trans h.dbk, hs, h.ext.grown hg fun r e => by cases e; exact hm⟩

theorem enters_down : Enters Tryz.prog 50 := ⟨fun _ _ => by kernel_rfl⟩
/-- What is asked of the search. -/
def DownC (w : World) (fb mb db mp : Nat) (vf : Value) (f : List Mdl) (N : ByteArray → Prop) : Prop := ∀ (name : ByteArray) (X : World), DInv w fb mb db mp vf N X →
  Calls Tryz.prog 50 #[.string name, .pointer (some ⟨fb, 0, none⟩), .pointer (some ⟨mb, 0, none⟩), .pointer (some ⟨db, 0, none⟩)] X fun e X' => e = .returned (.bool (findM f name).isSome) ∧ X.grownBy X' (some mp) ∧ ∃ N', DownOk f N name N' ∧ DInv w fb mb db mp vf N' X'

set_option maxRecDepth 20000 in
set_option maxHeartbeats 4000000 in
theorem down_step (w : World) (B fb mb db mp : Nat) (vf : Value) (f : List Mdl) (hS : Sl (RM w B) w B 4 f vf) (hB : B ≤ w.heap.size) (hsz : f.length ≤ 1000000000) (hit : ∀ m, m ∈ f → msize sizeI m.items ≤ 10000000) (hmp : w.heap.size ≤ mp) (N : ByteArray → Prop)
    (IH : ∀ N', unm f N' < unm f N → DownC w fb mb db mp vf f N') : DownC w fb mb db mp vf f N := by
  intro name X hI
  have HI := hide hI
  have HIH := hide IH
  have HIT := hide hit
  have HS := hide hS
  have hw := hI.ext
  have y0 := hI.fbk.get1
  have GF := hide (find_any B f name X vf (hS.extRM hw hB) (Nat.le_trans hB hw.size) hsz)
  have hask := hI.set.ask Tryz.underlying62 Tryz.underlying9 zeroBool name
  clear hI IH hit hS hw hask
  go_enter Tryz.func50, Tryz.ntmps50
  go_wp2_with fail
  go_at_call 12
  refine GF.out.mono ?_
  rintro _ w1 ⟨c0, c1, c2, c3, rfl, hR, hx1⟩
  have HRW := hide (RM.keep (w' := w) (fun p hp => ((HI.out.ext.trans hx1).cell (by omega)).symm) (Nat.le_refl _) _ _ hR)
  obtain ⟨v1, v2, v3, hcs, hp1, hq1, hi1⟩ := hR
  simp only [List.cons.injEq, and_true] at hcs
  obtain ⟨rfl, rfl, rfl, rfl⟩ := hcs
  have o1 := hp1.oneCell
  have o2 := hq1.oneCell
  have o3 := hi1.oneCell
  obtain ⟨Wb, Wc, hVb, ⟨p0, p1, p2, p3⟩, ⟨q0, q1, q2, q3⟩, hVc, hbc, hxc, -⟩ := varM w1 (.string ((findM f name).getD zeroM).name) c1 c2 c3
  obtain ⟨ec, hec⟩ := Later.mk_ex (Ext.refl Wc)
  replace hVc := hVc.trans hec
  have HXE := hide (hx1.trans (hxc.trans ec.ext))
  have HE := hide (HI.out.later HXE.out)
  have HBC := hide (hbc.ext ec.ext)
  have y1 := HE.out.mbk.get1
  have hask := HE.out.set.ask Tryz.underlying62 Tryz.underlying9 zeroBool name
  clear hp1 hq1 hi1 hbc hxc hec hx1 GF
  obtain ⟨x, hgm⟩ : ∃ x, (findM f name).getD zeroM = x := ⟨_, rfl⟩
  rw [hgm] at HRW HBC hVc ⊢
  by_cases hfound : ∃ m, findM f name = some m
  · obtain ⟨m, hm⟩ := hfound
    have hsome : (findM f name).isSome = true := by rw [hm]; rfl
    have HSO := hide hsome
    have hgs : (findM f name).isSome = true := hsome
    obtain rfl : x = m := by rw [← hgm, hm]; rfl
    clear hgm
    by_cases hN : N name
    · rw [yes_iff.2 hN] at hask
      have FIN := hide (And.intro (gr_none (r := some mp) HXE.out) (And.intro (down_skip (f := f) (.inr hN)) HE.out))
      clear hN hm hsome
      go_wp2_with fail
      go_ret
      exact ⟨by rw [HSO.out]; rfl, FIN.out.1, N, FIN.out.2⟩
    · rw [yes_no.2 hN] at hask
      have hnm : name ∈ namesF f := find_isSome.1 hsome
      have HLT := hide (unm_lt hnm hN)
      obtain ⟨hmf, hme⟩ := find_spec2 hm
      have HITm := HIT.out x hmf
      have hul := uses_len x HITm
      have HM := hide (And.intro hm (And.intro hN hsome))
      obtain ⟨oo, hup, hs6⟩ := HE.out.set.add Tryz.underlying62 Tryz.underlying9 name
      obtain ⟨W5, hW5⟩ : ∃ W5, setO ec.w mp oo = W5 := ⟨_, rfl⟩
      have HE5 := hide (show DInv w fb mb db mp vf (fun s => N s ∨ s = name) W5 from hW5 ▸ HE.out.add hmp oo hs6)
      have hg5 : ec.w.grownBy W5 (some mp) := hW5 ▸ setO_grown ec.w mp oo
      have hb5 : Blk W5 w1.heap.size 33 [.string x.name, c1, c2, c3] := (hg5.block _ HBC.out.lt (blk_ne_set HBC.out HE.out.set).symm).trans HBC.out
      obtain ⟨d0, d1, d2, d3⟩ := hb5.get4
      have GU := hide (uses_any B x W5 _ (HRW.out.ext HE5.out.ext hB) (Nat.le_trans hB HE5.out.ext.size) HITm)
      have HG5 := hide (gr_trans (gr_none (r := some mp) HXE.out) hg5)
      clear hs6 hm hN hsome hnm hmf hme HITm hg5 hb5 HE HBC HRW
      go_wp2_with fail
      go_at_call 16
      refine GU.out.mono ?_
      rintro _ w2 ⟨v, rfl, hown, hx2⟩
      obtain ⟨va, vc, rfl⟩ := row_slice_n hown
      have HE2 := hide (HE5.out.later hx2)
      have HG2 := hide (gr_trans HG5.out (gr_none hx2))
      have HOWN := hide hown
      clear hown hx2 GU HE5 HG5 hask
      go_wp2_with fail
      have HL0 := hide (loop_start f N name)
      go_loopw [28] (fun i wr => ∃ k : Nat, k ≤ (usesM x).length ∧ i = .int .i64 k ∧ ∃ Nk, LoopOk f N name ((usesM x).take k) Nk ∧ DInv w fb mb db mp vf Nk wr ∧ X.grownBy wr (some mp) ∧ wr.ownsRow W5.heap.size 9 1 (.slice va (usesM x).length vc) (usesM x).length ((usesM x).map .string)) (fun i _ => (usesM x).length - (intOf i).toNat)
      case atStart => exact ⟨0, Nat.zero_le _, rfl, _, HL0.out, HE2.out, HG2.out, HOWN.out⟩
      case round =>
        obtain ⟨k, hk, rfl, Nk, hlo, hdi, hgr, how⟩ := hrel
        have HLO := hide hlo
        have HDI := hide hdi
        have HGR := hide hgr
        have HOW := hide how
        clear hlo hdi hgr HL0 HE2 HG2 HOWN
        by_cases hlt : k < (usesM x).length
        · obtain ⟨a', cap', he, -, hr⟩ := SStr.of_row how
          obtain ⟨rfl, -, rfl⟩ := Value.slice.inj he
          obtain ⟨b, o, rfl, hcell⟩ := hr k hlt
          have hcf := enters_down.out
          have yd := HDI.out.dbk.get1
          have GD := hide (HIH.out Nk (Nat.lt_of_le_of_lt (unm_le f (fun s hs => hs.elim (HLO.out.old s) (fun e => e ▸ HLO.out.me))) HLT.out) (usesM x)[k] wr HDI.out)
          have STEP := hide (fun (N2 : ByteArray → Prop) (h : DownOk f Nk (usesM x)[k] N2) => show LoopOk f N name ((usesM x).take (k + 1)) N2 from by
            rw [List.take_succ_eq_append_getElem hlt]; exact HLO.out.step h HM.out.1 (List.getElem_mem hlt))
          clear how hr he
          generalize (usesM x)[k] = u at *
          go_wp2_with fail
          go_at_call 50
          refine GD.out.mono ?_
          rintro _ w3 ⟨rfl, hg3, N2, hd2, hi3⟩
          have R := hide (And.intro (STEP.out N2 hd2) (And.intro hi3 (And.intro (gr_trans HGR.out hg3) (HOW.out.kept hg3 (.inr (set_ne_row HDI.out.set HOW.out).symm)))))
          clear hg3 hd2 hi3 STEP GD
          go_wp2_with fail
          go_roundw
          case rel => exact ⟨k + 1, by omega, by go_num, N2, R.out⟩
          case measure => simp [intOf]; omega
        · have hkl : k = (usesM x).length := by omega
          subst hkl
          rw [List.take_length] at HLO
          have FIN := hide (And.intro HGR.out (And.intro (HLO.out.done HM.out.1) HDI.out))
          clear how
          go_wp2_with fail
          go_ret
          exact ⟨by rw [HSO.out]; rfl, FIN.out.1, Nk, FIN.out.2⟩
  · have hnone : findM f name = none := by
      cases h : findM f name with
      | none => rfl
      | some m => exact absurd ⟨m, h⟩ hfound
    have hsome : (findM f name).isSome = false := by rw [hnone]; rfl
    have HSO := hide hsome
    have hgs : (findM f name).isSome = false := hsome
    have FIN := hide (And.intro (gr_none (r := some mp) HXE.out) (And.intro (down_skip (f := f) (N := N) (.inl hnone)) HE.out))
    clear hfound hnone hsome hask
    go_wp2_with fail
    go_ret
    exact ⟨by rw [HSO.out]; rfl, FIN.out.1, N, FIN.out.2⟩

theorem down_any (w : World) (B fb mb db mp : Nat) (vf : Value) (f : List Mdl) (hS : Sl (RM w B) w B 4 f vf) (hB : B ≤ w.heap.size) (hsz : f.length ≤ 1000000000) (hit : ∀ m, m ∈ f → msize sizeI m.items ≤ 10000000) (hmp : w.heap.size ≤ mp) :
    ∀ (n : Nat) (N : ByteArray → Prop), unm f N < n → DownC w fb mb db mp vf f N := by
  intro n
  induction n with
  | zero => intro N hN; omega
  | succ n ih => intro N hN; exact down_step w B fb mb db mp vf f hS hB hsz hit hmp N fun N' hN' => ih N' (by omega)

end Go.Proofs.YtjoglnjpgkobeaaGreatDoor

/-
  slices.DeleteFunc, of texts, where what is asked is a set.
-/
namespace Go.Proofs.YtjoglnjpgkobeaaGreatDoor
open Go Go.RowKit Go.Shelf Go.Sort Go.Proofs
set_option linter.all false
set_option linter.unusedVariables false
set_option linter.unusedSimpArgs false
set_option linter.unusedVariables false
set_option linter.unusedSimpArgs false
attribute [local go_sem] run_store_one
def lDel_ren : Go.Shelf.Ren := ⟨fun | 10 => 51 | 6 => 75 | n => n, fun | 22 => 38 | 23 => 9 | 25 => 65 | 3 => 3 | 4 => 4 | 0 => 0 | n => n, fun | n => n⟩
theorem lDel : Go.Proofs.SlLaysH.n10 Tryz.prog lDel_ren := {
 mixed := by kernel_rfl
 f6 := ⟨Tryz.f75.name, by decide, Tryz.func75.trans (congrArg some (by kernel_rfl))⟩
 f10 := ⟨Tryz.f51.name, by decide, Tryz.func51.trans (congrArg some (by kernel_rfl))⟩
 t0 := Tryz.underlying0
 a0 := Tryz.isAgg0
 z0 := Tryz.sizeOf0
 v0 := Tryz.zeroValue0
 t3 := Tryz.underlying3
 a3 := Tryz.isAgg3
 z3 := Tryz.sizeOf3
 v3 := Tryz.zeroValue3
 t4 := Tryz.underlying4
 a4 := Tryz.isAgg4
 z4 := Tryz.sizeOf4
 v4 := Tryz.zeroValue4
 t22 := Tryz.underlying38
 a22 := Tryz.isAgg38
 z22 := Tryz.sizeOf38
 v22 := Tryz.zeroValue38
 a23 := Tryz.isAgg9
 z23 := Tryz.sizeOf9
 t25 := Tryz.underlying65
 a25 := Tryz.isAgg65
 z25 := Tryz.sizeOf65
 v25 := Tryz.zeroValue65 }

theorem enters_not3 : Enters Tryz.prog 52 := ⟨fun _ _ => by kernel_rfl⟩
set_option maxRecDepth 20000 in
theorem not3_any (N : ByteArray → Prop) (s : ByteArray) (p : Addr) (mp : Nat) (w : World) (hp : w.cell? p = some (.map (some mp))) (hs : SetB w mp N) :
    FnGives Tryz.prog 52 #[.pointer (some p)] #[.string s] (.bool (yes (¬ N s))) w := by
  show Calls Tryz.prog 52 #[.string s, .pointer (some p)] w _
  have hask := hs.ask Tryz.underlying62 Tryz.underlying9 zeroBool s
  by_cases hN : N s
  · rw [yes_iff.2 hN] at hask
    rw [yes_no.2 (show ¬ ¬ N s from fun h => h hN)]
    clear hN hs
    go_enter Tryz.func52, Tryz.ntmps52
    go_wp2
    go_ret
    exact ⟨rfl, 0, rfl⟩
  · rw [yes_no.2 hN] at hask
    rw [yes_iff.2 hN]
    clear hN hs
    go_enter Tryz.func52, Tryz.ntmps52
    go_wp2
    go_ret
    exact ⟨rfl, 0, rfl⟩
theorem zeroStr : ∀ w : World, (zeroValue 9).run Tryz.prog w = .ok (.string ⟨#[]⟩) w := fun _ => by kernel_rfl
theorem grownBy_put {w : World} {g n off : Nat} {os : Array Obj} (d : Array ByteArray) : w.grownBy (grow (putRow Value.string (Sort.ahead w n) g off d) os) (some g) := by
  refine ⟨rfl, rfl, rfl, by simp, fun k hk hne => ?_⟩
  rw [heap_grow_old _ _ (by simpa using hk)]
  have : g ≠ k := fun e => hne (by rw [e])
  simp [putRow, mapBlock, Sort.ahead, Array.getElem?_modify, this]
theorem heap_put {w : World} {g n : Nat} {cur : Array Value} {e : TypeId} {fr : Nat × Nat} (d : Array ByteArray) (hb : w.heap[g]? = some (.cells cur e fr)) :
    (putRow Value.string (Sort.ahead w n) g 0 d).heap[g]? = some (.cells (putCells Value.string 0 d cur) e fr) := by
  simp [putRow, mapBlock, Sort.ahead, Array.getElem?_modify, hb, onCells]
theorem take_put (cur : Array Value) (ts zs : List ByteArray) (h : ts.length ≤ cur.size) : (putCells Value.string 0 (ts ++ zs).toArray cur).toList.take ts.length = ts.map .string := by
  apply List.ext_getElem?
  intro j
  by_cases hj : j < ts.length
  · rw [List.getElem?_take_of_lt hj, Array.getElem?_toList]
    have h1 : j < (ts ++ zs).length := by rw [List.length_append]; omega
    have h2 : (ts ++ zs).toArray[j]! = ts[j] := by
      rw [getElem!_pos _ j (by simpa using h1)]
      simp [List.getElem_append_left hj]
    simp [putCells, show j < cur.size by omega, show j < ts.length + zs.length by omega, hj]
  · rw [List.getElem?_take_eq_none (by omega), List.getElem?_eq_none (by simp; omega)]

theorem del_any (N : ByteArray → Prop) (p : Addr) (mp base : Nat) (l : List ByteArray) (v : Value) (w : World) (hp : w.cell? p = some (.map (some mp))) (hlt : p.block < w.heap.size) (hs : SetB w mp N) (hown : w.ownsRow base 9 1 v l.length (l.map .string))
    (hne : some p.block ≠ v.ownBlock) (hl : 0 < l.length) :
    Calls Tryz.prog 51 #[v, .func (.func 52) #[] #[.pointer (some p)]] w fun e w' => ∃ v', e = .returned v' ∧ w'.ownsRow base 9 1 v' (l.filter fun s => yes (N s)).length ((l.filter fun s => yes (N s)).map .string) ∧ w.grownBy w' v.ownBlock := by
  rcases hown.2 with ⟨rfl, h0⟩ | ⟨g, cap, cur, rfl, hge, hg, hn, hm, hcs, htake⟩
  · omega
  · have hfl : (l.filter fun x => !yes (¬ N x)) = l.filter fun s => yes (N s) := by
      congr 1
      funext x
      by_cases h : N x
      · rw [yes_iff.2 h, yes_no.2 (show ¬ ¬ N x from fun k => k h)]; rfl
      · rw [yes_no.2 h, yes_iff.2 h]; rfl
    have hpg : p.block ≠ g := fun e => hne (by rw [e]; rfl)
    have hHolds : Holds Value.string w g 0 l.toArray := by
      intro j hj
      have hj' : j < l.length := by simpa using hj
      refine ⟨?_, by simp [World.frozen?, hg]⟩
      rw [hown.cellAt (0 + j) (by omega), Nat.zero_add, List.getElem?_map, List.getElem?_eq_getElem hj', getElem!_pos _ j (by simpa using hj')]
      simp
    have hover : PredOver Tryz.prog 52 #[.pointer (some p)] Value.string (fun x => yes (¬ N x)) g 0 l.toArray.size w := fun n os dk x _ => by
      have hgr : w.grownBy (sortWorld Value.string w g 0 n dk os) (some g) := grownBy_put dk
      exact not3_any N x p mp _ ((hgr.cell hp (fun e => hpg (by injection e))) ) (hs.kept hgr (fun e => by
        have e1 : g = mp := by injection e
        subst e1
        obtain ⟨es, clock, hb, -⟩ := hs
        rw [hg] at hb; cases hb))
    have hcon := AnyE.slices_DeleteFunc lDel Value.string (fun _ => rfl) (fun x => yes (¬ N x)) 52 #[.pointer (some p)] enters_not3.out ⟨#[]⟩ zeroStr g 0 cap l.toArray w
      (fun W x hb => not3_any N x p mp W ((hb.cell hlt).trans hp) (hs.kept (Ext.gr hb) (by simp))) hover hHolds (by simp [maxLen] at *; omega) (by simpa using hn)
    change Calls Tryz.prog 51 _ _ _ at hcon
    rw [List.size_toArray] at hcon
    refine hcon.mono ?_
    rintro e w' ⟨rfl, q, rfl⟩
    rw [hfl]
    have hle := List.length_filter_le (fun s => yes (N s)) l
    refine ⟨_, rfl, ⟨by simp, .inr ⟨g, cap, _, rfl, hge, heap_put _ hg, by omega, hm, by simp [putCells, hcs], ?_⟩⟩, ?_⟩
    · rw [Nat.mul_one]
      exact take_put cur _ _ (by omega)
    · have := grownBy_put (w := w) (g := g) (n := q) (off := 0) (os := #[]) ((l.filter fun s => yes (N s)) ++ List.replicate (l.length - (l.filter fun s => yes (N s)).length) (⟨#[]⟩ : ByteArray)).toArray
      rw [grow_empty] at this
      exact this

theorem check_facts {f : List Mdl} (h : checkN f = 0) : checkF f = 0 ∧ (namesF f).Nodup ∧ (∀ m, m ∈ f → rightM m) ∧ (∀ m, m ∈ f → ∀ s, s ∈ usesM m → s ∈ namesF f) ∧ (orderF f).length = f.length := by
  have h0 : checkF f = 0 := by
    unfold checkN at h
    by_cases hc : checkF f = 0
    · exact hc
    · rw [if_neg hc] at h; exact h
  unfold checkN at h
  rw [if_pos h0] at h
  by_cases h1 : (namesF f).Nodup ∧ ∀ m, m ∈ f → rightM m
  · by_cases h2 : ∀ m, m ∈ f → ∀ s, s ∈ usesM m → s ∈ namesF f
    · rw [ok_end h1 h2] at h
      refine ⟨h0, h1.1, h1.2, h2, ?_⟩
      have := (orderF_end f).1.le
      by_cases h3 : (orderF f).length < f.length
      · rw [if_pos h3] at h; omega
      · omega
    · rw [ok_71 h1 h2] at h; omega
  · rw [ok_70 h1] at h; omega
set_option maxRecDepth 20000 in
set_option maxHeartbeats 2000000 in
theorem below_any (B : Nat) (f : List Mdl) (top : ByteArray) (w : World) (vf : Value) (hT : Tabs w) (hS : Sl (RM w B) w B 4 f vf) (hB : B ≤ w.heap.size) (hsz : msize sizeM f ≤ 10000000) (hvx : ∀ m, m ∈ f → VM m) :
    Calls Tryz.prog 20 #[.agg #[vf], .string top] w fun e w' => ∃ v c, e = .returned (.tuple #[v, .int .i64 c]) ∧ Ext w w' ∧ c = (if checkN f = 0 then if (findM f top).isSome then 0 else 71 else checkN f) ∧
      (c = 0 → w'.ownsRow w.heap.size 9 1 v (belowN f top).length ((belowN f top).map .string)) ∧ (c ≠ 0 → v = .slice none 0 0) := by
  have HS := hide hS
  have hln := length_le_msize sizeM f sizeM_pos
  have HIT := hide (fun m (hm : m ∈ f) => Nat.le_trans (items_le hm) hsz)
  obtain ⟨a, cap, rfl, hcap, hrow⟩ := hS
  obtain ⟨W1, hW1, hx1, hb1⟩ := box1 w (.slice a f.length cap) 24
  have hV1 := hW1.symm
  have HX := hide hx1
  have HB1 := hide hb1
  have y0 := hb1.get1
  have GC := hide (orderN_any B f W1 _ (hT.ext HX.out) (HS.out.extRM HX.out hB) (Nat.le_trans hB HX.out.size) hsz hvx)
  clear hcap hrow hx1 hb1 hT hvx hW1
  obtain ⟨c, hc⟩ : ∃ c, c = checkN f := ⟨_, rfl⟩
  rw [← hc] at GC ⊢
  have HC := hide hc
  clear hc
  go_enter Tryz.func20, Tryz.ntmps20
  go_wp2_with fail
  go_at_call 18
  refine GC.out.mono ?_
  rintro _ w1 ⟨v, rfl, hx, ho, hv0⟩
  have HX1 := hide (HX.out.trans hx)
  have HB := hide (HB1.out.ext hx)
  have HO := hide ho
  have HV0 := hide hv0
  clear hx ho hv0 GC y0 HB1
  by_cases h0 : c = 0
  · have hne : (c != 0) = false := by simpa using h0
    have H0 := hide h0
    have hown := HO.out h0
    clear h0
    obtain ⟨W2, hW2⟩ : ∃ W2, W2 = w1.alloc (.map #[] 0) := ⟨_, rfl⟩
    have hx2 : Ext w1 W2 := by rw [hW2]; exact Ext.new _ _
    have hs2 : SetB W2 w1.heap.size (fun _ => False) := by rw [hW2]; exact SetB.new w1
    obtain ⟨W3, hW3, hx3, hb3⟩ := box1 W2 (.map none) 62
    have m1 := hb3.get1
    have n1 := hb3.free1
    obtain ⟨W4, hW4⟩ : ∃ W4, W4 = W3.setCell ⟨W2.heap.size, 0, none⟩ (.map (some w1.heap.size)) := ⟨_, rfl⟩
    have hb4 : Blk W4 W2.heap.size 62 [.map (some w1.heap.size)] := by rw [hW4]; exact hb3.store1 _
    have hx4 : Ext W2 W4 := by rw [hW4]; exact hx3.setCell (Nat.le_refl _) _
    obtain ⟨W5, hW5, hx5, hb5⟩ := box1 W4 .nilFunc 65
    have m5 := hb5.get1
    have n5 := hb5.free1
    obtain ⟨W6, hW6⟩ : ∃ W6, W6 = W5.setCell ⟨W4.heap.size, 0, none⟩ (.func (.func 50) #[] #[.pointer (some ⟨w.heap.size, 0, none⟩), .pointer (some ⟨W2.heap.size, 0, none⟩), .pointer (some ⟨W4.heap.size, 0, none⟩)]) := ⟨_, rfl⟩
    have hb6 : Blk W6 W4.heap.size 65 [.func (.func 50) #[] #[.pointer (some ⟨w.heap.size, 0, none⟩), .pointer (some ⟨W2.heap.size, 0, none⟩), .pointer (some ⟨W4.heap.size, 0, none⟩)]] := by rw [hW6]; exact hb5.store1 _
    have hx6 : Ext W4 W6 := by rw [hW6]; exact hx5.setCell (Nat.le_refl _) _
    have hmp : w.heap.size ≤ w1.heap.size := HX1.out.size
    have HD := hide (show DInv w w.heap.size W2.heap.size W4.heap.size w1.heap.size (.slice a f.length cap) (fun _ => False) W6 from
      ⟨HB.out.ext (hx2.trans (hx4.trans hx6)), hb4.ext hx6, hb6, hs2.kept (hx4.trans hx6).gr (by simp), HX1.out.trans (hx2.trans (hx4.trans hx6))⟩)
    have HOW := hide (ownsRow_ext (row_lower hown HX.out.size) (hx2.trans (hx4.trans hx6)))
    have GD := hide (down_any w B w.heap.size W2.heap.size W4.heap.size w1.heap.size (.slice a f.length cap) f HS.out hB (by omega) HIT.out hmp (unm f (fun _ => False) + 1) (fun _ => False) (by omega) top W6 HD.out)
    have y6 := hb6.get1
    have hV2 := hW2.symm
    have hV3 := hW3.symm
    have hV4 := hW4.symm
    have hV5 := hW5.symm
    have hV6 := hW6.symm
    have hmm := @run_makeMap Tryz.prog
    have hmf : ∀ (fn : Fn) (first cap : Array Value) (w : World), (Instr.makeFunc fn first cap).run Tryz.prog w = .ok (.func fn first cap) w := fun _ _ _ _ => rfl
    have hcf := enters_down.out
    have of1 : (Value.func (.func 50) #[] #[.pointer (some ⟨w.heap.size, 0, none⟩), .pointer (some ⟨W2.heap.size, 0, none⟩), .pointer (some ⟨W4.heap.size, 0, none⟩)]).oneCell' = true := rfl
    obtain ⟨va, vc, rfl⟩ := row_slice_n hown
    clear hx2 hs2 hx3 hb3 hb4 hx4 hx5 hb5 hb6 hx6 hW2 hW3 hW4 hW5 hW6 hown HO HV0 HB
    go_wp2_with fail
    go_at_call 50
    refine GD.out.mono ?_
    rintro _ w2 ⟨rfl, hg, N', hd, hi⟩
    have HI2 := hide hi
    have HDN := hide hd
    have HOW2 := hide (HOW.out.kept hg (.inr (set_ne_row HD.out.set HOW.out).symm))
    clear hi hd hg GD
    by_cases hsome : (findM f top).isSome = true
    · have HSO := hide hsome
      have hgs := hsome
      have hreach := down_reach HDN.out hsome
      have hbn : ((orderF f).filter fun s => yes (N' s)) = belowN f top := by
        unfold belowN
        congr 1
        funext s
        by_cases h : N' s
        · rw [yes_iff.2 h, yes_iff.2 ((hreach s).1 h)]
        · rw [yes_no.2 h, yes_no.2 (fun k => h ((hreach s).2 k))]
      have GL := hide (del_any N' ⟨W2.heap.size, 0, none⟩ w1.heap.size w.heap.size (orderF f) _ w2 HI2.out.mbk.get1 HI2.out.mbk.lt HI2.out.set HOW2.out (blk_ne_row (by decide) HI2.out.mbk HOW2.out) (by
        have h1 := (check_facts (HC.out.symm.trans H0.out)).2.2.2.2
        have h2 := find_isSome.1 hsome
        unfold namesF at h2
        have h3 : 0 < f.length := by
          cases f with
          | nil => cases h2
          | cons _ _ => simp
        omega))
      rw [hbn] at GL
      clear hreach hbn hsome
      go_wp2_with fail
      go_at_call 51
      refine GL.out.mono ?_
      rintro _ w3 ⟨v', rfl, hown, hg⟩
      have FIN := hide (And.intro hown (HI2.out.ext.grown hg fun r e => (HOW2.out.lt r e).1))
      clear hown hg GL
      go_wp2_with fail
      go_ret2
      exact ⟨_, _, rfl, FIN.out.2, by first | rfl | rw [if_pos H0.out, if_pos HSO.out], fun _ => FIN.out.1, fun h => absurd rfl h⟩
    · have hgs : (findM f top).isSome = false := by simpa using hsome
      have HSO := hide hgs
      clear hsome
      go_wp2_with fail
      go_ret2
      exact ⟨_, _, rfl, HI2.out.ext, by first | rfl | rw [if_pos H0.out, if_neg (by rw [HSO.out]; decide)], fun h => absurd h (by decide), fun _ => rfl⟩
  · have hne : (c != 0) = true := by simpa using h0
    have H0 := hide h0
    clear h0
    go_wp2_with fail
    go_ret2
    refine ⟨_, _, rfl, HX1.out, ?_, fun h => absurd h H0.out, fun _ => rfl⟩
    first | rfl | rw [if_neg H0.out]

end Go.Proofs.YtjoglnjpgkobeaaGreatDoor
