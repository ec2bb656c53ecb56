/-
  THE CONTRACTS OF THE REFERENCE's free, Free.
-/
import Derived.OwnWalk
import Derived.Maps.AppendAt
import Derived.Test.YtmpoheemnjpoeaaDoorRefFPk
import Derived.Test.YtmpoheemnjpoeaaDoorFreeRPk
namespace Go.Proofs.YtmpoheemnjpoeaaDoor
open Go Go.RowKit
set_option linter.all false
set_option linter.unusedVariables false
set_option linter.unusedSimpArgs false
set_option linter.unusedVariables false
set_option linter.unusedSimpArgs false
attribute [local go_sem] run_store_one

/-- An append of one, and where the new slice's row lies. -/
theorem wpList_append_fresh {P : Program} {w : World} {ops : Array Oper} {rest : List Oper} {o : Oper} {a : Act} {Q : Exit → Act → World → Prop} (hgd : o.guard = none) (s x : Operand) (t : TypeId)
    (ho : o.op = .call { callee := .builtin .append, args := #[s, x], argTypes := #[t, t] })
    (base : Nat) (e : TypeId) (i : TypeInfo) (z : Value) (size bytes : Nat) (ht : P.underlying t = some (.slice e)) (hi : P.info? e = some i) (hz : i.zero = some z)
    (hsize : i.size = size) (hby : i.bytes = bytes) (hzs : z.cells.size = size) (hsz : 0 < size) (hb : bytes ≤ 1000)
    (v : Value) (n : Nat) (xs : List Value) (hs : a.eval s = v) (hown : w.ownsRow base e size v n xs)
    (ad : Addr) (c : Nat) (news : List Value) (hx : a.eval x = .slice (some ad) 1 c) (hl : news.length = 1 * size) (hnews : ∀ j u, news[j]? = some u → w.cell? (ad.add j) = some u) (h1 : ∀ u ∈ news, u.oneCell' = true)
    (hn : n ≤ 1000000000) (hbase : base ≤ w.heap.size)
    (h : ∀ v' w', w'.ownsRow base e size v' (n + 1) (xs ++ news) → w.grownBy w' v.ownBlock → (∀ g, v'.ownBlock = some g → v.ownBlock = some g ∨ w.heap.size ≤ g) → wpList P ops Q rest (a.put o.dst v') w') : wpList P ops Q (o :: rest) a w :=
  wpList_plain hgd fun _ hK => by
    subst hsize
    have hbytes : (n + 1) * bytes ≤ 140737488355328 := by
      calc (n + 1) * bytes ≤ 1000000001 * 1000 := Nat.mul_le_mul (by omega) hb
        _ ≤ 140737488355328 := by decide
    obtain ⟨v', w', hr, h2, h3, h4⟩ := run_append_own (P := P) w base t o.type e i z i.size bytes ht hi hz rfl hby hzs hsz v n xs hown ad 1 c news hl hnews h1 (by simp only [maxLen]; omega) hbytes hbase
    have hf := append_fresh ht hi hz hby hown hl hnews h1 hn hb hr
    unfold Oper.wp execOp
    simp only [ho, resolve, invoke, builtin, Sem.run_bind, Sem.run_pure, Result.andThen_ok, List.map_toArray, List.map_cons, List.map_nil, hs, hx, hr]
    exact hK _ _ (h v' w' h2 h3 hf)
theorem grown_trans {W W1 W2 : World} {r r1 : Option Nat} (h : W.grownBy W1 r) (k : W1.grownBy W2 r1) (hf : ∀ g, r1 = some g → r = some g ∨ W.heap.size ≤ g) : W.grownBy W2 r :=
  ⟨k.os.trans h.os, k.tape.trans h.tape, k.output.trans h.output, Nat.le_trans h.size k.size, fun b hb hne => (k.block b (Nat.lt_of_lt_of_le hb h.size) (fun e => by
    rcases hf b e.symm with h' | h'
    · exact hne h'.symm
    · omega)).trans (h.block b hb hne)⟩
theorem grown_trans_alloc {w W1 W2 : World} {o : Obj} {r : Option Nat} (h : W1 = w.alloc o) (k : W1.grownBy W2 r) : w.grownBy W2 r := by
  subst h
  have hs := k.size
  exact ⟨k.os, k.tape, k.output, by simp at hs; omega, fun b hb hne => (k.block b (by simp; omega) hne).trans (Below.heap_alloc w o b hb)⟩
theorem namesX_le (x : X) : (namesX x).length ≤ sizeX x := by
  induction x using X.ind with
  | h x ih =>
    rw [namesX_eq, sizeX_eq]
    have : (x.l.flatMap namesX).length ≤ msize sizeX x.l := by
      have h : ∀ l : List X, (∀ y, y ∈ l → (namesX y).length ≤ sizeX y) → (l.flatMap namesX).length ≤ msize sizeX l := by
        intro l
        induction l with
        | nil => intro _; simp [msize]
        | cons y r ih2 =>
          intro hl
          have h1 := hl y (List.mem_cons_self ..)
          have h2 := ih2 (fun z hz => hl z (List.mem_cons_of_mem _ hz))
          rw [List.flatMap_cons, List.length_append]
          simp only [msize]
          omega
      exact h x.l ih
    have h1 : (if hasName x.op = true then [x.name] else [] : List ByteArray).length ≤ 1 := by cases hasName x.op <;> simp
    rw [List.length_append]
    omega
theorem namesXL_le (l : List X) : (l.flatMap namesX).length ≤ msize sizeX l := by
  induction l with
  | nil => simp [msize]
  | cons y r ih =>
    rw [List.flatMap_cons, List.length_append]
    simp only [msize]
    have := namesX_le y
    omega

set_option maxRecDepth 20000 in
set_option maxHeartbeats 1000000 in
theorem reffree_any (B : Nat) (x : X) : ∀ (w : World) (cs : List Value) (outs : List ByteArray) (vo : Value) (n0 : Nat), RX w B x cs → B ≤ n0 → n0 ≤ w.heap.size → w.ownsRow n0 9 1 vo outs.length (outs.map .string) → outs.length + sizeX x ≤ 100000000 →
    Calls Tryd.prog 52 #[vo, .agg cs.toArray] w fun e w' => ∃ v', e = .returned v' ∧ w'.ownsRow n0 9 1 v' (addAll outs (namesX x)).length ((addAll outs (namesX x)).map .string) ∧ w.grownBy w' vo.ownBlock ∧
      ∀ g, v'.ownBlock = some g → vo.ownBlock = some g ∨ w.heap.size ≤ g := by
  induction x using X.ind with
  | h x ih =>
  intro w cs outs vo n0 hR hBn hn0 hrow hsz
  obtain ⟨a5, rfl, hS⟩ := RX_iff.1 hR
  obtain ⟨sb, capb, rfl, hcapb, hrowx⟩ := hS
  have hln := length_le_msize sizeX x.l sizeX_pos
  have hse := sizeX_eq x
  have hvlt := hide hrow.lt
  have IH := hide (fun y hy w cs outs vo n0 => ih y hy w cs outs vo n0)
  have HROW := hide hrowx
  have HOUT := hide hrow
  have hBn := hide hBn
  have hn0 := hide hn0
  obtain ⟨W1, hW1⟩ : ∃ W1, W1 = w.alloc (.cells #[.int .i64 x.op, .string x.name, .int .i64 x.n, .int .i64 x.w, .int .u64 x.v, .slice sb x.l.length capb] 25) := ⟨_, rfl⟩
  have hV1 := hW1.symm
  have hw1s := hide (show W1.heap.size = w.heap.size + 1 by rw [hW1]; simp)
  have hb1 : Blk W1 w.heap.size 25 [.int .i64 x.op, .string x.name, .int .i64 x.n, .int .i64 x.w, .int .u64 x.v, .slice sb x.l.length capb] := by rw [hW1]; exact Blk.new w _ _
  obtain ⟨c0, c1, c2, c3, c4, c5⟩ := hb1.get6
  have BX5 := hide c5
  have hxne := hide (show some w.heap.size ≠ vo.ownBlock from fun e => by have := hvlt.out _ e.symm; omega)
  have hkeep1 := hide (show ∀ p : Addr, p.block < B → W1.cell? p = w.cell? p from fun p hp => by rw [hW1]; exact (Ext.new w _).cell (by have := hBn.out; have := hn0.out; omega))
  have HAL1 := hide hW1
  have HO1 := hide (show W1.ownsRow n0 9 1 vo outs.length (outs.map .string) by rw [hW1]; exact hrow.alloc _)
  have hSZ := hide hsz
  rename_i hBn0 hn00
  clear hW1 hb1 hrow hrowx hR ih hsz hBn0 hn00
  have hlnx : x.l.length ≤ 100000000 := by have := hSZ.out; omega
  by_cases hnm : hasName x.op = true
  · have GN := hide (fun w => (show yes (isNamed x.op) = true from (yes_named x.op).trans hnm) ▸ refnamed_any x.op w)
    by_cases hin : x.name ∈ outs
    · have GC := hide ((show yes (x.name ∈ outs) = true from yes_iff.2 hin) ▸ refAmong_any outs x.name W1 vo (SStr.of_row HO1.out) (by have := hSZ.out; omega))
      obtain ⟨outs1, houts1e⟩ : ∃ o, o = outs := ⟨_, rfl⟩
      have FINAL := hide (show addAll outs (namesX x) = addAll outs1 (x.l.flatMap namesX) by rw [namesX_eq, addAll_append, hnm, if_pos rfl, addAll_one, addOne_in hin, houts1e])
      have houts1 := hide (show outs1.length ≤ outs.length + 1 by rw [houts1e]; omega)
      have HO1' := hide (show W1.ownsRow n0 9 1 vo outs1.length (outs1.map .string) by rw [houts1e]; exact HO1.out)
      have hcount := hide (show ∀ k (hk : k < x.l.length), ((x.l.take k).flatMap namesX).length + sizeX x.l[k] + outs.length + 1 ≤ 100000000 from fun k hk => by
        have h1 := namesXL_le (x.l.take k)
        have h2 : msize sizeX (x.l.take (k + 1)) ≤ msize sizeX x.l := msize_take_le sizeX x.l (k + 1)
        have h3 := msize_take_succ sizeX x.l k hk
        have := hSZ.out
        omega)
      clear hnm hin houts1e
      go_enter Tryd.func52, Tryd.ntmps52
      go_wp2_with (first
        | (go_at_call 76; refine (GN.out _).mono ?_; rintro e w2 ⟨rfl, rfl⟩)
        | (go_at_call 32; refine GC.out.mono ?_; rintro e w2 ⟨rfl, rfl⟩))
      go_loopw [0, 5] (fun v i wr => ∃ k : Nat, k ≤ x.l.length ∧ i = .int .i64 k ∧ wr.ownsRow n0 9 1 v (addAll outs1 ((x.l.take k).flatMap namesX)).length ((addAll outs1 ((x.l.take k).flatMap namesX)).map .string) ∧ w2.grownBy wr vo.ownBlock ∧ ∀ g, v.ownBlock = some g → vo.ownBlock = some g ∨ w2.heap.size ≤ g) (fun v i _ => x.l.length - (intOf i).toNat)
      case atStart => exact ⟨0, Nat.zero_le _, rfl, by simpa [addAll_nil] using HO1'.out, ⟨rfl, rfl, rfl, Nat.le_refl _, fun _ _ _ => rfl⟩, fun g hg => .inl hg⟩
      case round =>
        obtain ⟨k, hk, rfl, hown, hgr, hfr⟩ := hrel
        have hx5 := hgr.cell BX5.out hxne.out
        have hn0r : n0 ≤ wr.heap.size := by have := hgr.size; have := hw1s.out; have := hn0.out; omega
        by_cases hlt : k < x.l.length
        · obtain ⟨b, o, v0, v1, v2, v3, v4, v5, rfl, hbB, hR, hC, o0, o1, o2, o3, o4, o5⟩ := HROW.out.open6 hlt
          have hkeep : ∀ p : Addr, p.block < B → wr.cell? p = w.cell? p := fun p hp => (World.cell?_of_block (hgr.block p.block (by have := hw1s.out; have := hn0.out; have := hBn.out; omega) (fun e => by have := hvlt.out p.block e.symm; have := hBn.out; omega))).trans (hkeep1.out p hp)
          obtain ⟨d0, d1, d2, d3, d4, d5⟩ := hC.get6
          have e0 := (hkeep ⟨b, o + k * 6, none⟩ hbB).trans d0
          have e1 := (hkeep ⟨b, o + k * 6 + 1, none⟩ hbB).trans d1
          have e2 := (hkeep ⟨b, o + k * 6 + 2, none⟩ hbB).trans d2
          have e3 := (hkeep ⟨b, o + k * 6 + 3, none⟩ hbB).trans d3
          have e4 := (hkeep ⟨b, o + k * 6 + 4, none⟩ hbB).trans d4
          have e5 := (hkeep ⟨b, o + k * 6 + 5, none⟩ hbB).trans d5
          have hle1 := addAll_le ((x.l.take k).flatMap namesX) outs1
          have hmem := msize_mem sizeX x.l x.l[k] (List.getElem_mem hlt)
          have hcnt := hcount.out k hlt
          have CALL := hide (IH.out x.l[k] (List.getElem_mem hlt) wr _ (addAll outs1 ((x.l.take k).flatMap namesX)) u0 n0 (RX.keep hkeep (Nat.le_refl _) _ _ hR) hBn.out hn0r hown (by have := houts1.out; omega))
          have hstep := hide (show addAll (addAll outs1 ((x.l.take k).flatMap namesX)) (namesX x.l[k]) = addAll outs1 ((x.l.take (k + 1)).flatMap namesX) by
            rw [List.take_succ_eq_append_getElem hlt, List.flatMap_append, addAll_append]
            simp)
          have HG := hide hgr
          have HFR := hide hfr
          clear hown hgr hfr hkeep hR hC d0 d1 d2 d3 d4 d5 hle1 hmem hcnt
          generalize x.l[k] = y at *
          go_wp2_with fail
          refine CALL.out.mono ?_
          rintro e w2 ⟨v', rfl, h1, h2, h3⟩
          have HH := hide (And.intro h1 (And.intro h2 h3))
          clear h1 h2 h3
          go_wp2_with fail
          go_roundw
          case rel =>
            refine ⟨k + 1, by omega, by go_num, by rw [← hstep.out]; exact HH.out.1, grown_trans HG.out HH.out.2.1 HFR.out, fun g hg => ?_⟩
            rcases HH.out.2.2 g hg with h | h
            · exact HFR.out g h
            · right
              have := HG.out.size
              omega
          case measure => simp [intOf]; omega
        · have hkl : k = x.l.length := by omega
          subst hkl
          rw [List.take_length] at hown
          have HO := hide (And.intro hown (And.intro hgr hfr))
          clear hown hgr hfr
          go_wp2_with fail
          go_ret
          refine ⟨_, rfl, by rw [FINAL.out]; exact HO.out.1, ?_, fun g hg => orRight (HO.out.2.2 g hg) (fun h => by have := hw1s.out; omega)⟩
          exact grown_trans_alloc HAL1.out HO.out.2.1
    · have GC := hide ((show yes (x.name ∈ outs) = false from yes_no.2 hin) ▸ refAmong_any outs x.name W1 vo (SStr.of_row HO1.out) (by have := hSZ.out; omega))
      obtain ⟨outs1, houts1e⟩ : ∃ o, o = outs ++ [x.name] := ⟨_, rfl⟩
      have FINAL := hide (show addAll outs (namesX x) = addAll outs1 (x.l.flatMap namesX) by rw [namesX_eq, addAll_append, hnm, if_pos rfl, addAll_one, addOne_out hin, houts1e])
      have houts1 := hide (show outs1.length ≤ outs.length + 1 by rw [houts1e]; simp)
      have hcount := hide (show ∀ k (hk : k < x.l.length), ((x.l.take k).flatMap namesX).length + sizeX x.l[k] + outs.length + 1 ≤ 100000000 from fun k hk => by
        have h1 := namesXL_le (x.l.take k)
        have h2 : msize sizeX (x.l.take (k + 1)) ≤ msize sizeX x.l := msize_take_le sizeX x.l (k + 1)
        have h3 := msize_take_succ sizeX x.l k hk
        have := hSZ.out
        omega)
      have HOE := hide houts1e
      obtain ⟨ti, hti, htz, hts, htb⟩ := info_parts infoS
      have hol : outs.length ≤ 1000000000 := by have := hSZ.out; omega
      clear hnm hin houts1e
      go_enter Tryd.func52, Tryd.ntmps52
      go_wp2_with (first
        | (at_builtin; refine wpList_append_fresh rfl _ _ 36 rfl n0 9 ti (.string ⟨#[]⟩) 1 16 Tryd.underlying36 hti htz hts htb rfl (by decide) (by decide) vo outs.length (outs.map .string) rfl (HO1.out.alloc _) ⟨w2.heap.size, 0, none⟩ 1 [.string x.name] rfl rfl (cell_one_new _ _ _) (by simp [Value.oneCell']) hol (by have := hw1s.out; have := hn0.out; simp; omega) ?_; intro v' w5 hown' hgrow hfresh)
        | (go_at_call 76; refine (GN.out _).mono ?_; rintro e w2 ⟨rfl, rfl⟩)
        | (go_at_call 32; refine GC.out.mono ?_; rintro e w2 ⟨rfl, rfl⟩))
      go_loopw [0, 5] (fun v i wr => ∃ k : Nat, k ≤ x.l.length ∧ i = .int .i64 k ∧ wr.ownsRow n0 9 1 v (addAll outs1 ((x.l.take k).flatMap namesX)).length ((addAll outs1 ((x.l.take k).flatMap namesX)).map .string) ∧ w2.grownBy wr vo.ownBlock ∧ ∀ g, v.ownBlock = some g → vo.ownBlock = some g ∨ w2.heap.size ≤ g) (fun v i _ => x.l.length - (intOf i).toNat)
      case atStart => exact ⟨0, Nat.zero_le _, rfl, by simpa [addAll_nil] using (show w5.ownsRow n0 9 1 v' outs1.length (outs1.map .string) by rw [HOE.out]; simpa using hown'), grown_trans_alloc rfl hgrow, fun g hg => orRight (hfresh g hg) (fun h => by simp at h; omega)⟩
      case round =>
        obtain ⟨k, hk, rfl, hown, hgr, hfr⟩ := hrel
        have hx5 := hgr.cell BX5.out hxne.out
        have hn0r : n0 ≤ wr.heap.size := by have := hgr.size; have := hw1s.out; have := hn0.out; omega
        by_cases hlt : k < x.l.length
        · obtain ⟨b, o, v0, v1, v2, v3, v4, v5, rfl, hbB, hR, hC, o0, o1, o2, o3, o4, o5⟩ := HROW.out.open6 hlt
          have hkeep : ∀ p : Addr, p.block < B → wr.cell? p = w.cell? p := fun p hp => (World.cell?_of_block (hgr.block p.block (by have := hw1s.out; have := hn0.out; have := hBn.out; omega) (fun e => by have := hvlt.out p.block e.symm; have := hBn.out; omega))).trans (hkeep1.out p hp)
          obtain ⟨d0, d1, d2, d3, d4, d5⟩ := hC.get6
          have e0 := (hkeep ⟨b, o + k * 6, none⟩ hbB).trans d0
          have e1 := (hkeep ⟨b, o + k * 6 + 1, none⟩ hbB).trans d1
          have e2 := (hkeep ⟨b, o + k * 6 + 2, none⟩ hbB).trans d2
          have e3 := (hkeep ⟨b, o + k * 6 + 3, none⟩ hbB).trans d3
          have e4 := (hkeep ⟨b, o + k * 6 + 4, none⟩ hbB).trans d4
          have e5 := (hkeep ⟨b, o + k * 6 + 5, none⟩ hbB).trans d5
          have hle1 := addAll_le ((x.l.take k).flatMap namesX) outs1
          have hmem := msize_mem sizeX x.l x.l[k] (List.getElem_mem hlt)
          have hcnt := hcount.out k hlt
          have CALL := hide (IH.out x.l[k] (List.getElem_mem hlt) wr _ (addAll outs1 ((x.l.take k).flatMap namesX)) u0 n0 (RX.keep hkeep (Nat.le_refl _) _ _ hR) hBn.out hn0r hown (by have := houts1.out; omega))
          have hstep := hide (show addAll (addAll outs1 ((x.l.take k).flatMap namesX)) (namesX x.l[k]) = addAll outs1 ((x.l.take (k + 1)).flatMap namesX) by
            rw [List.take_succ_eq_append_getElem hlt, List.flatMap_append, addAll_append]
            simp)
          have HG := hide hgr
          have HFR := hide hfr
          clear hown hgr hfr hkeep hR hC d0 d1 d2 d3 d4 d5 hle1 hmem hcnt
          generalize x.l[k] = y at *
          go_wp2_with fail
          refine CALL.out.mono ?_
          rintro e w2 ⟨v', rfl, h1, h2, h3⟩
          have HH := hide (And.intro h1 (And.intro h2 h3))
          clear h1 h2 h3
          go_wp2_with fail
          go_roundw
          case rel =>
            refine ⟨k + 1, by omega, by go_num, by rw [← hstep.out]; exact HH.out.1, grown_trans HG.out HH.out.2.1 HFR.out, fun g hg => ?_⟩
            rcases HH.out.2.2 g hg with h | h
            · exact HFR.out g h
            · right
              have := HG.out.size
              omega
          case measure => simp [intOf]; omega
        · have hkl : k = x.l.length := by omega
          subst hkl
          rw [List.take_length] at hown
          have HO := hide (And.intro hown (And.intro hgr hfr))
          clear hown hgr hfr
          go_wp2_with fail
          go_ret
          refine ⟨_, rfl, by rw [FINAL.out]; exact HO.out.1, ?_, fun g hg => orRight (HO.out.2.2 g hg) (fun h => by have := hw1s.out; omega)⟩
          exact grown_trans_alloc HAL1.out HO.out.2.1
  · have GN := hide (fun w => (show yes (isNamed x.op) = false by rw [yes_named]; simpa using hnm) ▸ refnamed_any x.op w)
    obtain ⟨outs1, houts1e⟩ : ∃ o, o = outs := ⟨_, rfl⟩
    have FINAL := hide (show addAll outs (namesX x) = addAll outs1 (x.l.flatMap namesX) by rw [namesX_eq, if_neg hnm, List.nil_append, houts1e])
    have houts1 := hide (show outs1.length ≤ outs.length + 1 by rw [houts1e]; omega)
    have HO1' := hide (show W1.ownsRow n0 9 1 vo outs1.length (outs1.map .string) by rw [houts1e]; exact HO1.out)
    have hcount := hide (show ∀ k (hk : k < x.l.length), ((x.l.take k).flatMap namesX).length + sizeX x.l[k] + outs.length + 1 ≤ 100000000 from fun k hk => by
        have h1 := namesXL_le (x.l.take k)
        have h2 : msize sizeX (x.l.take (k + 1)) ≤ msize sizeX x.l := msize_take_le sizeX x.l (k + 1)
        have h3 := msize_take_succ sizeX x.l k hk
        have := hSZ.out
        omega)
    clear hnm houts1e
    go_enter Tryd.func52, Tryd.ntmps52
    go_wp2_with (first
      | (go_at_call 76; refine (GN.out _).mono ?_; rintro e w2 ⟨rfl, rfl⟩))
    go_loopw [0, 5] (fun v i wr => ∃ k : Nat, k ≤ x.l.length ∧ i = .int .i64 k ∧ wr.ownsRow n0 9 1 v (addAll outs1 ((x.l.take k).flatMap namesX)).length ((addAll outs1 ((x.l.take k).flatMap namesX)).map .string) ∧ w2.grownBy wr vo.ownBlock ∧ ∀ g, v.ownBlock = some g → vo.ownBlock = some g ∨ w2.heap.size ≤ g) (fun v i _ => x.l.length - (intOf i).toNat)
    case atStart => exact ⟨0, Nat.zero_le _, rfl, by simpa [addAll_nil] using HO1'.out, ⟨rfl, rfl, rfl, Nat.le_refl _, fun _ _ _ => rfl⟩, fun g hg => .inl hg⟩
    case round =>
      obtain ⟨k, hk, rfl, hown, hgr, hfr⟩ := hrel
      have hx5 := hgr.cell BX5.out hxne.out
      have hn0r : n0 ≤ wr.heap.size := by have := hgr.size; have := hw1s.out; have := hn0.out; omega
      by_cases hlt : k < x.l.length
      · obtain ⟨b, o, v0, v1, v2, v3, v4, v5, rfl, hbB, hR, hC, o0, o1, o2, o3, o4, o5⟩ := HROW.out.open6 hlt
        have hkeep : ∀ p : Addr, p.block < B → wr.cell? p = w.cell? p := fun p hp => (World.cell?_of_block (hgr.block p.block (by have := hw1s.out; have := hn0.out; have := hBn.out; omega) (fun e => by have := hvlt.out p.block e.symm; have := hBn.out; omega))).trans (hkeep1.out p hp)
        obtain ⟨d0, d1, d2, d3, d4, d5⟩ := hC.get6
        have e0 := (hkeep ⟨b, o + k * 6, none⟩ hbB).trans d0
        have e1 := (hkeep ⟨b, o + k * 6 + 1, none⟩ hbB).trans d1
        have e2 := (hkeep ⟨b, o + k * 6 + 2, none⟩ hbB).trans d2
        have e3 := (hkeep ⟨b, o + k * 6 + 3, none⟩ hbB).trans d3
        have e4 := (hkeep ⟨b, o + k * 6 + 4, none⟩ hbB).trans d4
        have e5 := (hkeep ⟨b, o + k * 6 + 5, none⟩ hbB).trans d5
        have hle1 := addAll_le ((x.l.take k).flatMap namesX) outs1
        have hmem := msize_mem sizeX x.l x.l[k] (List.getElem_mem hlt)
        have hcnt := hcount.out k hlt
        have CALL := hide (IH.out x.l[k] (List.getElem_mem hlt) wr _ (addAll outs1 ((x.l.take k).flatMap namesX)) u0 n0 (RX.keep hkeep (Nat.le_refl _) _ _ hR) hBn.out hn0r hown (by have := houts1.out; omega))
        have hstep := hide (show addAll (addAll outs1 ((x.l.take k).flatMap namesX)) (namesX x.l[k]) = addAll outs1 ((x.l.take (k + 1)).flatMap namesX) by
          rw [List.take_succ_eq_append_getElem hlt, List.flatMap_append, addAll_append]
          simp)
        have HG := hide hgr
        have HFR := hide hfr
        clear hown hgr hfr hkeep hR hC d0 d1 d2 d3 d4 d5 hle1 hmem hcnt
        generalize x.l[k] = y at *
        go_wp2_with fail
        refine CALL.out.mono ?_
        rintro e w2 ⟨v', rfl, h1, h2, h3⟩
        have HH := hide (And.intro h1 (And.intro h2 h3))
        clear h1 h2 h3
        go_wp2_with fail
        go_roundw
        case rel =>
          refine ⟨k + 1, by omega, by go_num, by rw [← hstep.out]; exact HH.out.1, grown_trans HG.out HH.out.2.1 HFR.out, fun g hg => ?_⟩
          rcases HH.out.2.2 g hg with h | h
          · exact HFR.out g h
          · right
            have := HG.out.size
            omega
        case measure => simp [intOf]; omega
      · have hkl : k = x.l.length := by omega
        subst hkl
        rw [List.take_length] at hown
        have HO := hide (And.intro hown (And.intro hgr hfr))
        clear hown hgr hfr
        go_wp2_with fail
        go_ret
        refine ⟨_, rfl, by rw [FINAL.out]; exact HO.out.1, ?_, fun g hg => orRight (HO.out.2.2 g hg) (fun h => by have := hw1s.out; omega)⟩
        exact grown_trans_alloc HAL1.out HO.out.2.1


theorem grow_ext {W W' : World} (h : W.grownBy W' none) : Ext W W' := ⟨h.os, h.tape, h.output, h.size, fun k hk => h.block k hk (by simp)⟩

set_option maxRecDepth 20000 in
set_option maxHeartbeats 1000000 in
theorem refFree_any (B : Nat) (x : X) (w : World) (cs : List Value) (hR : RX w B x cs) (hB : B ≤ w.heap.size) (hsz : sizeX x ≤ 100000000) :
    Calls Tryd.prog 20 #[.agg cs.toArray] w fun e w' => ∃ v, e = .returned v ∧ w'.ownsRow w.heap.size 9 1 v (freeX x).length ((freeX x).map .string) ∧ Ext w w' := by
  have HR := hide hR
  obtain ⟨a5, rfl, hS⟩ := RX_iff.1 hR
  have o5 := hS.oneCell
  obtain ⟨W1, e1, hV1, hx1, hs1, c0, c1, c2, c3, c4, c5⟩ := boxL6 w (.int .i64 x.op) (.string x.name) (.int .i64 x.n) (.int .i64 x.w) (.int .u64 x.v) a5 25
  have G := hide (reffree_any B x e1.w _ [] (.slice none 0 0) w.heap.size (HR.out.ext (hx1.trans e1.ext) hB) hB (by have := (hx1.trans e1.ext).size; omega) (World.ownsRow_nil _ _ _ _) (by simpa using hsz))
  have hxe := hide (hx1.trans e1.ext)
  clear hR hS hsz HR
  go_enter Tryd.func20, Tryd.ntmps20
  go_wp2_with fail
  refine G.out.mono ?_
  rintro e w2 ⟨v, rfl, h1, h2, h3⟩
  have HH := hide (And.intro h1 (grow_ext h2))
  clear h1 h2 h3
  go_wp2_with fail
  go_ret
  exact ⟨_, rfl, HH.out.1, hxe.out.trans HH.out.2⟩

end Go.Proofs.YtmpoheemnjpoeaaDoor
