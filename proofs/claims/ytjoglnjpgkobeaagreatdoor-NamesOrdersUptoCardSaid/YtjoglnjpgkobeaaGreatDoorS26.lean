import Derived.Test.YtjoglnjpgkobeaaGreatDoorProg
import Derived.Test.YtjoglnjpgkobeaaGreatDoorS2
import Derived.Test.YtjoglnjpgkobeaaGreatDoorS18
import Derived.Test.YtjoglnjpgkobeaaGreatDoorS3
import Derived.Test.YtjoglnjpgkobeaaGreatDoorS11
import Derived.Test.YtjoglnjpgkobeaaGreatDoorS19
set_option linter.all false
set_option linter.unusedVariables false
set_option linter.unusedSimpArgs false
namespace Go.Proofs.YtjoglnjpgkobeaaGreatDoor
open Go Go.RowKit Go.Shelf
attribute [local go_sem] Oper.semAt_some run_store_one
theorem wpIn_loop_inv {P : Program} {C : Code} {Q : Exit → Act → World → Prop} (N : Nat) (Inv : Nat → Act → World → Prop) {a : Act} {w : World}
   (hstep : ∀ k a W, Inv k a W → C.wpIn Fence.wide 0 P (Exit.then (fun a' W' => k < N ∧ Inv (k + 1) a' W') Q) a W) (h0 : Inv 0 a w) : (Code.loop C).wpIn Fence.wide 0 P Q a w := by
 refine wpIn_loop_rounds (N + 1) ?_
 have H : ∀ m k a W, N - k < m → Inv k a W → Code.roundsIn Fence.wide 0 P C Q m a W := by
   intro m
   induction m with
   | zero => intro k a W hm; omega
   | succ m ih =>
     intro k a W hm hI
     rw [roundsIn_succ]
     refine wpIn_mono (hstep k a W hI) ?_
     intro e a' W' h
     cases e with
     | normal => exact ih (k + 1) a' W' (by have := h.1; omega) h.2
     | _ => exact h
 exact H (N + 1) 0 a w (by omega) h0
abbrev ItC (w0 : World) (B : Nat) := { p : Itm × List Value // RI w0 B p.1 p.2 }
def encI {w0 : World} {B : Nat} (x : ItC w0 B) : Array Value := #[.agg x.1.2.toArray]
def RowQ (w0 : World) (B : Nat) (W : World) (l : List Itm) (v : Value) : Prop := ∃ a cap, v = .slice a l.length cap ∧ ∀ k (h : k < l.length), ∃ b o cs, a = some ⟨b, o, none⟩ ∧ (b < B ∨ ∃ cur fr, W.heap[b]? = some (.cells cur 53 fr)) ∧ cs.length = 9 ∧ Cells W b (o + k * 9) cs ∧ RI w0 B l[k] cs
theorem itm_not_str : ¬ strT 53 := by unfold strT; decide
theorem RowQ.kq {w0 : World} {B n : Nat} {W W' : World} {l : List Itm} {v : Value} (h : RowQ w0 B W l v) (hq : Kq B n W W') : RowQ w0 B W' l v := by
 obtain ⟨a, cap, rfl, h⟩ := h
 refine ⟨a, cap, rfl, fun k hk => ?_⟩
 obtain ⟨b, o, cs, rfl, hb, h1, h2, h3⟩ := h k hk
 refine ⟨b, o, cs, rfl, ?_, h1, fun j u hu => ?_, h3⟩
 · rcases hb with hb | ⟨cur, fr, hb⟩
   · exact .inl hb
   · exact .inr ⟨cur, fr, hq.cells b cur _ fr hb itm_not_str⟩
 · rcases hb with hb | ⟨cur, fr, hb⟩
   · exact (hq.below.cell hb).trans (h2 j u hu)
   · exact (World.cell?_of_block ((hq.cells b cur _ fr hb itm_not_str).trans hb.symm)).trans (h2 j u hu)
theorem RowQ.of_sl {w0 W : World} {B : Nat} {l : List Itm} {v : Value} (h : Sl (RI w0 B) w0 B 9 l v) (hb : Below B w0 W) : RowQ w0 B W l v := by
 obtain ⟨a, cap, rfl, -, hr⟩ := h
 refine ⟨a, cap, rfl, fun k hk => ?_⟩
 obtain ⟨b, o, cs, ha, hbB, hl, hc, -, hR⟩ := hr k hk
 exact ⟨b, o, cs, ha, .inl hbB, hl, fun j u hu => (hb.cell hbB).trans (hc j u hu), hR⟩
theorem ri_one {w0 : World} {B : Nat} {x : Itm} {cs : List Value} (h : RI w0 B x cs) : ∀ u ∈ cs, u.oneCell' = true := by
 obtain ⟨v3, v4, v5, v6, v7, v8, rfl, h3, h4, h5, h6, h7, h8⟩ := RI_iff.1 h
 intro u hu
 simp only [List.mem_cons, List.not_mem_nil, or_false] at hu
 rcases hu with rfl | rfl | rfl | rfl | rfl | rfl | rfl | rfl | rfl
 · rfl
 · rfl
 · rfl
 · exact h3.oneCell
 · exact h4.oneCell
 · exact h5.oneCell
 · exact h6.oneCell
 · exact h7.oneCell
 · exact h8.oneCell
theorem sl_flat {w0 W : World} {B : Nat} {l : List Itm} {a : Option Addr} {cap : Nat} (h : Sl (RI w0 B) w0 B 9 l (.slice a l.length cap)) (hb : Below B w0 W) :
   ∃ news : List Value, Flat W 9 a l.length news ∧ ∀ k, (hk : k < l.length) → RI w0 B l[k] ((news.drop (k * 9)).take 9) := by
 obtain ⟨a', cap', he, -, hr⟩ := h
 obtain ⟨rfl, -, rfl⟩ := Value.slice.inj he
 obtain ⟨news, ⟨h1, h2, h3⟩, h4⟩ := Row.flat hr
 refine ⟨news, ⟨h1, h2, fun h0 => ?_⟩, h4⟩
 obtain ⟨b, o, rfl, hc⟩ := h3 h0
 obtain ⟨b', o', cs, he, hbB, -⟩ := hr 0 h0
 obtain ⟨rfl, rfl⟩ : b = b' ∧ o = o' := by simpa using he
 exact ⟨b, o, rfl, fun j u hu => (hb.cell hbB).trans (hc j u hu)⟩
theorem RowQ.of_own {w0 W : World} {B base : Nat} {l1 l2 : List Itm} {v : Value} {xs1 xs2 : List Value} (h : W.ownsRow base 53 9 v (l1.length + l2.length) (xs1 ++ xs2)) (z1 : xs1.length = l1.length * 9) (z2 : xs2.length = l2.length * 9)
   (h1 : ∀ k, (hk : k < l1.length) → RI w0 B l1[k] ((xs1.drop (k * 9)).take 9)) (h2 : ∀ k, (hk : k < l2.length) → RI w0 B l2[k] ((xs2.drop (k * 9)).take 9)) : RowQ w0 B W (l1 ++ l2) v := by
 rcases h.2 with ⟨rfl, h0⟩ | ⟨g, cap, cur, rfl, -, hg, hn, hm, hcur, htake⟩
 · obtain rfl : l1 = [] := List.eq_nil_of_length_eq_zero (by omega)
   obtain rfl : l2 = [] := List.eq_nil_of_length_eq_zero (by omega)
   exact ⟨none, 0, rfl, fun k hk => absurd hk (by simp)⟩
 · refine ⟨some ⟨g, 0, none⟩, cap, by rw [List.length_append], fun k hk => ?_⟩
   have hcells : ∀ j (hj : j < (l1.length + l2.length) * 9), W.cell? ⟨g, j, none⟩ = (xs1 ++ xs2)[j]? := fun j hj => h.cellAt j hj
   have hchunk : RI w0 B (l1 ++ l2)[k] (((xs1 ++ xs2).drop (k * 9)).take 9) := by
     by_cases hlt : k < l1.length
     · rw [List.getElem_append_left hlt, List.drop_append_of_le_length (by omega), List.take_append_of_le_length (by rw [List.length_drop]; omega)]
       exact h1 k hlt
     · rw [List.length_append] at hk
       rw [List.getElem_append_right (by omega), show k * 9 = xs1.length + (k - l1.length) * 9 by omega, List.drop_append]
       rw [List.drop_eq_nil_of_le (by omega), List.nil_append, Nat.add_sub_cancel_left]
       exact h2 (k - l1.length) (by omega)
   rw [List.length_append] at hk
   refine ⟨g, 0, _, rfl, .inr ⟨cur, (0, 0), hg⟩, by rw [List.length_take, List.length_drop, List.length_append]; omega, fun j u hu => ?_, hchunk⟩
   have hj : j < 9 := by
     have := (List.getElem?_eq_some_iff.1 hu).1
     rw [List.length_take] at this
     omega
   rw [Nat.zero_add, hcells _ (by omega), ← hu, List.getElem?_take, if_pos hj, List.getElem?_drop]
theorem each_call (v : Value) (hv : v.oneCell' = true) (w : World) : Calls Tryz.prog 47 #[v] w fun e w' => e = .returned (.func (.func 85) #[] #[.pointer (some ⟨w.heap.size, 0, none⟩)]) ∧ w' = w.alloc (.cells #[v] 31) := by
 have hmf : ∀ (fn : Fn) (first cap : Array Value) (w : World), (Instr.makeFunc fn first cap).run Tryz.prog w = .ok (.func fn first cap) w := fun _ _ _ _ => rfl
 go_enter Tryz.func47, Tryz.ntmps47
 go_wp2
 go_ret
 exact ⟨rfl, rfl⟩
theorem Marks.kq {B n : Nat} {ds : List Deferred} {W W' : World} (h : Marks n ds W) (hq : Kq B n W W') : Marks n ds W' :=
 ⟨fun d hd => by obtain ⟨D, h1, h2, h3⟩ := h.1 d hd; exact ⟨D, h1, h2, hq.rest D _ h3 rfl h2⟩, h.2⟩
theorem RowQ.below {w0 wc W : World} {B : Nat} {l : List Itm} {v : Value} (h : RowQ w0 B wc l v) (hb : Below wc.heap.size wc W) (hB : B ≤ wc.heap.size) : RowQ w0 B W l v := by
 obtain ⟨a, cap, rfl, h⟩ := h
 refine ⟨a, cap, rfl, fun k hk => ?_⟩
 obtain ⟨b, o, cs, rfl, hb', h1, h2, h3⟩ := h k hk
 have hlt : b < wc.heap.size := by
   rcases hb' with hb' | ⟨cur, fr, hb'⟩
   · omega
   · exact (Array.getElem?_eq_some_iff.1 hb').1
 refine ⟨b, o, cs, rfl, ?_, h1, fun j u hu => (hb.cell hlt).trans (h2 j u hu), h3⟩
 rcases hb' with hb' | ⟨cur, fr, hb'⟩
 · exact .inl hb'
 · exact .inr ⟨cur, fr, (hb.block b hlt).trans hb'⟩
theorem Kq.putNew {B n : Nat} {W W' : World} (h : Kq B n W W') {D : Nat} (hB : B ≤ W.heap.size) (hD : W.heap.size ≤ D) (o : Obj) : Kq B n W (W'.putObj D o) := by
 refine ⟨h.below.grown (grownBy_putObj' W' D o) (Nat.le_trans hB h.size) (fun r e => by cases e; omega), Nat.le_trans h.size (grownBy_putObj' W' D o).size, fun k cs t fr hk ht => ?_, fun k ob hk ho hn => ?_⟩
 · have hlt := (Array.getElem?_eq_some_iff.1 hk).1
   exact (World.putObj_heap_other (by omega)).trans (h.cells k cs t fr hk ht)
 · have hlt := (Array.getElem?_eq_some_iff.1 hk).1
   exact (World.putObj_heap_other (by omega)).trans (h.rest k ob hk ho hn)
theorem AbM.and {β : Type} {B : Nat} {I J : β → World → Prop} (h : AbM B I) (k : AbM B J) : AbM B (fun s W => I s W ∧ J s W) := fun s W W' row hs hg hr => ⟨h s W W' row hs.1 hg hr, k s W W' row hs.2 hg hr⟩
theorem marks_ab {β : Type} {n B : Nat} {ds : List Deferred} (hlt : ∀ D, ({ target := .collected D, args := #[] } : Deferred) ∈ ds → D < B) : AbM B (fun (_ : β) W => Marks n ds W) := by
 intro s W W' row hs hg hr
 refine ⟨fun d hd => ?_, hs.2⟩
 obtain ⟨D, rfl, h2, h3⟩ := hs.1 d hd
 have hD := hlt D hd
 exact ⟨D, rfl, h2, (hg.block D (Array.getElem?_eq_some_iff.1 h3).1 (fun e => by have := (hr D e.symm).1; omega)).trans h3⟩
theorem kq_ab {β : Type} {B n B' : Nat} {W0 : World} (hB : B ≤ W0.heap.size) (h : W0.heap.size ≤ B') : AbM B' (fun (_ : β) W => Kq B n W0 W) := by
 intro s W W' row hs hg hr
 refine ⟨hs.below.grown hg (Nat.le_trans hB hs.size) (fun r e => by have := (hr r e).1; omega), Nat.le_trans hs.size hg.size, fun k cs t fr hk ht => ?_, fun k ob hk ho hn => ?_⟩
 · have hlt := (Array.getElem?_eq_some_iff.1 hk).1
   exact (hg.block k (by have := hs.size; omega) (fun e => by have := (hr k e.symm).1; omega)).trans (hs.cells k cs t fr hk ht)
 · have hlt := (Array.getElem?_eq_some_iff.1 hk).1
   exact (hg.block k (by have := hs.size; omega) (fun e => by have := (hr k e.symm).1; omega)).trans (hs.rest k ob hk ho hn)
theorem blk_ab {β : Type} {B g : Nat} {t : TypeId} {cs : List Value} (h : g < B) : AbM B (fun (_ : β) W => Blk W g t cs) := fun s W W' row hs hg hr =>
 (hg.block g hs.lt (fun e => by have := (hr g e.symm).1; omega)).trans hs
theorem leaves_marks_none {P : Program} (n : Nat) (fn : Func) (tmps : Array Value) (n0 : Nat) (R : World → Prop) (Q : Ending → World → Prop) (hQ : ∀ v W, R W → Q (.returned v) W) (hfn : fn.results = #[]) (hR : ∀ (W : World) (D : Nat) (o o' : Obj), R W → n0 ≤ D → W.heap[D]? = some o → o.isCells = false → R (W.putObj D o')) :
   ∀ (ds : List Deferred) (W : World), Marks n0 ds W → R W → LeavesInM Fence.wide n P fn tmps Q ds .returning W := by
 intro ds
 induction ds with
 | nil =>
   intro W hm hr
   exact ⟨_, results_none hfn _ _ _, hQ _ _ hr⟩
 | cons d ds ih =>
   intro W hm hr
   obtain ⟨D, rfl, hD, hK⟩ := hm.1 d (List.mem_cons_self ..)
   refine ⟨by simp, .inl ⟨D, _, rfl, run_takeDeferred hK, ih _ ⟨fun d hd => ?_, (List.pairwise_cons.1 hm.2).2⟩ (hR _ _ _ _ hr hD hK rfl)⟩⟩
   obtain ⟨D', rfl, hD', hK'⟩ := hm.1 d (List.mem_cons_of_mem _ hd)
   refine ⟨D', rfl, hD', (World.putObj_heap_other (fun e => ?_)).trans hK'⟩
   subst e
   exact (List.pairwise_cons.1 hm.2).1 _ hd rfl
theorem yfn_not_str : ¬ strT 108 := by unfold strT; decide
theorem its_not_str : ¬ strT 31 := by unfold strT; decide
def EachOk (w0 : World) (B : Nat) (l : List Itm) : Prop := ∀ (wc : World) (bl : Nat) (v : Value), Below B w0 wc → B ≤ wc.heap.size → Blk wc bl 31 [v] → RowQ w0 B wc l v →
 SeqOk Tryz.prog 85 #[.pointer (some ⟨bl, 0, none⟩)] (encI (w0 := w0) (B := B)) B (fun xs => xs.map (·.1.1) = preIs l) (preIs l).length wc
theorem enters_each1 : Enters Tryz.prog 85 := ⟨fun _ _ => by kernel_rfl⟩
def EachInv {w0 : World} {B : Nat} (l : List Itm) (lp : Nat) (a0 : Value) (W : World) (J : List (ItC w0 B) → World → Prop) (k : Nat) (a : Act) (W' : World) : Prop :=
 (a.tmps.size = 29 ∧ a.tmps.getD 2 undef = .pointer (some ⟨W.heap.size, 0, none⟩) ∧ a.tmps.getD 6 undef = a0 ∧ a.tmps.getD 7 undef = .int .i64 l.length ∧ a.tmps.getD 8 undef = .int .i64 k) ∧ k ≤ l.length ∧ Marks W.heap.size a.defers W' ∧
   (∃ pre, pre.map (·.1.1) = preIs (l.take k) ∧ J pre W') ∧ Kq B W.heap.size W W' ∧ Blk W' W.heap.size 108 [.func (.yield lp) #[] #[]]
set_option maxRecDepth 100000 in
set_option maxHeartbeats 4000000 in
theorem each_step (w0 : World) (B : Nat) (hB0 : B ≤ w0.heap.size) (l : List Itm) (hln : l.length ≤ 1000000000) (hsz : ∀ x, x ∈ l → x.l.length ≤ 10000000 ∧ x.els.length ≤ 10000000) (IH : ∀ x, x ∈ l → EachOk w0 B (x.l ++ x.els)) : EachOk w0 B l := by
 intro wc bl v hbc hBc hbox hrow lp J W hW hJ hY hJ0
 have hrowW := hrow.below hW hBc
 have hboxW : Blk W bl 31 [v] := (hW.block bl hbox.lt).trans hbox
 have hltW := hboxW.lt
 obtain ⟨a, cap, rfl, hcell⟩ := hrow
 have d0 := hboxW.get1
 obtain ⟨W1, hW1⟩ : ∃ W1, W1 = W.alloc (.cells #[.func (.yield lp) #[] #[]] 108) := ⟨_, rfl⟩
 have hV1 := hW1.symm
 have hb1 : Blk W1 W.heap.size 108 [.func (.yield lp) #[] #[]] := by rw [hW1]; exact Blk.new W _ _
 have hBW : B ≤ W.heap.size := Nat.le_trans hBc hW.size
 have hk1 : Kq B W.heap.size W W1 := by rw [hW1]; exact Kq.alloc W _ hBW
 have hj1 : J [] W1 := by rw [hW1]; exact hJ.alloc _ hJ0
 have d1 : W1.cell? ⟨bl, 0, none⟩ = some (.slice a l.length cap) := (hk1.cell hboxW its_not_str).trans d0
 have HR := hide hrowW
 have H1 := hide (And.intro hb1 (And.intro hk1 hj1))
 have HB0 := hide (And.intro hbc hW)
 have HJ := hide hJ
 have HY := hide hY
 have HIH := hide IH
 have HSZ := hide hsz
 clear hbox hcell hb1 hk1 hj1 hrowW hboxW d0 hW1 hbc hJ hY hJ0 IH hsz hW
 refine callsIn_of_wp_marks Tryz.func85 rfl trivial ?_ rfl
 simp only [Tryz.ntmps85, List.size_toArray, List.length_cons, List.length_nil, Nat.reduceAdd, Nat.reduceSub, Array.replicate_succ, Array.replicate_zero, List.push_toArray, List.append_toArray, List.nil_append, List.cons_append]
 gi_wp2
 refine wpIn_loop_inv l.length (EachInv l lp (.slice a l.length cap) W J) ?_ ?_
 · rintro k a' W' ⟨⟨hs, h2, h6, h7, h8⟩, hk, hmk, ⟨pre, hpre, hj⟩, hkq, hbx⟩
   obtain ⟨ds, hd⟩ : ∃ ds, a'.defers = ds := ⟨_, rfl⟩
   rw [hd] at hmk
   rw [act_lit hs hd]
   simp only [List.range, List.range.loop, List.map_cons, List.map_nil, h2, h6, h7, h8]
   generalize a'.tmps.getD 0 undef = u0
   generalize a'.tmps.getD 1 undef = u1
   generalize a'.tmps.getD 3 undef = u3
   generalize a'.tmps.getD 4 undef = u4
   generalize a'.tmps.getD 5 undef = u5
   generalize a'.tmps.getD 9 undef = u9
   generalize a'.tmps.getD 10 undef = u10
   generalize a'.tmps.getD 11 undef = u11
   generalize a'.tmps.getD 12 undef = u12
   generalize a'.tmps.getD 13 undef = u13
   generalize a'.tmps.getD 14 undef = u14
   generalize a'.tmps.getD 15 undef = u15
   generalize a'.tmps.getD 16 undef = u16
   generalize a'.tmps.getD 17 undef = u17
   generalize a'.tmps.getD 18 undef = u18
   generalize a'.tmps.getD 19 undef = u19
   generalize a'.tmps.getD 20 undef = u20
   generalize a'.tmps.getD 21 undef = u21
   generalize a'.tmps.getD 22 undef = u22
   generalize a'.tmps.getD 23 undef = u23
   generalize a'.tmps.getD 24 undef = u24
   generalize a'.tmps.getD 25 undef = u25
   generalize a'.tmps.getD 26 undef = u26
   generalize a'.tmps.getD 27 undef = u27
   generalize a'.tmps.getD 28 undef = u28
   have HK := hide hkq
   have HM := hide hmk
   have HP := hide hpre
   have HJ9 := hide hj
   have HBX := hide hbx
   clear hs h2 h6 h7 h8 hd hkq hmk hpre hj hbx d1
   by_cases hlt : k < l.length
   · obtain ⟨a0, cap0, he0, hcells⟩ := HR.out.kq HK.out
     obtain ⟨rfl, -, rfl⟩ := Value.slice.inj he0
     obtain ⟨b, o, cs, rfl, hbo, hcl, hcc, hri⟩ := hcells k hlt
     have o1 := ri_one hri
     obtain ⟨v3, v4, v5, v6, v7, v8, rfl, -, -, hl5, hl6, -, -⟩ := RI_iff.1 hri
     have hl5' := hl5
     have hl6' := hl6
     obtain ⟨a5, c5, rfl, -, -⟩ := hl5'
     obtain ⟨a6, c6, rfl, -, -⟩ := hl6'
     have IHk := hide (HIH.out l[k] (List.getElem_mem hlt))
     have SZk := hide (HSZ.out l[k] (List.getElem_mem hlt))
     have HL5 := hide hl5
     have HL6 := hide hl6
     have PRE := hide (show preIs (l.take (k + 1)) = preIs (l.take k) ++ (l[k] :: preIs (l[k].l ++ l[k].els)) by
       rw [List.take_succ_eq_append_getElem hlt, preIs_append, preIs_append, ← preI_eq]
       show _ ++ (preI l[k] ++ []) = _
       rw [List.append_nil])
     have NLT := hide (show (preIs (l.take k) ++ (l[k] :: preIs (l[k].l ++ l[k].els))).length ≤ (preIs l).length by
       rw [← PRE.out]
       have h := congrArg (fun l => (preIs l).length) (List.take_append_drop (k + 1) l)
       simp only [preIs_append, List.length_append] at h
       omega)
     have hcc' := hcc
     obtain ⟨e0, e1, e2, e3, e4, e5, e6, e7, e8⟩ := hcc'.get9
     have hb0 := HBX.out.get1
     have hXR := hide (show ∃ y : ItC w0 B, y.1 = (l[k], _) from ⟨⟨(l[k], _), hri⟩, rfl⟩)
     clear hcc hcc' hri hl5 hl6 hcl hbo hcells HIH HSZ
     generalize l[k] = x at *
     obtain ⟨Wb, Wc, hVb, ⟨m0, m1, m2, m3, m4, m5, m6, m7, m8⟩, ⟨n0, n1, n2, n3, n4, n5, n6, n7, n8⟩, hVc, hbc, hxc, hzc⟩ := varI W' (.int .i64 x.op) (.string x.name) (.string x.of) v3 v4 (.slice a5 x.l.length c5) (.slice a6 x.els.length c6) v7 v8
     obtain ⟨ec, hec⟩ := Later.mk_ex (Ext.refl Wc)
     replace hVc := hVc.trans hec
     obtain ⟨c0, c1, c2, c3, c4, c5', c6', c7, c8⟩ := hbc.later9
     have hxe := hxc.trans ec.ext
     have yb := hxe.at_ hb0
     have hBW' : B ≤ W'.heap.size := Nat.le_trans hBW HK.out.below.size
     have hjc := HJ.out pre W' ec.w none HJ9.out (gr_none hxe) (fun r e => by cases e)
     obtain ⟨xv, hxv⟩ := hXR.out
     obtain ⟨fn, tmps, assign, bdy, hy, hRY⟩ := show YieldAt Fence.wide 0 Tryz.prog lp #[.agg #[.int .i64 x.op, .string x.name, .string x.of, v3, v4, .slice a5 x.l.length c5, .slice a6 x.els.length c6, v7, v8]] ec.w _ from by
       have := HY.out pre xv ec.w hjc (by have h1 := NLT.out; have h2 := congrArg List.length HP.out; rw [List.length_map] at h2; simp only [List.length_append, List.length_cons] at h1; omega)
       simp only [encI, hxv] at this
       exact this
     have HBC := hide (hbc.ext ec.ext)
     have HXE := hide hxe
     have HX1 := hide hxv
     clear hxv hXR hbc hxc hxe hzc hec hb0 hjc
     gi_wp2
     refine ⟨rfl, hRY.mono ?_⟩
     rintro e W4 ⟨rfl, hj4, hk4⟩
     have hb4 := hk4.blk HBC.out itm_not_str
     obtain ⟨-, -, -, -, -, q5, q6, -, -⟩ := hb4.get9
     have hk04 := HK.out.trans ((Kq.ext HXE.out (Nat.le_trans hBW HK.out.below.size)).trans (hk4))
     clear hb4
     gi_wp2_with fail
     have hB4 : B ≤ W4.heap.size := Nat.le_trans hBW hk04.size
     obtain ⟨W5, hW5⟩ : ∃ W5, W5 = W4.alloc (.cells #[.slice a5 x.l.length c5, .slice a6 x.els.length c6] 31) := ⟨_, rfl⟩
     have hbs : Blk W5 W4.heap.size 31 [.slice a5 x.l.length c5, .slice a6 x.els.length c6] := by rw [hW5]; exact Blk.new W4 _ _
     have hk05 : Kq B W.heap.size W W5 := by rw [hW5]; exact hk04.trans (Kq.alloc W4 _ hB4)
     have hj5 : J (pre ++ [xv]) W5 := by rw [hW5]; exact HJ.out.alloc _ hj4
     have hk15 : Kq B W.heap.size W' W5 := by rw [hW5]; exact ((Kq.ext HXE.out (Nat.le_trans hBW HK.out.below.size)).trans hk4).trans (Kq.alloc W4 _ hB4)
     have h0W : Below B w0 W := HB0.out.1.trans (HB0.out.2.mono hBc)
     obtain ⟨nw5, hf5, hr5⟩ := sl_flat HL5.out (h0W.trans hk05.below)
     obtain ⟨nw6, hf6, hr6⟩ := sl_flat HL6.out (h0W.trans hk05.below)
     rw [← hW5]
     refine ⟨trivial, rfl, ?_⟩
     refine (callsIn_wide.2 (concat_any _ a5 a6 _ _ c5 c6 nw5 nw6 W5 hbs hf5 hf6 SZk.out.1 SZk.out.2)).mono ?_
     rintro e W6 ⟨ac, cc, rfl, hown, hx6⟩
     have hk56 : Kq B W.heap.size W5 W6 := Kq.ext hx6 (Nat.le_trans hBW hk05.size)
     have hj6 := HJ.out _ _ _ none hj5 (gr_none hx6) (fun r e => by cases e)
     have hrq6 := RowQ.of_own hown hf5.1 hf6.1 hr5 hr6
     have S6 := hide (And.intro (hk05.trans hk56) (And.intro (hk15.trans hk56) (And.intro hj6 (And.intro hrq6 h0W))))
     clear hbs hf5 hf6 hr5 hr6 hx6 hown hj5 hk05 hk15 hk56 hj6 hrq6 hj4 hk4 hk04 h0W hW5 q5 q6
     gi_wp2_with fail
     refine ⟨trivial, rfl, ?_⟩
     refine (callsIn_wide.2 (each_call _ rfl W6)).mono ?_
     rintro e W7 ⟨rfl, hW7⟩
     obtain ⟨hk06, hk16, hj6, hrq6, h0W⟩ := S6.out
     have hB6 : B ≤ W6.heap.size := Nat.le_trans hBW hk06.size
     have hbW7 : Blk W7 W6.heap.size 31 [.slice ac (x.l.length + x.els.length) cc] := by rw [hW7]; exact Blk.new W6 _ _
     have hk67 : Kq B W.heap.size W6 W7 := by rw [hW7]; exact Kq.alloc W6 _ hB6
     have hj7 : J (pre ++ [xv]) W7 := by rw [hW7]; exact HJ.out.alloc _ hj6
     have hk07 := hk06.trans hk67
     have hB7 : B ≤ W7.heap.size := Nat.le_trans hBW hk07.size
     have hWs : W.heap.size < W7.heap.size := by have := hbW7.lt; have := hk06.size; omega
     have hseq := IHk.out W7 W6.heap.size _ (h0W.trans hk07.below) hB7 hbW7 (hrq6.kq hk67)
     have hm7 := HM.out.kq (hk16.trans hk67)
     have hbx7 := (hk16.trans hk67).blk HBX.out yfn_not_str
     have hdl : ∀ D, ({ target := .collected D, args := #[] } : Deferred) ∈ ds → D < W7.heap.size := fun D hD => by
       obtain ⟨D', he, -, h3⟩ := hm7.1 _ hD
       obtain rfl : D = D' := by injection he with e1; injection e1
       exact (Array.getElem?_eq_some_iff.1 h3).1
     have hab : AbM W7.heap.size (fun pre' X => ((J ((pre ++ [xv]) ++ pre') X ∧ Marks W.heap.size ds X) ∧ Kq B W.heap.size W X) ∧ Blk X W.heap.size 108 [.func (.yield lp) #[] #[]]) :=
       AbM.and (AbM.and (AbM.and (fun s A B' row hs hg hr => HJ.out.later (Nat.le_of_lt hWs) _ A B' row hs hg hr) (marks_ab hdl)) (kq_ab hBW (Nat.le_of_lt hWs))) (blk_ab hWs)
     have S7 := hide (And.intro hj7 (And.intro hm7 (And.intro hk07 (And.intro hbx7 (And.intro hB7 hWs)))))
     have SQ := hide hseq
     have AB := hide hab
     clear hk06 hk16 hj6 hrq6 h0W hB6 hbW7 hk67 hj7 hk07 hB7 hWs hseq hm7 hbx7 hdl S6 IHk HL5 HL6 hW7 hab e0 e1 e2 e3 e4 e5 e6 e7 e8 hRY hy yb c0 c1 c2 c3 c4 c5' c6' c7 c8 m0 m1 m2 m3 m4 m5 m6 m7 m8 n0 n1 n2 n3 n4 n5 n6 n7 n8 hVb hVc HXE HBC
     gi_wp2_with fail
     refine wpIn_range_ok (gf := 85) (lb := #[.pointer (some ⟨W6.heap.size, 0, none⟩)]) rfl enters_each1 SQ.out (Below.refl _ _) S7.out.2.2.2.2.1 (fun _ => rfl)
       (fun pre' X => ((J ((pre ++ [xv]) ++ pre') X ∧ Marks W.heap.size ds X) ∧ Kq B W.heap.size W X) ∧ Blk X W.heap.size 108 [.func (.yield lp) #[] #[]]) ?hI ?h0
       (fun y a2 X => ∃ bz, Blk X bz 53 y.1.2 ∧ a2.tmps.size = 29 ∧ a2.tmps.getD 2 undef = .pointer (some ⟨W.heap.size, 0, none⟩) ∧ a2.tmps.getD 5 undef = .pointer (some ⟨bz, 0, none⟩) ∧ a2.defers = []) ?hAx ?assign ?body ?done
     case hI => exact AB.out
     case h0 => exact ⟨⟨⟨by rw [List.append_nil]; exact S7.out.1, S7.out.2.1⟩, S7.out.2.2.1⟩, S7.out.2.2.2.1⟩
     case hAx =>
       rintro y a2 _ A B' row ⟨bz, h1, h2⟩ hg hr
       refine ⟨bz, (hg.block bz h1.lt (fun e => ?_)).trans h1, h2⟩
       obtain ⟨_, o, ho, hc⟩ := hr bz e.symm
       rw [show A.heap[bz]? = _ from h1] at ho
       cases ho
       cases hc
     case assign =>
       rintro l2 pre' ⟨⟨yi, ycs⟩, hyr⟩ X K ⟨⟨⟨hj, hm⟩, hkq⟩, hbx⟩ hK
       obtain ⟨v3', v4', v5', v6', v7', v8', hcs, -, -, -, -, -, -⟩ := RI_iff.1 (show RI w0 B yi ycs from hyr)
       subst hcs
       have o1 := ri_one (show RI w0 B yi _ from hyr)
       obtain ⟨Wb, Wc, hVb, ⟨m0, m1, m2, m3, m4, m5, m6, m7, m8⟩, ⟨n0, n1, n2, n3, n4, n5, n6, n7, n8⟩, hVc, hbc, hxc, hzc⟩ := varI X (.int .i64 yi.op) (.string yi.name) (.string yi.of) v3' v4' v5' v6' v7' v8'
       have HKK := hide hK
       have HH := hide (And.intro hj (And.intro hm (And.intro hkq (And.intro hbx (And.intro hbc hxc)))))
       clear hK hj hm hkq hbx hbc hxc hzc
       simp only [encI]
       gi_wp2
       obtain ⟨hj, hm, hkq, hbx, hbc, hxc⟩ := HH.out
       exact HKK.out _ _ (Kq.ext hxc (Nat.le_trans hBW hkq.size)) (AB.out pre' X Wc none ⟨⟨⟨hj, hm⟩, hkq⟩, hbx⟩ (gr_none hxc) (fun r e => by cases e)) ⟨_, hbc, rfl, rfl, rfl, rfl⟩
     case body =>
       rintro l2 pre' ⟨⟨yi, ycs⟩, hyr⟩ a2 X hl - ⟨⟨⟨hj, hm⟩, hkq⟩, hbx⟩ ⟨bz, hz, hs, h2, h5, hd⟩ hln2
       obtain ⟨v3', v4', v5', v6', v7', v8', hcs, -, -, -, -, -, -⟩ := RI_iff.1 (show RI w0 B yi ycs from hyr)
       subst hcs
       have hyy := HY.out _ ⟨(yi, _), hyr⟩ X hj (by
         have h1 := NLT.out
         have h2 := congrArg List.length HP.out
         rw [List.length_map] at h2
         simp only [List.length_append, List.length_cons, List.length_nil] at h1 hln2 ⊢
         omega)
       simp only [encI] at hyy
       obtain ⟨fn, tmps, assign, bdy, hy, hRY⟩ := show YieldAt (Fence.wide.inRound l2) 0 Tryz.prog lp _ X _ from hyy
       rw [act_lit hs hd]
       simp only [List.range, List.range.loop, List.map_cons, List.map_nil, h2, h5]
       generalize a2.tmps.getD 0 undef = z0
       generalize a2.tmps.getD 1 undef = z1
       generalize a2.tmps.getD 3 undef = z3
       generalize a2.tmps.getD 4 undef = z4
       generalize a2.tmps.getD 6 undef = z6
       generalize a2.tmps.getD 7 undef = z7
       generalize a2.tmps.getD 8 undef = z8
       generalize a2.tmps.getD 9 undef = z9
       generalize a2.tmps.getD 10 undef = z10
       generalize a2.tmps.getD 11 undef = z11
       generalize a2.tmps.getD 12 undef = z12
       generalize a2.tmps.getD 13 undef = z13
       generalize a2.tmps.getD 14 undef = z14
       generalize a2.tmps.getD 15 undef = z15
       generalize a2.tmps.getD 16 undef = z16
       generalize a2.tmps.getD 17 undef = z17
       generalize a2.tmps.getD 18 undef = z18
       generalize a2.tmps.getD 19 undef = z19
       generalize a2.tmps.getD 20 undef = z20
       generalize a2.tmps.getD 21 undef = z21
       generalize a2.tmps.getD 22 undef = z22
       generalize a2.tmps.getD 23 undef = z23
       generalize a2.tmps.getD 24 undef = z24
       generalize a2.tmps.getD 25 undef = z25
       generalize a2.tmps.getD 26 undef = z26
       generalize a2.tmps.getD 27 undef = z27
       generalize a2.tmps.getD 28 undef = z28
       have HH := hide (And.intro hj (And.intro hm (And.intro hkq hbx)))
       have yb := hbx.get1
       obtain ⟨c0, c1, c2, c3, c4, c5', c6', c7, c8⟩ := hz.get9
       clear hs h2 h5 hd hj hm hkq hyy
       gi_wp2
       refine ⟨rfl, hRY.mono ?_⟩
       rintro e X4 ⟨rfl, hj4, hk4⟩
       have FIN := hide (And.intro hj4 (And.intro (HH.out.2.1.kq hk4) (And.intro (HH.out.2.2.1.trans hk4) (And.intro (hk4.blk HH.out.2.2.2 yfn_not_str) (hk4.later (Nat.le_of_lt S7.out.2.2.2.2.2))))))
       clear hj4 hk4
       gi_wp2
       refine ⟨FIN.out.2.2.2.2, ⟨⟨?_, FIN.out.2.1⟩, FIN.out.2.2.1⟩, FIN.out.2.2.2.1⟩
       have h := FIN.out.1
       simpa only [List.append_assoc, List.cons_append, List.nil_append] using h
     case done =>
       rintro D xs X hD hS ⟨⟨⟨hj, hm⟩, hkq⟩, hbx⟩ hkq2 hDd
       have FIN := hide (And.intro hj (And.intro (Marks.push S7.out.2.1 hm hD (by have := S7.out.2.2.2.2.2; omega) hDd) (And.intro hkq hbx)))
       have PR := hide (show ((pre ++ [xv]) ++ xs).map (·.1.1) = preIs (l.take (k + 1)) from by
         rw [PRE.out, List.map_append, List.map_append, HP.out, hS, List.map_cons, List.map_nil, HX1.out, List.append_assoc]; rfl)
       clear hj hm hkq hbx hkq2 hDd hS
       gi_wp2
       exact ⟨hlt, ⟨rfl, rfl, rfl, rfl, rfl⟩, hlt, FIN.out.2.1, ⟨_, PR.out, FIN.out.1⟩, FIN.out.2.2.1, FIN.out.2.2.2⟩
   · have hkl : k = l.length := by omega
     subst hkl
     gi_wp2
     refine leaves_marks_none 0 _ _ W.heap.size (fun w' => J pre w' ∧ Kq B W.heap.size W w') _ ?_ rfl ?_ ds W' HM.out ⟨HJ9.out, HK.out⟩
     · rintro v w' ⟨h2, h3⟩
       exact ⟨⟨v, rfl⟩, pre, by rw [HP.out, List.take_length], h2, h3⟩
     · rintro X D o o' ⟨h1, h2⟩ hD ho hc
       exact ⟨HJ.out.putObj o' h1 hD ho hc, h2.putNew hBW hD o'⟩
 · refine ⟨⟨rfl, rfl, rfl, rfl, rfl⟩, Nat.zero_le _, ⟨(fun d hd => by cases hd), .nil⟩, ⟨[], by simp [preIs], H1.out.2.2⟩, H1.out.2.1, H1.out.1⟩
theorem each_any (w0 : World) (B : Nat) (hB0 : B ≤ w0.heap.size) : ∀ (n : Nat) (l : List Itm), msize sizeI l ≤ n → n ≤ 10000000 → EachOk w0 B l := by
 intro n
 induction n with
 | zero =>
   intro l hl hn
   have h0 := length_le_msize sizeI l sizeI_pos
   exact each_step w0 B hB0 l (by omega) (fun x hx => by have := msize_mem sizeI l x hx; have := sizeI_pos x; omega) fun x hx => by have := msize_mem sizeI l x hx; have := sizeI_pos x; omega
 | succ n ih =>
   intro l hl hn
   have h0 := length_le_msize sizeI l sizeI_pos
   refine each_step w0 B hB0 l (by omega) (fun x hx => ?_) fun x hx => ?_
   · have h1 := msize_mem sizeI l x hx
     have h2 := sizeI_eq x
     have h3 := length_le_msize sizeI x.l sizeI_pos
     have h4 := length_le_msize sizeI x.els sizeI_pos
     omega
   · have h1 := msize_mem sizeI l x hx
     have h2 := sizeI_eq x
     exact ih _ (by rw [msize_append]; omega) (by omega)
end Go.Proofs.YtjoglnjpgkobeaaGreatDoor
