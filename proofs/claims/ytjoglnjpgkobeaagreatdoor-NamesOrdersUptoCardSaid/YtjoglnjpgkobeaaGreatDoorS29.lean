import Derived.Test.YtjoglnjpgkobeaaGreatDoorProg
import Derived.Test.YtjoglnjpgkobeaaGreatDoorS26
import Derived.Test.YtjoglnjpgkobeaaGreatDoorS6
import Derived.Test.YtjoglnjpgkobeaaGreatDoorS28
import Derived.Test.YtjoglnjpgkobeaaGreatDoorS17
import Derived.Test.YtjoglnjpgkobeaaGreatDoorS3
import Derived.Test.YtjoglnjpgkobeaaGreatDoorS27
import Derived.Test.YtjoglnjpgkobeaaGreatDoorS18
import Derived.Test.YtjoglnjpgkobeaaGreatDoorS4
import Derived.Test.YtjoglnjpgkobeaaGreatDoorS11
set_option linter.all false
set_option linter.unusedVariables false
set_option linter.unusedSimpArgs false
namespace Go.Proofs.YtjoglnjpgkobeaaGreatDoor
open Go Go.RowKit Go.Shelf
attribute [local go_sem] Oper.semAt_some run_store_one
theorem infoT : (Tryz.prog.info? 9).map (fun i => (i.zero, i.size, i.bytes)) = some (some (.string ⟨#[]⟩), 1, 16) := by kernel_rfl
theorem containsT_any (outs : List ByteArray) (vo : Value) (nm : ByteArray) (w : World) (n0 : Nat) (h : w.ownsRow n0 9 1 vo outs.length (outs.map .string)) :
   Calls Tryz.prog 48 #[vo, .string nm] w fun e w' => e = .returned (.bool (yes (nm ∈ outs))) ∧ w' = w := by
 rcases h.2 with ⟨rfl, h0⟩ | ⟨g, cap, cur, rfl, _, hg, _, hm, _⟩
 · have : outs = [] := List.eq_nil_of_length_eq_zero h0
   subst this
   rw [show yes (nm ∈ ([] : List ByteArray)) = false from yes_no.2 (fun h => by cases h)]
   exact Tryz.slices_Contains_string_empty none 0 nm w
 · have hc := Tryz.slices_Contains_string g 0 outs.length cap outs nm w (Nat.le_refl _) (by simp only [maxLen] at hm; omega) (fun j hj => by
     rw [h.cellAt (0 + j) (by omega), Nat.zero_add, List.getElem?_map, List.getElem?_eq_getElem hj]
     simp [List.getD, hj])
   rw [List.take_length] at hc
   have he : Go.Lib.containsS outs nm = yes (nm ∈ outs) := by rw [Bool.eq_iff_iff, Go.Lib.containsS_iff, yes_iff]
   rw [← he]
   exact hc
theorem leaves_row (n : Nat) (fn : Func) (tmps : Array Value) (w0 : World) (vo : Value) (outs : List ByteArray) (hfn : fn.results = #[.tmp 2]) (ht : tmps.getD 2 undef = vo) :
   ∀ (ds : List Deferred) (W : World), Marks w0.heap.size ds W → W.ownsRow w0.heap.size 9 1 vo outs.length (outs.map .string) → Below w0.heap.size w0 W →
     LeavesInM Fence.wide n Tryz.prog fn tmps (fun e w' => ∃ v, e = .returned v ∧ w'.ownsRow w0.heap.size 9 1 v outs.length (outs.map .string) ∧ Ext w0 w') ds .returning W := by
 intro ds
 induction ds with
 | nil =>
   intro W hm ho hb
   exact ⟨_, results_tmp hfn _ _ _, _, rfl, by rw [ht]; exact ho, hb⟩
 | cons d ds ih =>
   intro W hm ho hb
   obtain ⟨D, rfl, hD, hK⟩ := hm.1 d (List.mem_cons_self ..)
   refine ⟨by simp, .inl ⟨D, _, rfl, run_takeDeferred hK, ih _ ⟨fun d hd => ?_, (List.pairwise_cons.1 hm.2).2⟩ (ownsRow_putObj ho _ hK rfl) (hb.trans (belowK_b (w := w0) (Nat.le_refl _) W D _ _ hD hK rfl rfl))⟩⟩
   obtain ⟨D', rfl, hD', hK'⟩ := hm.1 d (List.mem_cons_of_mem _ hd)
   refine ⟨D', rfl, hD', (World.putObj_heap_other (fun e => ?_)).trans hK'⟩
   subst e
   exact (List.pairwise_cons.1 hm.2).1 _ hd rfl
theorem preI_len : ∀ x : Itm, (preI x).length ≤ sizeI x := by
 intro x
 induction x using Itm.ind with
 | h x h1 h2 =>
   have hl : ∀ l : List Itm, (∀ y, y ∈ l → (preI y).length ≤ sizeI y) → (preIs l).length ≤ msize sizeI l := by
     intro l
     induction l with
     | nil => intro _; exact Nat.le_refl _
     | cons y r ih =>
       intro h
       show (preI y ++ preIs r).length ≤ sizeI y + msize sizeI r
       rw [List.length_append]
       have := h y (List.mem_cons_self ..)
       have := ih fun z hz => h z (List.mem_cons_of_mem _ hz)
       omega
   have := hl _ h1
   have := hl _ h2
   have := sizeI_eq x
   rw [preI_eq, List.length_cons, List.length_append]
   omega
theorem preIs_len (l : List Itm) : (preIs l).length ≤ msize sizeI l := by
 induction l with
 | nil => exact Nat.le_refl _
 | cons y r ih =>
   show (preI y ++ preIs r).length ≤ sizeI y + msize sizeI r
   rw [List.length_append]
   have := preI_len y
   omega
theorem ofOne_len (l : List Itm) : (l.flatMap ofOne).length ≤ l.length := by
 induction l with
 | nil => exact Nat.le_refl _
 | cons y r ih =>
   rw [List.flatMap_cons, List.length_append, List.length_cons]
   have : (ofOne y).length ≤ 1 := by unfold ofOne; split <;> simp
   omega
noncomputable def outsU {w0 : World} {B : Nat} (pre : List (ItC w0 B)) : List ByteArray := addAll [] ((pre.map (·.1.1)).flatMap ofOne)
theorem outsU_le {w0 : World} {B : Nat} (pre : List (ItC w0 B)) : (outsU pre).length ≤ pre.length := by
 have h1 := addAll_le ((pre.map (·.1.1)).flatMap ofOne) []
 have h2 := ofOne_len (pre.map (·.1.1))
 rw [List.length_map] at h2
 simp only [List.length_nil] at h1
 unfold outsU
 omega
theorem outsU_step {w0 : World} {B : Nat} (pre : List (ItC w0 B)) (x : ItC w0 B) : outsU (pre ++ [x]) = addAll (outsU pre) (ofOne x.1.1) := by
 unfold outsU
 rw [List.map_append, List.flatMap_append, addAll_append]
 simp
def UsesInv {w0 : World} {B : Nat} (w : World) (lb : Nat) (pre : List (ItC w0 B)) (X : World) : Prop :=
 ∃ vo, Blk X lb 38 [vo] ∧ X.ownsRow w.heap.size 9 1 vo (outsU pre).length ((outsU pre).map .string) ∧ Below w.heap.size w X
theorem str_in : strT 9 := .inl rfl
theorem strs_in : strT 38 := .inr rfl
theorem usesInv_ab {w0 w W3 : World} {B lb : Nat} (h : w.heap.size ≤ W3.heap.size) : AbM W3.heap.size (UsesInv (w0 := w0) (B := B) w lb) := by
 rintro pre X Y row ⟨vo, h1, h2, h3⟩ hg hr
 refine ⟨vo, (hg.block lb h1.lt (fun e => ?_)).trans h1, h2.kept hg ?_, h3.grown hg (by have := h3.size; omega) (fun r e => Nat.le_trans h (hr r e).1)⟩
 · obtain ⟨_, o, ho, hm⟩ := hr lb e.symm
   rw [show X.heap[lb]? = _ from h1] at ho
   cases ho
   exact hm strs_in
 · rcases row_cells h2 with h0 | ⟨g, cur, hv, hg2⟩
   · exact .inl h0
   · refine .inr fun e => ?_
     rw [hv] at e
     obtain ⟨_, o, ho, hm⟩ := hr g e.symm
     rw [hg2] at ho
     cases ho
     exact hm str_in
theorem row_slice {X : World} {base k : Nat} {vo : Value} {xs : List Value} (h : X.ownsRow base 9 1 vo k xs) : ∃ a l c, vo = .slice a l c := by
 rcases h.2 with ⟨rfl, _⟩ | ⟨g, cap, cur, rfl, _⟩ <;> exact ⟨_, _, _, rfl⟩
theorem str_ne_box {X : World} {lb base k : Nat} {vo u : Value} {xs : List Value} (hbo : Blk X lb 38 [u]) (hro : X.ownsRow base 9 1 vo k xs) : some lb ≠ vo.ownBlock := by
 rcases row_cells hro with h0 | ⟨g', cur, h1, h2⟩
 · rw [h0]; simp
 · intro e
   rw [h1] at e
   cases e
   have := (show X.heap[_]? = _ from hbo).symm.trans h2
   simp at this
theorem uses_push {w X W5 : World} (B n : Nat) {lb k k' : Nat} {vo v' : Value} {xs xs' : List Value} (hB : B ≤ w.heap.size) (hlb : w.heap.size ≤ lb) (hbo : Blk X lb 38 [vo]) (hro : X.ownsRow w.heap.size 9 1 vo k xs) (hbw : Below w.heap.size w X) (o : Obj)
   (hown : W5.ownsRow w.heap.size 9 1 v' k' xs') (hg : (X.alloc o).grownBy W5 vo.ownBlock) :
   W5.frozen? ⟨lb, 0, none⟩ = false ∧ Blk (W5.setCell ⟨lb, 0, none⟩ v') lb 38 [v'] ∧ (W5.setCell ⟨lb, 0, none⟩ v').ownsRow w.heap.size 9 1 v' k' xs' ∧ Below w.heap.size w (W5.setCell ⟨lb, 0, none⟩ v') ∧ Kq B n X (W5.setCell ⟨lb, 0, none⟩ v') := by
 have hne := str_ne_box hbo hro
 have hb4 : Blk (X.alloc o) lb 38 [vo] := hbo.ext (Ext.new X o)
 have hb5 : Blk W5 lb 38 [vo] := (hg.block lb hb4.lt hne).trans hb4
 have hsB := hbw.size
 have hrow : ∀ r, vo.ownBlock = some r → w.heap.size ≤ r ∧ ∃ cur, X.heap[r]? = some (.cells cur 9 (0, 0)) := by
   intro r e
   rcases hro.2 with ⟨rfl, _⟩ | ⟨g, cap, cur, rfl, hge, hgb, _⟩
   · cases e
   · obtain rfl : g = r := by simpa [Value.ownBlock] using e
     exact ⟨hge, cur, hgb⟩
 have hq4 : Kq B n X (X.alloc o) := Kq.alloc X o (by omega)
 have hq5 : Kq B n (X.alloc o) W5 := Kq.grown hg (by simp; omega) (fun r e => by
   obtain ⟨h1, cur, h2⟩ := hrow r e
   refine ⟨by omega, fun o' ho' => .inl ?_⟩
   rw [(Ext.new X o).block r (Array.getElem?_eq_some_iff.1 h2).1, h2] at ho'
   cases ho'
   exact ⟨_, _, _, rfl, str_in⟩)
 have hq6 : Kq B n W5 (W5.setCell ⟨lb, 0, none⟩ v') := Kq.grown (grownBy_setCell' W5 lb v') (by have := hq4.size; have := hq5.size; omega) (fun r e => by
   cases e
   refine ⟨by omega, fun o' ho' => .inl ?_⟩
   rw [show W5.heap[lb]? = _ from hb5] at ho'
   cases ho'
   exact ⟨_, _, _, rfl, strs_in⟩)
 refine ⟨hb5.free1, ?_, ?_, ?_, (hq4.trans hq5).trans hq6⟩
 · exact hb5.store1 v'
 · exact hown.kept (grownBy_setCell' W5 lb v') (.inr (str_ne_box hb5 hown).symm)
 · exact ((hbw.alloc (by omega) o).grown hg (by simp; omega) (fun r e => (hrow r e).1)).grown (grownBy_setCell' W5 lb v') (by have := hq4.size; have := hq5.size; omega) (fun r e => by cases e; exact hlb)
set_option maxRecDepth 100000 in
set_option maxHeartbeats 4000000 in
theorem uses_any (B : Nat) (m : Mdl) (w : World) (cs : List Value) (hR : RM w B m cs) (hB : B ≤ w.heap.size) (hsz : msize sizeI m.items ≤ 10000000) :
   Calls Tryz.prog 16 #[.agg cs.toArray] w fun e w' => ∃ v, e = .returned v ∧ w'.ownsRow w.heap.size 9 1 v (usesM m).length ((usesM m).map .string) ∧ Ext w w' := by
 obtain ⟨v1, v2, v3, rfl, hp1, hq1, hi1⟩ := hR
 have o1 := hp1.oneCell
 have o2 := hq1.oneCell
 have o3 := hi1.oneCell
 have EA := hide (each_any w B hB 10000000 m.items hsz (Nat.le_refl _))
 have HPL := hide (Nat.le_trans (preIs_len m.items) hsz)
 obtain ⟨W1, e1, hV1, hx1, hz1, c0, c1, c2, c3⟩ := boxL4 w (.string m.name) v1 v2 v3 33
 obtain ⟨W2, hW2⟩ : ∃ W2, W2 = e1.w.alloc (.cells #[.slice none 0 0] 38) := ⟨_, rfl⟩
 have hV2 := hW2.symm
 have hx2 : Ext e1.w W2 := by rw [hW2]; exact Ext.new _ _
 have hb2 : Blk W2 e1.w.heap.size 38 [.slice none 0 0] := by rw [hW2]; exact Blk.new e1.w _ _
 have c3 := (hx2.at_ (c3 e1))
 have hq2 := (hx1.trans e1.ext).trans hx2
 have HX2 := hide hq2
 have HLB0 := (hx1.trans e1.ext).size
 have HI := hide hi1
 have HB2 := hide hb2
 clear hp1 hq1 hi1 hx1 hz1 hsz hx2 hb2 hW2 hq2
 refine (callsIn_wide (n := 0)).1 ?_
 refine callsIn_of_wp_marks Tryz.func16 rfl trivial ?_ rfl
 simp only [Tryz.ntmps16, List.size_toArray, List.length_cons, List.length_nil, Nat.reduceAdd, Nat.reduceSub, Array.replicate_succ, Array.replicate_zero, List.push_toArray, List.append_toArray, List.nil_append, List.cons_append]
 gi_wp2
 refine ⟨trivial, rfl, ?_⟩
 refine (callsIn_wide.2 (each_call _ o3 W2)).mono ?_
 rintro e W3 ⟨rfl, hW3⟩
 have hx3 : Ext W2 W3 := by rw [hW3]; exact Ext.new _ _
 have hb3 : Blk W3 W2.heap.size 31 [v3] := by rw [hW3]; exact Blk.new W2 _ _
 have hB3 : B ≤ W3.heap.size := Nat.le_trans hB (HX2.out.trans hx3).size
 have hX3 := HX2.out.trans hx3
 have SQ := hide (EA.out W3 W2.heap.size v3 (Below.mono hX3 hB) hB3 hb3 (RowQ.of_sl HI.out (Below.mono hX3 hB)))
 have I3 := hide (show UsesInv (w0 := w) (B := B) w e1.w.heap.size [] W3 from ⟨_, HB2.out.ext hx3, World.ownsRow_nil _ _ _ _, hX3⟩)
 have H3 := hide (And.intro hB3 hX3)
 have HLB := hide HLB0
 clear hx3 hb3 hB3 hX3 hW3 EA HI HB2 HX2 c0 c1 c2 c3 hV1 hV2
 gi_wp2
 refine wpIn_range_ok (gf := 85) (lb := #[.pointer (some ⟨W2.heap.size, 0, none⟩)]) rfl enters_each1 SQ.out (Below.refl _ _) H3.out.1 (fun _ => rfl)
   (UsesInv w e1.w.heap.size) (usesInv_ab H3.out.2.size) I3.out
   (fun y a2 X => ∃ bz, Blk X bz 53 y.1.2 ∧ a2.tmps.size = 25 ∧ a2.tmps.getD 1 undef = .pointer (some ⟨w.heap.size, 0, none⟩) ∧ a2.tmps.getD 3 undef = .pointer (some ⟨e1.w.heap.size, 0, none⟩) ∧ a2.tmps.getD 4 undef = .pointer (some ⟨bz, 0, none⟩) ∧ a2.defers = []) ?hAx ?assign ?body ?done
 case hAx =>
   rintro y a2 _ A B' row ⟨bz, h1, h2⟩ hg hr
   refine ⟨bz, (hg.block bz h1.lt (fun e => ?_)).trans h1, h2⟩
   obtain ⟨_, o, ho, hc⟩ := hr bz e.symm
   rw [show A.heap[bz]? = _ from h1] at ho
   cases ho
   cases hc
 case assign =>
   rintro l2 pre ⟨⟨yi, ycs⟩, hyr⟩ X K hinv hK
   obtain ⟨v3', v4', v5', v6', v7', v8', hcs, -, -, -, -, -, -⟩ := RI_iff.1 (show RI w B yi ycs from hyr)
   subst hcs
   have o1 := ri_one (show RI w B yi _ from hyr)
   obtain ⟨Wb, Wc, hVb, ⟨m0, m1, m2, m3, m4, m5, m6, m7, m8⟩, ⟨n0, n1, n2, n3, n4, n5, n6, n7, n8⟩, hVc, hbc, hxc, hzc⟩ := varI X (.int .i64 yi.op) (.string yi.name) (.string yi.of) v3' v4' v5' v6' v7' v8'
   have HKK := hide hK
   have HH := hide (And.intro hinv (And.intro hbc hxc))
   clear hK hinv hbc hxc hzc
   simp only [encI]
   gi_wp2
   obtain ⟨hinv, hbc, hxc⟩ := HH.out
   have hBX : B ≤ X.heap.size := by obtain ⟨_, -, -, hb⟩ := hinv; exact Nat.le_trans hB hb.size
   exact HKK.out _ _ (Kq.ext hxc hBX) (usesInv_ab H3.out.2.size _ _ _ none hinv (gr_none hxc) (fun r e => by cases e)) ⟨_, hbc, rfl, rfl, rfl, rfl, rfl⟩
 case body =>
   rintro l2 pre y a2 X hl - ⟨vo, hbo, hro, hbw⟩ ⟨bz, hz, hs, h1, h3, h4, hd⟩ hlen
   have hstep := outsU_step pre y
   have hol := outsU_le pre
   obtain ⟨v3', v4', v5', v6', v7', v8', hcs, -, -, -, -, -, -⟩ := RI_iff.1 y.2
   rw [hcs] at hz
   clear hcs
   obtain ⟨P2, hP2⟩ : ∃ P2, P2 = pre ++ [y] := ⟨_, rfl⟩
   rw [← hP2] at hstep ⊢
   clear hP2
   generalize y.1.1 = yi at *
   rw [act_lit hs hd]
   simp only [List.range, List.range.loop, List.map_cons, List.map_nil, h1, h3, h4]
   generalize a2.tmps.getD 0 undef = z0
   generalize a2.tmps.getD 2 undef = z2
   generalize a2.tmps.getD 5 undef = z5
   generalize a2.tmps.getD 6 undef = z6
   generalize a2.tmps.getD 7 undef = z7
   generalize a2.tmps.getD 8 undef = z8
   generalize a2.tmps.getD 9 undef = z9
   generalize a2.tmps.getD 10 undef = z10
   generalize a2.tmps.getD 11 undef = z11
   generalize a2.tmps.getD 12 undef = z12
   generalize a2.tmps.getD 13 undef = z13
   generalize a2.tmps.getD 14 undef = z14
   generalize a2.tmps.getD 15 undef = z15
   generalize a2.tmps.getD 16 undef = z16
   generalize a2.tmps.getD 17 undef = z17
   generalize a2.tmps.getD 18 undef = z18
   generalize a2.tmps.getD 19 undef = z19
   generalize a2.tmps.getD 20 undef = z20
   generalize a2.tmps.getD 21 undef = z21
   generalize a2.tmps.getD 22 undef = z22
   generalize a2.tmps.getD 23 undef = z23
   generalize a2.tmps.getD 24 undef = z24
   have hol2 : (outsU pre).length ≤ 10000000 := by have := HPL.out; omega
   have yb := hbo.get1
   have yf := hbo.free1
   obtain ⟨c0, c1, c2, c3, c4, c5', c6', c7, c8⟩ := hz.get9
   have HH := hide (And.intro hbo (And.intro hro (And.intro hbw hz)))
   have HB := hide hB
   have HNE := hide (str_ne_box hbo hro)
   clear hs h1 h3 h4 hd hbo hro hbw hz hol hlen
   by_cases hop : yi.op = 7
   · have hone : ofOne yi = [yi.of] := by unfold ofOne; rw [if_pos hop]
     have p1 : (yi.op == 7) = true := by rw [hop]; rfl
     have HY := hide (show outsU P2 = addOne (outsU pre) yi.of from by rw [hstep, hone, addAll_one])
     clear hstep hone
     have hne := HNE.out
     by_cases hin : yi.of ∈ outsU pre
     · have GC := hide ((show yes (yi.of ∈ outsU pre) = true from yes_iff.2 hin) ▸ containsT_any (outsU pre) vo yi.of X w.heap.size HH.out.2.1)
       have hinv : UsesInv w e1.w.heap.size P2 X := ⟨vo, HH.out.1, by rw [HY.out, addOne_in hin]; exact HH.out.2.1, HH.out.2.2.1⟩
       have FIN := hide hinv
       clear hinv hin HY hne
       gi_wp2_with (first
         | (refine ⟨trivial, rfl, ?_⟩; refine (callsIn_wide.2 GC.out).mono ?_; rintro e w4 ⟨rfl, rfl⟩)
         | refine ⟨trivial, ?_⟩)
       exact ⟨Kq.refl _ _ _, FIN.out⟩
     · have GC := hide ((show yes (yi.of ∈ outsU pre) = false from yes_no.2 hin) ▸ containsT_any (outsU pre) vo yi.of X w.heap.size HH.out.2.1)
       have HQ := hide (show outsU P2 = outsU pre ++ [yi.of] from by rw [HY.out, addOne_out hin])
       obtain ⟨ti, hti, htz, hts, htb⟩ := info_parts infoT
       clear hin HY
       gi_wp2_with (first
         | (gi_at_builtin; refine wpListIn_append_own _ rfl _ _ 38 rfl w.heap.size 9 ti (.string ⟨#[]⟩) 1 16 Tryz.underlying38 hti htz hts htb rfl (by decide) vo (outsU pre).length ((outsU pre).map .string) rfl (HH.out.2.1.alloc _) ⟨w4.heap.size, 0, none⟩ 1 1 [.string yi.of] rfl rfl (cell_one_new _ _ _) (by simp [Value.oneCell']) (by simp only [maxLen]; omega) (by omega) (by have := HH.out.2.2.1.size; simp; omega) ?_; intro v' w5 hown' hgrow _; obtain ⟨va, vl, vc, rfl⟩ := row_slice hown'; have y5 := hgrow.cell ((Ext.new _ _).at_ yb) hne; have y5f := (uses_push B 0 HB.out HLB.out HH.out.1 HH.out.2.1 HH.out.2.2.1 _ hown' hgrow).1)
         | (refine ⟨trivial, rfl, ?_⟩; refine (callsIn_wide.2 GC.out).mono ?_; rintro e w4 ⟨rfl, rfl⟩)
         | refine ⟨trivial, ?_⟩)
       obtain ⟨-, q1, q2, q3, q4⟩ := uses_push B W3.heap.size HB.out HLB.out HH.out.1 HH.out.2.1 HH.out.2.2.1 _ hown' hgrow
       exact ⟨q4, _, q1, by rw [HQ.out, List.length_append, List.map_append]; exact q2, q3⟩
   · have p1 : (yi.op == 7) = false := by rw [beq_eq_false_iff_ne]; exact hop
     have hone : ofOne yi = [] := by unfold ofOne; rw [if_neg hop]
     rw [hone, addAll_nil] at hstep
     have hinv : UsesInv w e1.w.heap.size P2 X := ⟨vo, HH.out.1, by rw [hstep]; exact HH.out.2.1, HH.out.2.2.1⟩
     have FIN := hide hinv
     clear hinv hstep hone
     gi_wp2_with (refine ⟨trivial, ?_⟩)
     exact ⟨Kq.refl _ _ _, FIN.out⟩
 case done =>
   rintro D xs X hD hS ⟨vo, hbo, hro, hbw⟩ hkq2 hDd
   have yb := hbo.get1
   have FIN := hide (And.intro hro (And.intro hbw hDd))
   have PR := hide (show outsU xs = usesM m from by unfold outsU usesM; rw [hS, pre_ofs])
   have HD := hide (Nat.le_trans H3.out.2.size hD)
   clear hro hbw hkq2 hDd hS hbo
   gi_wp2
   rw [← PR.out]
   refine leaves_row 0 _ _ w vo (outsU xs) rfl rfl _ X ⟨fun d hd => ?_, ?_⟩ FIN.out.1 FIN.out.2.1
   · obtain rfl := List.mem_singleton.1 hd
     exact ⟨D, rfl, HD.out, FIN.out.2.2⟩
   · exact List.pairwise_singleton _ _
end Go.Proofs.YtjoglnjpgkobeaaGreatDoor
namespace Go.Proofs.YtjoglnjpgkobeaaGreatDoor
open Go Go.RowKit
attribute [local go_sem] run_store_one
theorem uses_len (m : Mdl) (h : msize sizeI m.items ≤ 10000000) : (usesM m).length ≤ 10000000 := by
 have h1 := addAll_le (ofIs m.items) []
 have h2 := ofOne_len (preIs m.items)
 rw [pre_ofs] at h2
 have h3 := preIs_len m.items
 unfold usesM
 simp only [List.length_nil] at h1
 omega
theorem enters_not1 : Enters Tryz.prog 77 := ⟨fun _ _ => by kernel_rfl⟩
set_option maxRecDepth 20000 in
theorem not1_any (N : ByteArray → Prop) (s : ByteArray) (p : Addr) (mp : Nat) (w : World) (hp : w.cell? p = some (.map (some mp))) (hs : SetB w mp N) :
   Calls Tryz.prog 77 #[.string s, .pointer (some p)] w fun e w' => e = .returned (.bool (yes (¬ N s))) ∧ Ext w w' := by
 have hask := hs.ask Tryz.underlying62 Tryz.underlying9 zeroBool s
 by_cases hN : N s
 · rw [yes_iff.2 hN] at hask
   rw [yes_no.2 (show ¬ ¬ N s from fun h => h hN)]
   clear hN hs
   go_enter Tryz.func77, Tryz.ntmps77
   go_wp2
   go_ret
   exact ⟨rfl, Ext.refl _⟩
 · rw [yes_no.2 hN] at hask
   rw [yes_iff.2 hN]
   clear hN hs
   go_enter Tryz.func77, Tryz.ntmps77
   go_wp2
   go_ret
   exact ⟨rfl, Ext.refl _⟩
theorem enters_ready : Enters Tryz.prog 76 := ⟨fun _ _ => by kernel_rfl⟩
set_option maxRecDepth 20000 in
set_option maxHeartbeats 1000000 in
theorem ready_any (B : Nat) (m : Mdl) (out : List ByteArray) (p : Addr) (mp : Nat) (w : World) (cs : List Value) (hp : w.cell? p = some (.map (some mp))) (hlt : p.block < w.heap.size) (hs : SetB w mp (fun s => s ∈ out)) (hR : RM w B m cs) (hB : B ≤ w.heap.size)
   (hsz : msize sizeI m.items ≤ 10000000) : Calls Tryz.prog 76 #[.agg cs.toArray, .pointer (some p)] w fun e w' => e = .returned (.bool (yes (readyM out m))) ∧ Ext w w' := by
 have HR := hide hR
 have hlen := uses_len m hsz
 obtain ⟨v1, v2, v3, rfl, hp1, hq1, hi1⟩ := hR
 have o1 := hp1.oneCell
 have o2 := hq1.oneCell
 have o3 := hi1.oneCell
 obtain ⟨W1, e1, hV1, hx1, hz1, c0, c1, c2, c3⟩ := boxL4 w (.string m.name) v1 v2 v3 33
 have HX := hide (hx1.trans e1.ext)
 have hp2 : e1.w.cell? p = some (.map (some mp)) := (HX.out.cell hlt).trans hp
 have hs2 : SetB e1.w mp (fun s => s ∈ out) := hs.kept HX.out.gr (by simp)
 have hask := hs2.ask Tryz.underlying62 Tryz.underlying9 zeroBool m.name
 have HS2 := hide hs2
 have HP2 := hide (And.intro hp2 (Nat.lt_of_lt_of_le hlt HX.out.size))
 have hmf : ∀ (fn : Fn) (first cap : Array Value) (w : World), (Instr.makeFunc fn first cap).run Tryz.prog w = .ok (.func fn first cap) w := fun _ _ _ _ => rfl
 have GU := hide (uses_any B m e1.w _ (HR.out.ext HX.out hB) (Nat.le_trans hB HX.out.size) hsz)
 clear hp1 hq1 hi1 hx1 hz1 hs hp hlt hs2 HR hsz
 by_cases hN : m.name ∈ out
 · rw [yes_iff.2 hN] at hask
   rw [yes_no.2 (show ¬ readyM out m from fun h => h.1 hN)]
   clear hN
   go_enter Tryz.func76, Tryz.ntmps76
   go_wp2
   go_ret
   exact ⟨rfl, HX.out⟩
 · rw [yes_no.2 hN] at hask
   go_enter Tryz.func76, Tryz.ntmps76
   go_wp2_with fail
   go_at_call 16
   refine GU.out.mono ?_
   rintro _ w1 ⟨v, rfl, hown, hx⟩
   have GC := hide (containsS_any 77 enters_not1 (fun s => ¬ s ∈ out) (.pointer (some p)) (usesM m) w1
     (fun x _ w' hw' => not1_any (fun s => s ∈ out) x p mp w' (((hx.trans hw').cell HP2.out.2).trans HP2.out.1) (HS2.out.kept (hx.trans hw').gr (by simp))) v (SStr.of_row hown) (by omega))
   have HX1 := hide (HX.out.trans hx)
   clear hown hx GU
   by_cases hex : ∃ s, s ∈ usesM m ∧ ¬ s ∈ out
   · rw [yes_iff.2 hex] at GC
     have R := hide (yes_no.2 (show ¬ readyM out m from fun h => by obtain ⟨s, h1, h2⟩ := hex; exact h2 (h.2 s h1)))
     clear hex hN
     go_wp2_with fail
     go_at_call 34
     refine GC.out.mono ?_
     rintro _ w2 ⟨rfl, hx2⟩
     have HX2 := hide (HX1.out.trans hx2)
     clear hx2
     go_wp2
     go_ret
     exact ⟨by rw [R.out]; rfl, HX2.out⟩
   · rw [yes_no.2 hex] at GC
     have R := hide (yes_iff.2 (show readyM out m from ⟨hN, fun s hs => Classical.byContradiction fun h => hex ⟨s, hs, h⟩⟩))
     clear hex hN
     go_wp2_with fail
     go_at_call 34
     refine GC.out.mono ?_
     rintro _ w2 ⟨rfl, hx2⟩
     have HX2 := hide (HX1.out.trans hx2)
     clear hx2
     go_wp2
     go_ret
     exact ⟨by rw [R.out]; rfl, HX2.out⟩
theorem wpList_append_grow {P : Program} {w : World} {ops : Array Oper} {rest : List Oper} {o : Oper} {a : Act} {Q : Exit → Act → World → Prop} (hgd : o.guard = none) (s x : Operand) (t : TypeId)
   (ho : o.op = .call { callee := .builtin .append, args := #[s, x], argTypes := #[t, t] })
   (base : Nat) (e : TypeId) (i : TypeInfo) (z : Value) (size bytes : Nat) (ht : P.underlying t = some (.slice e)) (hi : P.info? e = some i) (hz : i.zero = some z)
   (hsize : i.size = size) (hby : i.bytes = bytes) (hzs : z.cells.size = size) (hsz : 0 < size) (hb : bytes ≤ 1000)
   (v : Value) (n : Nat) (xs : List Value) (hs : a.eval s = v) (hown : w.ownsRow base e size v n xs)
   (ad : Addr) (c : Nat) (news : List Value) (hx : a.eval x = .slice (some ad) 1 c) (hl : news.length = 1 * size) (hnews : ∀ j u, news[j]? = some u → w.cell? (ad.add j) = some u) (h1 : ∀ u ∈ news, u.oneCell' = true)
   (hn : n ≤ 1000000000) (hbase : base ≤ w.heap.size)
   (h : ∀ v' w', w'.ownsRow base e size v' (n + 1) (xs ++ news) → w.grownBy w' v.ownBlock → wpList P ops Q rest (a.put o.dst v') w') : wpList P ops Q (o :: rest) a w :=
 wpList_plain hgd fun _ hK => by
   subst hsize
   have hbytes : (n + 1) * bytes ≤ 140737488355328 := by
     calc (n + 1) * bytes ≤ 1000000001 * 1000 := Nat.mul_le_mul (by omega) hb
       _ ≤ 140737488355328 := by decide
   obtain ⟨v', w', hr, h2, h3, h4⟩ := run_append_own (P := P) w base t o.type e i z i.size bytes ht hi hz rfl hby hzs hsz v n xs hown ad 1 c news hl hnews h1 (by simp only [maxLen]; omega) hbytes hbase
   unfold Oper.wp execOp
   simp only [ho, resolve, invoke, builtin, Sem.run_bind, Sem.run_pure, Result.andThen_ok, List.map_toArray, List.map_cons, List.map_nil, hs, hx, hr]
   exact hK _ _ (h v' w' h2 h3)
theorem row_slice_n {X : World} {base k : Nat} {vo : Value} {xs : List Value} (h : X.ownsRow base 9 1 vo k xs) : ∃ a c, vo = .slice a k c := by
 rcases h.2 with ⟨rfl, h0⟩ | ⟨g, cap, cur, rfl, _⟩
 · exact ⟨none, 0, by rw [h0]⟩
 · exact ⟨_, _, rfl⟩
theorem blk_ne_row {X : World} {lb base k : Nat} {t : TypeId} {vo : Value} {cs xs : List Value} (ht : t ≠ 9) (hbo : Blk X lb t cs) (hro : X.ownsRow base 9 1 vo k xs) : some lb ≠ vo.ownBlock := by
 rcases row_cells hro with h0 | ⟨g', cur, h1, h2⟩
 · rw [h0]; simp
 · intro e
   rw [h1] at e
   cases e
   have := (show X.heap[_]? = _ from hbo).symm.trans h2
   simp at this
   exact ht this.2
theorem set_ne_row {X : World} {mp base k : Nat} {N : ByteArray → Prop} {vo : Value} {xs : List Value} (hs : SetB X mp N) (hro : X.ownsRow base 9 1 vo k xs) : some mp ≠ vo.ownBlock := by
 obtain ⟨es, clock, hb, -⟩ := hs
 rcases row_cells hro with h0 | ⟨g', cur, h1, h2⟩
 · rw [h0]; simp
 · intro e
   rw [h1] at e
   cases e
   have := hb.symm.trans h2
   cases this
theorem blk_ne_set {X : World} {lb mp : Nat} {t : TypeId} {cs : List Value} {N : ByteArray → Prop} (hbo : Blk X lb t cs) (hs : SetB X mp N) : some mp ≠ some lb := by
 intro e
 cases e
 obtain ⟨es, clock, hb, -⟩ := hs
 have := hb.symm.trans (show X.heap[_]? = _ from hbo)
 cases this
structure OInv (w : World) (fb db mp : Nat) (vf : Value) (out : List ByteArray) (N : ByteArray → Prop) (v : Value) (X : World) : Prop where
 row : X.ownsRow w.heap.size 9 1 v out.length (out.map .string)
 fbk : Blk X fb 24 [vf]
 dbk : Blk X db 62 [.map (some mp)]
 set : SetB X mp N
 ext : Ext w X
theorem ownsRow_ext {X Y : World} {base k : Nat} {v : Value} {xs : List Value} (h : X.ownsRow base 9 1 v k xs) (hx : Ext X Y) : Y.ownsRow base 9 1 v k xs := by
 refine h.kept hx.gr ?_
 rcases row_cells h with h0 | ⟨g, cur, h1, -⟩
 · exact .inl h0
 · right; rw [h1]; simp
theorem OInv.later {w X Y : World} {fb db mp : Nat} {vf : Value} {out : List ByteArray} {N : ByteArray → Prop} {v : Value} (h : OInv w fb db mp vf out N v X) (hx : Ext X Y) : OInv w fb db mp vf out N v Y :=
 ⟨ownsRow_ext h.row hx, h.fbk.ext hx, h.dbk.ext hx, h.set.kept hx.gr (by simp), h.ext.trans hx⟩
theorem OInv.push {w X Y : World} {fb db mp : Nat} {vf : Value} {out : List ByteArray} {N : ByteArray → Prop} {v v' : Value} {s : ByteArray} (h : OInv w fb db mp vf out N v X) (hg : X.grownBy Y v.ownBlock)
   (hr : Y.ownsRow w.heap.size 9 1 v' (out.length + 1) (out.map .string ++ [.string s])) : OInv w fb db mp vf (out ++ [s]) N v' Y := by
 refine ⟨by rw [List.length_append, List.map_append]; exact hr, (hg.block fb h.fbk.lt (blk_ne_row (by decide) h.fbk h.row)).trans h.fbk, (hg.block db h.dbk.lt (blk_ne_row (by decide) h.dbk h.row)).trans h.dbk, h.set.kept hg (set_ne_row h.set h.row).symm, h.ext.grown hg fun r e => ?_⟩
 rcases h.row.2 with ⟨hv, _⟩ | ⟨g, cap, cur, hv, hge, _⟩
 · rw [hv] at e; cases e
 · rw [hv] at e
   obtain rfl : g = r := by simpa [Value.ownBlock] using e
   exact hge
theorem OInv.add {w X : World} {fb db mp : Nat} {vf : Value} {out : List ByteArray} {N N' : ByteArray → Prop} {v : Value} (h : OInv w fb db mp vf out N v X) (hm : w.heap.size ≤ mp) (o : Obj) (hs : SetB (setO X mp o) mp N') : OInv w fb db mp vf out N' v (setO X mp o) := by
 have hg := setO_grown X mp o
 exact ⟨h.row.kept hg (.inr (set_ne_row h.set h.row).symm), (hg.block fb h.fbk.lt (blk_ne_set h.fbk h.set).symm).trans h.fbk, (hg.block db h.dbk.lt (blk_ne_set h.dbk h.set).symm).trans h.dbk, hs, h.ext.grown hg fun r e => by cases e; exact hm⟩
theorem next_at {f : List Mdl} {out : List ByteArray} {i : Nat} (h : i < f.length) (h1 : readyM out f[i]) (h2 : ∀ j, ∀ h' : j < f.length, j < i → ¬ readyM out f[j]) : nextM f out = some f[i] := by
 unfold nextM
 rw [List.find?_eq_some_iff_getElem]
 exact ⟨yes_iff.2 h1, i, h, rfl, fun j hj => by rw [yes_no.2 (h2 j (by omega) hj)]; rfl⟩
theorem next_no {f : List Mdl} {out : List ByteArray} (h : ∀ x, x ∈ f → ¬ readyM out x) : nextM f out = none := by
 unfold nextM
 exact List.find?_eq_none.2 fun x hx hc => h x hx (yes_iff.1 hc)
set_option maxRecDepth 20000 in
set_option maxHeartbeats 2000000 in
theorem order_any (B : Nat) (f : List Mdl) (w : World) (vf : Value) (hS : Sl (RM w B) w B 4 f vf) (hB : B ≤ w.heap.size) (hsz : f.length ≤ 1000000000) (hit : ∀ m, m ∈ f → msize sizeI m.items ≤ 10000000) :
   Calls Tryz.prog 36 #[.agg #[vf]] w fun e w' => ∃ v, e = .returned v ∧ w'.ownsRow w.heap.size 9 1 v (orderF f).length ((orderF f).map .string) ∧ Ext w w' := by
 have HS := hide hS
 obtain ⟨a, cap, rfl, hcap, hrow⟩ := hS
 have HROW := hide hrow
 obtain ⟨W1, hW1, hx1, hb1⟩ := box1 w (.slice a f.length cap) 24
 obtain ⟨W2, hW2⟩ : ∃ W2, W2 = W1.alloc (.map #[] 0) := ⟨_, rfl⟩
 have hx2 : Ext W1 W2 := by rw [hW2]; exact Ext.new _ _
 have hs2 : SetB W2 W1.heap.size (fun _ => False) := by rw [hW2]; exact SetB.new W1
 obtain ⟨W3, hW3, hx3, hb3⟩ := box1 W2 (.map none) 62
 have m0 := hb3.get1
 have n0 := hb3.free1
 obtain ⟨W4, hW4⟩ : ∃ W4, W4 = W3.setCell ⟨W2.heap.size, 0, none⟩ (.map (some W1.heap.size)) := ⟨_, rfl⟩
 have hb4 : Blk W4 W2.heap.size 62 [.map (some W1.heap.size)] := by rw [hW4]; exact hb3.store1 _
 have hx4 : Ext W2 W4 := by rw [hW4]; exact hx3.setCell (Nat.le_refl _) _
 have hmp : w.heap.size ≤ W1.heap.size := hx1.size
 obtain ⟨fb, hfb⟩ : ∃ n, n = w.heap.size := ⟨_, rfl⟩
 have HO := hide (show OInv w w.heap.size W2.heap.size W1.heap.size (.slice a f.length cap) [] (fun s => s ∈ ([] : List ByteArray)) (.slice none 0 0) W4 from
   ⟨World.ownsRow_nil _ _ _ _, (hb1.ext hx2).ext hx4, hb4, (hs2.kept hx4.gr (by simp)).congr (fun s => by simp), (hx1.trans hx2).trans hx4⟩)
 have hV1 := hW1.symm
 have hV2 := hW2.symm
 have hV3 := hW3.symm
 have hV4 := hW4.symm
 have HIT := hide hit
 have hmm := @run_makeMap Tryz.prog
 have hmf : ∀ (fn : Fn) (first cap : Array Value) (w : World), (Instr.makeFunc fn first cap).run Tryz.prog w = .ok (.func fn first cap) w := fun _ _ _ _ => rfl
 clear hcap hrow hx1 hb1 hx2 hs2 hx3 hb3 hb4 hx4 hW1 hW2 hW3 hW4 hit
 go_enter Tryz.func36, Tryz.ntmps36
 go_wp2_with fail
 go_loopw [3] (fun v wr => ∃ out, OInv w w.heap.size W2.heap.size W1.heap.size (.slice a f.length cap) out (fun s => s ∈ out) v wr ∧ Ordered f out ∧ orderN f (f.length - out.length) out = orderF f) (fun v _ => match v with | .slice _ n _ => f.length - n | _ => 0)
 case atStart => exact ⟨[], HO.out, ordered_nil f, rfl⟩
 case round =>
   obtain ⟨out, hinv, hord, hfin⟩ := hrel
   obtain ⟨va, vc, rfl⟩ := row_slice_n hinv.row
   have HOR := hide hord
   have HFI := hide hfin
   have hle := hord.le
   have hb0 := hinv.fbk.get1
   have hd0 := hinv.dbk.get1
   have HV := hide hinv
   have hltd := hinv.dbk.lt
   have KI := hide (indexM_any 76 enters_ready (fun m => readyM out m) (.pointer (some ⟨W2.heap.size, 0, none⟩)) B f wr
     (fun x hx w' cs hw hR hB' => ready_any B x out ⟨W2.heap.size, 0, none⟩ W1.heap.size w' cs (hw.at_ hd0) (Nat.lt_of_lt_of_le hltd hw.size) (HV.out.set.kept hw.gr (by simp)) hR hB' (HIT.out x hx))
     (.slice a f.length cap) (HS.out.extRM HV.out.ext hB) (Nat.le_trans hB HV.out.ext.size) hsz)
   clear hinv hord hfin hltd HS HIT HO
   go_wp2_with fail
   go_at_call 42
   refine KI.out.mono ?_
   rintro _ w1 ⟨hx, (⟨i, h, h1, h2, rfl⟩ | ⟨h1, rfl⟩)⟩
   · obtain ⟨e1, rfl⟩ := Later.mk_ex hx
     obtain ⟨b, o, v0, v1, v2, v3, rfl, hbB, hR, hC, o0, o1, o2, o3⟩ := HROW.out.open4 h
     obtain ⟨v1', v2', v3', hcs, -, -, -⟩ := hR
     simp only [List.cons.injEq, and_true] at hcs
     obtain ⟨rfl, rfl, rfl, rfl⟩ := hcs
     have hC0 := hide (fun (X : World) (hX : Ext w X) => (hC.ext hX).get4.1)
     have d0 := hC0.out e1.w (HV.out.ext.trans hx)
     have HV1 := hide (HV.out.later hx)
     have hf1 := HV1.out.fbk.get1
     have hord1 := HOR.out.step (next_at h h1 h2)
     have hle1 := hord1.le
     rw [List.length_append, List.length_singleton] at hle1
     have HO1 := hide (And.intro hord1 ((order_step HOR.out (next_at h h1 h2)).symm.trans HFI.out))
     have hnn : decide ((i : Int) < 0) = false := decide_eq_false (by omega)
     have hil : (i : Int) < (f.length : Nat) := by omega
     obtain ⟨ti, hti, htz, hts, htb⟩ := info_parts infoT
     clear hC hx h1 h2 KI HROW HOR HFI hord1
     generalize f[i].name = nm at *
     go_wp2_with (at_builtin; refine wpList_append_grow rfl _ _ 38 rfl w.heap.size 9 ti (.string ⟨#[]⟩) 1 16 Tryz.underlying38 hti htz hts htb rfl (by decide) (by decide) (.slice va out.length vc) out.length (out.map .string) rfl (HV1.out.row.alloc _) ⟨e1.w.heap.size, 0, none⟩ 1 [.string nm] rfl rfl (cell_one_new _ _ _) (by simp [Value.oneCell']) (by omega) (by have := HV1.out.ext.size; simp; omega) ?_; intro v' w5 hown' hgrow)
     obtain ⟨va', vc', rfl⟩ := row_slice_n hown'
     have HV5 := hide ((HV1.out.later (Ext.new e1.w _)).push hgrow hown')
     have y0 := fun e : Later w5 => e.ext.at_ HV5.out.dbk.get1
     have y1 := fun e : Later w5 => e.ext.at_ HV5.out.fbk.get1
     have y2 := fun e : Later w5 => hC0.out e.w (HV5.out.ext.trans e.ext)
     clear hown' hgrow hC0 hti htz hts htb HV1 HV hd0 hb0 d0 hf1
     refine wp_region_later_last (W := w5) (by kernel_rfl) rfl (by kernel_rfl) (by kernel_rfl) (Ext.refl _) ?_
     dsimp only [List.dropLast]
     repeat (go_big_quiet_step (fail))
     refine wpQuiet_nil ?_
     intro e
     obtain ⟨oo, hup, hs6⟩ := (HV5.out.set.kept e.ext.gr (by simp)).add Tryz.underlying62 Tryz.underlying9 nm
     have HV6 := hide ((HV5.out.later e.ext).add hmp oo (hs6.congr (N' := fun s => s ∈ out ++ [nm]) (fun s => by simp)))
     clear hs6 HV5
     go_wp2_with fail
     go_roundw
     case rel => exact ⟨out ++ [nm], HV6.out, HO1.out.1, HO1.out.2⟩
     case measure => simp only; omega
   · have hno := next_no h1
     have FIN := hide (show out = orderF f from by rw [← HFI.out, order_fuel _ hno])
     have HV1 := hide (HV.out.later hx)
     clear hno h1 hx KI HROW
     go_wp2_with fail
     go_ret
     exact ⟨_, rfl, by rw [← FIN.out]; exact HV1.out.row, HV1.out.ext⟩
end Go.Proofs.YtjoglnjpgkobeaaGreatDoor
namespace Go.Proofs.YtjoglnjpgkobeaaGreatDoor
open Go Go.RowKit
theorem SStr.take {w : World} {l : List ByteArray} {a : Option Addr} {n cap k : Nat} (h : SStr w l (.slice a n cap)) (hk : k < l.length) : SStr w (l.take k) (Go.sliced a 0 k cap 1) := by
 obtain ⟨a', cap', he, hc, hr⟩ := h
 obtain ⟨rfl, rfl, rfl⟩ := Value.slice.inj he
 refine ⟨_, cap - 0, by unfold Go.sliced; rw [List.length_take, Nat.min_eq_left (by omega)]; rfl, by rw [List.length_take]; omega, fun i hi => ?_⟩
 rw [List.length_take] at hi
 obtain ⟨b, o, rfl, h1⟩ := hr i (by omega)
 rw [if_neg (by omega), List.getElem_take]
 exact ⟨b, o, congrArg some (addr_add0 b o (0 * 1)), by simpa using h1⟩
theorem Flat.of_own {w : World} {base : Nat} {e : TypeId} {sz n : Nat} {v : Value} {xs : List Value} (h : w.ownsRow base e sz v n xs) (h1 : ∀ u ∈ xs, u.oneCell' = true) : ∃ a cap, v = .slice a n cap ∧ Flat w sz a n xs := by
 have hl := h.1
 rcases h.2 with ⟨rfl, rfl⟩ | ⟨g, cap, cur, rfl, -⟩
 · obtain rfl : xs = [] := List.eq_nil_of_length_eq_zero (by simpa using hl)
   exact ⟨none, 0, rfl, Flat.none_⟩
 · exact ⟨_, cap, rfl, hl, h1, fun _ => ⟨g, 0, rfl, fun j u hu => by have := h.cells (g := g) rfl j u hu; rw [addr_add0] at this; exact this⟩⟩
theorem one_strs (l : List ByteArray) : ∀ u ∈ l.map Value.string, u.oneCell' = true := by
 intro u hu
 obtain ⟨s, -, rfl⟩ := List.mem_map.1 hu
 rfl
theorem Flat.strs {w : World} {l : List ByteArray} {a : Option Addr} {c : Nat} (h : SStr w l (.slice a l.length c)) : Flat w 1 a l.length (l.map Value.string) := by
 obtain ⟨a', cap', he, hc, hr⟩ := h
 obtain ⟨rfl, -, rfl⟩ := Value.slice.inj he
 refine ⟨by simp, one_strs l, fun hp => ?_⟩
 obtain ⟨b, o, rfl, -⟩ := hr 0 hp
 refine ⟨b, o, rfl, fun j u hu => ?_⟩
 rw [List.getElem?_map] at hu
 obtain ⟨s, hs, rfl⟩ := Option.map_eq_some_iff.1 hu
 obtain ⟨hj, rfl⟩ := List.getElem?_eq_some_iff.1 hs
 obtain ⟨b', o', he2, hcell⟩ := hr j hj
 obtain ⟨rfl, rfl⟩ : b = b' ∧ o = o' := by simpa using he2
 exact hcell
theorem setCell_grown (w : World) (g j : Nat) (v : Value) : w.grownBy (w.setCell ⟨g, j, none⟩ v) (some g) :=
 ⟨rfl, rfl, rfl, by simp [World.setCell], fun k hk hne => by
   have : k ≠ g := fun e => hne (by rw [e])
   simp [World.setCell, Array.getElem?_modify, Ne.symm this]⟩
theorem SStr.of_own {w : World} {base n : Nat} {l : List ByteArray} {v : Value} {xs : List Value} (h : w.ownsRow base 9 1 v n xs) (hn : n = l.length) (hx : xs = l.map .string) : SStr w l v := by
 subst hn hx
 exact SStr.of_row h
theorem SStr.store {w : World} {l : List ByteArray} {v u : Value} {g j : Nat} {t : TypeId} {cs : List Value} (h : SStr w l v) (hb : Blk w g t cs) (hc : ∀ c ∈ cs, ∀ s, c ≠ .string s) : SStr (w.setCell ⟨g, j, none⟩ u) l v := by
 obtain ⟨a, cap, rfl, hcap, hr⟩ := h
 refine ⟨a, cap, rfl, hcap, fun k hk => ?_⟩
 obtain ⟨b, o, rfl, h1⟩ := hr k hk
 refine ⟨b, o, rfl, ?_⟩
 have hne : b ≠ g := by
   rintro rfl
   have h2 := hb.cell (o + k)
   rw [h1] at h2
   exact hc _ (List.mem_of_getElem? h2.symm) _ rfl
 exact (setCell_grown w g j u).cell h1 (fun e => hne (by cases e; rfl))
end Go.Proofs.YtjoglnjpgkobeaaGreatDoor
namespace Go.Proofs.YtjoglnjpgkobeaaGreatDoor
open Go Go.RowKit
attribute [local go_sem] run_store_one
theorem row_kept_ext {w w' : World} {base : Nat} {e : TypeId} {sz n : Nat} {v : Value} {xs : List Value} (h : w.ownsRow base e sz v n xs) (hx : Ext w w') : w'.ownsRow base e sz v n xs :=
 h.kept (Ext.grow hx) (by cases v.ownBlock <;> simp)
theorem row_shape {w : World} {base : Nat} {t : TypeId} {sz n : Nat} {v : Value} {xs : List Value} (h : w.ownsRow base t sz v n xs) : ∃ a cap, v = .slice a n cap := by
 rcases h.2 with ⟨rfl, rfl⟩ | ⟨g, cap, cur, rfl, -⟩ <;> exact ⟨_, _, rfl⟩
set_option maxRecDepth 20000 in
set_option maxHeartbeats 4000000 in
theorem rmore_any (l : List ByteArray) (s : ByteArray) (w : World) (v : Value) (hS : SStr w l v) (hln : l.length ≤ 500000000) :
   Calls Tryz.prog 53 #[v, .string s] w fun e w' => ∃ v', e = .returned v' ∧ SStr w' (addOne l s) v' ∧ Ext w w' := by
 have KA := hide (refAmong_any l s w v hS (by omega))
 have HS := hide hS
 obtain ⟨la, lc, rfl, hlc, -⟩ := hS
 by_cases hin : s ∈ l
 · rw [yes_iff.2 hin] at KA
   have HI := hide (addOne_in hin)
   clear hin
   go_enter Tryz.func53, Tryz.ntmps53
   go_wp2_with (go_at_call 26; refine KA.out.mono ?_; rintro _ _ ⟨rfl, rfl⟩)
   go_ret
   exact ⟨_, rfl, by rw [HI.out]; exact HS.out, Ext.refl _⟩
 · rw [yes_no.2 hin] at KA
   have HI := hide (addOne_out hin)
   clear hin
   have hfl0 := Flat.strs HS.out
   obtain ⟨ti, hti, htz, hts, htb⟩ := info_parts infoT
   obtain ⟨Ws, hWs⟩ : ∃ Ws, Ws = w.alloc (.cells #[] 9) := ⟨_, rfl⟩
   have hxs : Ext w Ws := by rw [hWs]; exact Ext.new _ _
   have hbz : w.heap.size ≤ Ws.heap.size := hxs.size
   have HOWNS := hide (show Ws.ownsRow w.heap.size 9 1 (.slice (some ⟨w.heap.size, 0, none⟩) 0 0) 0 [] from by
     refine ⟨by simp, .inr ⟨w.heap.size, 0, #[], rfl, Nat.le_refl _, ?_, Nat.le_refl _, by decide, by simp, by simp⟩⟩
     rw [hWs]
     exact Blk.new _ _ [])
   have HFL := hide (hfl0.ext hxs)
   clear hfl0
   have HXS := hide hxs
   have hVs := hWs.symm
   clear hWs hxs
   go_enter Tryz.func53, Tryz.ntmps53
   go_wp2_with (first
     | (go_at_call 26; refine KA.out.mono ?_; rintro _ w ⟨rfl, rfl⟩)
     | (at_builtin; refine wpList_append_flat rfl _ _ 38 rfl w.heap.size 9 ti _ 1 16 Tryz.underlying38 hti htz hts htb rfl (by decide) (by decide) (.slice (some ⟨w.heap.size, 0, none⟩) 0 0) 0 [] rfl HOWNS.out la l.length lc (l.map .string) rfl HFL.out (by omega) (by omega) hbz ?_; intro v4 w4 hown4 hg4 hf4
        simp only [Nat.zero_add, List.nil_append] at hown4
        have hx4 : Ext w w4 := HXS.out.grown hg4 (by intro r hr; simp [Value.ownBlock] at hr; omega)
        obtain ⟨a4, c4, rfl⟩ := row_shape hown4
        have HO4 := hide hown4
        have HX4 := hide hx4
        have hb4 := hx4.size
        clear hown4 hg4 hf4 hx4 hVs)
     | (at_builtin; refine wpList_append_flat rfl _ _ 38 rfl w.heap.size 9 ti _ 1 16 Tryz.underlying38 hti htz hts htb rfl (by decide) (by decide) (.slice a4 l.length c4) l.length (l.map .string) rfl (HO4.out.alloc _) (some ⟨w4.heap.size, 0, none⟩) 1 1 [.string s] rfl ⟨rfl, (by intro u hu; simp at hu; subst hu; rfl), (fun _ => ⟨_, _, rfl, (Blk.new w4 _ [.string s]).cells⟩)⟩ (by omega) (by omega) (by simp; omega) ?_; intro v5 w5 hown5 hg5 hf5
        have hx5 : Ext w w5 := (HX4.out.alloc _).grown hg5 (fun r hr => (HO4.out.lt r hr).1)
        obtain ⟨a5, c5, rfl⟩ := row_shape hown5
        have H5 := hide (And.intro hown5 hx5)
        clear hown5 hg5 hf5 hx5))
   go_ret
   exact ⟨_, rfl, SStr.of_own H5.out.1 (by rw [HI.out]; simp) (by rw [HI.out]; simp), H5.out.2⟩
set_option maxRecDepth 20000 in
set_option maxHeartbeats 4000000 in
theorem rtell_any (l : List ByteArray) (ok : Bool) (s : ByteArray) (w : World) (v : Value) (hS : SStr w l v) (hln : l.length ≤ 500000000) :
   Calls Tryz.prog 117 #[.agg #[v, .bool ok], .string s] w fun e w' => ∃ v', e = .returned (.agg #[v', .bool (ok && !yes (s ∈ l))]) ∧ SStr w' (l ++ [s]) v' ∧ Ext w w' := by
 have HS := hide hS
 obtain ⟨la, lc, rfl, hlc, -⟩ := hS
 obtain ⟨W1, hW1, hx1, hb1⟩ := box2 w (.slice la l.length lc) (.bool ok) 101
 obtain ⟨W2, hW2, hx2, hb2⟩ := box2 W1 (.slice none 0 0) (.bool false) 101
 have hV1 := hW1.symm
 have hV2 := hW2.symm
 obtain ⟨c0, c1⟩ := (hb1.ext hx2).get2
 have KA := hide (refAmong_any l s W2 (.slice la l.length lc) (HS.out.ext (hx1.trans hx2)) (by omega))
 obtain ⟨ti, hti, htz, hts, htb⟩ := info_parts infoT
 have hxw := hx1.trans hx2
 obtain ⟨Ws, hWs⟩ : ∃ Ws, Ws = W2.alloc (.cells #[] 9) := ⟨_, rfl⟩
 have hxs : Ext W2 Ws := by rw [hWs]; exact Ext.new _ _
 have hbz : W2.heap.size ≤ Ws.heap.size := hxs.size
 have HOWNS := hide (show Ws.ownsRow W2.heap.size 9 1 (.slice (some ⟨W2.heap.size, 0, none⟩) 0 0) 0 [] from by
   refine ⟨by simp, .inr ⟨W2.heap.size, 0, #[], rfl, Nat.le_refl _, ?_, Nat.le_refl _, by decide, by simp, by simp⟩⟩
   rw [hWs]
   exact Blk.new _ _ [])
 have HFL := hide (Flat.strs (HS.out.ext (hxw.trans hxs)))
 have HXS := hide hxs
 have HXW := hide hxw
 have HB2 := hide hb2
 have hVs := hWs.symm
 obtain ⟨e0, e1⟩ := ((hb1.ext hx2).ext hxs).get2
 have hge : w.heap.size ≤ W1.heap.size := hx1.size
 obtain ⟨r, hr⟩ : ∃ r, r = (ok && !yes (s ∈ l)) := ⟨_, rfl⟩
 rw [← hr]
 have hlt12 : W1.heap.size < W2.heap.size := hb2.lt
 clear hW1 hW2 hWs hxs hxw hx1 hx2 hb1 hb2
 cases ok
 · have hr' : r = false := by rw [hr]; rfl
   subst hr'
   clear hr KA
   go_enter Tryz.func117, Tryz.ntmps117
   go_wp2_with (first
     | (at_builtin; refine wpList_append_flat rfl _ _ 38 rfl W2.heap.size 9 ti _ 1 16 Tryz.underlying38 hti htz hts htb rfl (by decide) (by decide) (.slice (some ⟨W2.heap.size, 0, none⟩) 0 0) 0 [] rfl HOWNS.out la l.length lc (l.map .string) rfl HFL.out (by omega) (by omega) hbz ?_; intro v4 w4 hown4 hg4 hf4
        simp only [Nat.zero_add, List.nil_append] at hown4
        have hx4 : Ext W2 w4 := HXS.out.grown hg4 (by intro r hr; simp [Value.ownBlock] at hr; omega)
        obtain ⟨a4, c4, rfl⟩ := row_shape hown4
        have HO4 := hide hown4
        have HX4 := hide hx4
        have hb4 := hx4.size
        clear hown4 hg4 hf4 hx4 hVs e0 e1)
     | (at_builtin; refine wpList_append_flat rfl _ _ 38 rfl W2.heap.size 9 ti _ 1 16 Tryz.underlying38 hti htz hts htb rfl (by decide) (by decide) (.slice a4 l.length c4) l.length (l.map .string) rfl (HO4.out.alloc _) (some ⟨w4.heap.size, 0, none⟩) 1 1 [.string s] rfl ⟨rfl, (by intro u hu; simp at hu; subst hu; rfl), (fun _ => ⟨_, _, rfl, (Blk.new w4 _ [.string s]).cells⟩)⟩ (by omega) (by omega) (by simp; omega) ?_; intro v5 w5 hown5 hg5 hf5
        have hx5 : Ext W2 w5 := (HX4.out.alloc _).grown hg5 (fun r hr => (HO4.out.lt r hr).1)
        obtain ⟨a5, c5, rfl⟩ := row_shape hown5
        have H5 := hide (And.intro hown5 hx5)
        obtain ⟨y0, y1⟩ := (HB2.out.ext hx5).get2
        obtain ⟨z0, z1⟩ := (HB2.out.ext hx5).free2
        have hbs := (HB2.out.ext hx5).store2 (.slice a5 (l.length + 1) c5) (.bool false)
        have hsz5 := hx5.size
        obtain ⟨g0, g1⟩ := hbs.get2
        clear hown5 hg5 hf5 hx5))
   refine bodyPost_ret (v := .agg #[.slice a5 (l.length + 1) c5, .bool false]) (by simp [results, Tryz.results117, go_sem, g0, g1]) rfl ⟨_, rfl, ?_, ?_⟩
   · have h1 : SStr w5 (l ++ [s]) (.slice a5 (l.length + 1) c5) := SStr.of_own H5.out.1 (by simp) (by simp)
     have hb := HB2.out.ext H5.out.2
     have hb' := hb.set_ 0 (.slice a5 (l.length + 1) c5)
     refine SStr.store (SStr.store h1 hb (by intro c hc s; simp at hc; rcases hc with rfl | rfl <;> simp)) hb' (by intro c hc s; simp at hc; rcases hc with rfl | rfl <;> simp)
   · exact ((HXW.out.trans H5.out.2).setCell hge _).setCell hge _
 · by_cases hin : s ∈ l
   · rw [yes_iff.2 hin] at hr KA
     have hr' : r = false := by rw [hr]; rfl
     subst hr'
     clear hr hin
     go_enter Tryz.func117, Tryz.ntmps117
     go_wp2_with (first
       | (go_at_call 26; refine KA.out.mono ?_; rintro _ W2 ⟨rfl, rfl⟩)
       | (at_builtin; refine wpList_append_flat rfl _ _ 38 rfl W2.heap.size 9 ti _ 1 16 Tryz.underlying38 hti htz hts htb rfl (by decide) (by decide) (.slice (some ⟨W2.heap.size, 0, none⟩) 0 0) 0 [] rfl HOWNS.out la l.length lc (l.map .string) rfl HFL.out (by omega) (by omega) hbz ?_; intro v4 w4 hown4 hg4 hf4
          simp only [Nat.zero_add, List.nil_append] at hown4
          have hx4 : Ext W2 w4 := HXS.out.grown hg4 (by intro r hr; simp [Value.ownBlock] at hr; omega)
          obtain ⟨a4, c4, rfl⟩ := row_shape hown4
          have HO4 := hide hown4
          have HX4 := hide hx4
          have hb4 := hx4.size
          clear hown4 hg4 hf4 hx4 hVs e0 e1)
       | (at_builtin; refine wpList_append_flat rfl _ _ 38 rfl W2.heap.size 9 ti _ 1 16 Tryz.underlying38 hti htz hts htb rfl (by decide) (by decide) (.slice a4 l.length c4) l.length (l.map .string) rfl (HO4.out.alloc _) (some ⟨w4.heap.size, 0, none⟩) 1 1 [.string s] rfl ⟨rfl, (by intro u hu; simp at hu; subst hu; rfl), (fun _ => ⟨_, _, rfl, (Blk.new w4 _ [.string s]).cells⟩)⟩ (by omega) (by omega) (by simp; omega) ?_; intro v5 w5 hown5 hg5 hf5
          have hx5 : Ext W2 w5 := (HX4.out.alloc _).grown hg5 (fun r hr => (HO4.out.lt r hr).1)
          obtain ⟨a5, c5, rfl⟩ := row_shape hown5
          have H5 := hide (And.intro hown5 hx5)
          obtain ⟨y0, y1⟩ := (HB2.out.ext hx5).get2
          obtain ⟨z0, z1⟩ := (HB2.out.ext hx5).free2
          have hbs := (HB2.out.ext hx5).store2 (.slice a5 (l.length + 1) c5) (.bool false)
          have hsz5 := hx5.size
          obtain ⟨g0, g1⟩ := hbs.get2
          clear hown5 hg5 hf5 hx5))
     refine bodyPost_ret (v := .agg #[.slice a5 (l.length + 1) c5, .bool false]) (by simp [results, Tryz.results117, go_sem, g0, g1]) rfl ⟨_, rfl, ?_, ?_⟩
     · have h1 : SStr w5 (l ++ [s]) (.slice a5 (l.length + 1) c5) := SStr.of_own H5.out.1 (by simp) (by simp)
       have hb := HB2.out.ext H5.out.2
       have hb' := hb.set_ 0 (.slice a5 (l.length + 1) c5)
       refine SStr.store (SStr.store h1 hb (by intro c hc s; simp at hc; rcases hc with rfl | rfl <;> simp)) hb' (by intro c hc s; simp at hc; rcases hc with rfl | rfl <;> simp)
     · exact ((HXW.out.trans H5.out.2).setCell hge _).setCell hge _
   · rw [yes_no.2 hin] at hr KA
     have hr' : r = true := by rw [hr]; rfl
     subst hr'
     clear hr hin
     go_enter Tryz.func117, Tryz.ntmps117
     go_wp2_with (first
       | (go_at_call 26; refine KA.out.mono ?_; rintro _ W2 ⟨rfl, rfl⟩)
       | (at_builtin; refine wpList_append_flat rfl _ _ 38 rfl W2.heap.size 9 ti _ 1 16 Tryz.underlying38 hti htz hts htb rfl (by decide) (by decide) (.slice (some ⟨W2.heap.size, 0, none⟩) 0 0) 0 [] rfl HOWNS.out la l.length lc (l.map .string) rfl HFL.out (by omega) (by omega) hbz ?_; intro v4 w4 hown4 hg4 hf4
          simp only [Nat.zero_add, List.nil_append] at hown4
          have hx4 : Ext W2 w4 := HXS.out.grown hg4 (by intro r hr; simp [Value.ownBlock] at hr; omega)
          obtain ⟨a4, c4, rfl⟩ := row_shape hown4
          have HO4 := hide hown4
          have HX4 := hide hx4
          have hb4 := hx4.size
          clear hown4 hg4 hf4 hx4 hVs e0 e1)
       | (at_builtin; refine wpList_append_flat rfl _ _ 38 rfl W2.heap.size 9 ti _ 1 16 Tryz.underlying38 hti htz hts htb rfl (by decide) (by decide) (.slice a4 l.length c4) l.length (l.map .string) rfl (HO4.out.alloc _) (some ⟨w4.heap.size, 0, none⟩) 1 1 [.string s] rfl ⟨rfl, (by intro u hu; simp at hu; subst hu; rfl), (fun _ => ⟨_, _, rfl, (Blk.new w4 _ [.string s]).cells⟩)⟩ (by omega) (by omega) (by simp; omega) ?_; intro v5 w5 hown5 hg5 hf5
          have hx5 : Ext W2 w5 := (HX4.out.alloc _).grown hg5 (fun r hr => (HO4.out.lt r hr).1)
          obtain ⟨a5, c5, rfl⟩ := row_shape hown5
          have H5 := hide (And.intro hown5 hx5)
          obtain ⟨y0, y1⟩ := (HB2.out.ext hx5).get2
          obtain ⟨z0, z1⟩ := (HB2.out.ext hx5).free2
          have hbs := (HB2.out.ext hx5).store2 (.slice a5 (l.length + 1) c5) (.bool true)
          have hsz5 := hx5.size
          obtain ⟨g0, g1⟩ := hbs.get2
          clear hown5 hg5 hf5 hx5))
     refine bodyPost_ret (v := .agg #[.slice a5 (l.length + 1) c5, .bool true]) (by simp [results, Tryz.results117, go_sem, g0, g1]) rfl ⟨_, rfl, ?_, ?_⟩
     · have h1 : SStr w5 (l ++ [s]) (.slice a5 (l.length + 1) c5) := SStr.of_own H5.out.1 (by simp) (by simp)
       have hb := HB2.out.ext H5.out.2
       have hb' := hb.set_ 0 (.slice a5 (l.length + 1) c5)
       refine SStr.store (SStr.store h1 hb (by intro c hc s; simp at hc; rcases hc with rfl | rfl <;> simp)) hb' (by intro c hc s; simp at hc; rcases hc with rfl | rfl <;> simp)
     · exact ((HXW.out.trans H5.out.2).setCell hge _).setCell hge _
end Go.Proofs.YtjoglnjpgkobeaaGreatDoor
namespace Go.Proofs.YtjoglnjpgkobeaaGreatDoor
open Go Go.RowKit
theorem haf_on {o : Oper} {L : Nat → Bool} (haf : ∀ e ∈ o.after, Region.binds .any e = true → L e.on = true) (j : Nat) (h : (o.after.any fun e => Region.binds .any e && e.on == j) = true) : L j = true := by
 obtain ⟨e, he, hb⟩ := Array.any_eq_true'.1 h
 simp only [Bool.and_eq_true, beq_iff_eq] at hb
 rw [← hb.2]
 exact haf e he hb.1
theorem or_beq_ne {L : Nat → Bool} {i j : Nat} (h : (j == i) = false) : (fun j => L j || j == i) j = L j := by show (L j || j == i) = L j; rw [h, Bool.or_false]
theorem or_beq_eq {L : Nat → Bool} {i : Nat} : (fun j => L j || j == i) i = true := by simp
def onceJ (r o t : Nat) (v : Value) (L : Nat → Bool) (τ : Tmp → Value) (_ : World) : Prop := (L o = true → L r = true) ∧ (L o = false → τ t = v)
theorem onceJ_looks (r o t : Nat) (v : Value) : Looks (onceJ r o t v) [r, o] [t] := by
 intro L L' τ τ' w w' hL hτ hx ⟨h1, h2⟩
 unfold onceJ
 rw [hL r (by simp), hL o (by simp), hτ t (by simp)]
 exact ⟨h1, h2⟩
theorem onceJ_read {r o t : Nat} {v u : Value} {L : Nat → Bool} {A : Act} {d : Option Tmp} {w w' : World} (hro : (o == r) = false) (hd : d ≠ some t) (h : onceJ r o t v L (tau A) w) : onceJ r o t v (fun j => L j || j == r) (tau (A.put d u)) w' := by
 unfold onceJ
 rw [or_beq_eq, or_beq_ne hro, tau_put hd]
 exact ⟨fun _ => rfl, h.2⟩
theorem onceJ_at {r o t : Nat} {v : Value} {L : Nat → Bool} {τ : Tmp → Value} {w : World} (h : onceJ r o t v L τ w) (hr : L r = false) : τ t = v := by
 refine h.2 ?_
 cases ho : L o with
 | false => rfl
 | true => rw [h.1 ho] at hr; cases hr
theorem onceJ_write {r o t : Nat} {v u : Value} {L : Nat → Bool} {A : Act} {w w' : World} (hro : (r == o) = false) (hr : L r = true) : onceJ r o t v (fun j => L j || j == o) (tau (A.put (some t) u)) w' := by
 unfold onceJ
 rw [or_beq_eq, or_beq_ne hro]
 exact ⟨fun _ => hr, fun h => (by cases h)⟩
structure Fl {α : Type} (R : α → List Value → Prop) (sz : Nat) (l : List α) (xs : List Value) : Prop where
 len : xs.length = l.length * sz
 one : ∀ u ∈ xs, u.oneCell' = true
 rel : ∀ k (h : k < l.length), R l[k] ((xs.drop (k * sz)).take sz)
theorem Fl.nil {α : Type} {R : α → List Value → Prop} {sz : Nat} : Fl R sz [] [] := ⟨by simp, (fun u h => nomatch h), fun k h => by cases h⟩
theorem Fl.append {α : Type} {R : α → List Value → Prop} {sz : Nat} {l r : List α} {xs ys : List Value} (h : Fl R sz l xs) (k : Fl R sz r ys) : Fl R sz (l ++ r) (xs ++ ys) := by
 refine ⟨by rw [List.length_append, List.length_append, h.len, k.len, Nat.add_mul], fun u hu => (List.mem_append.1 hu).elim (h.one u) (k.one u), fun j hj => ?_⟩
 have hl := h.len
 rw [List.length_append] at hj
 by_cases hlt : j < l.length
 · have hks : j * sz + sz ≤ l.length * sz := by
     have := Nat.mul_le_mul_right sz (show j + 1 ≤ l.length by omega)
     rwa [Nat.succ_mul] at this
   rw [List.getElem_append_left hlt, List.drop_append_of_le_length (by omega), List.take_append_of_le_length (by rw [List.length_drop]; omega)]
   exact h.rel j hlt
 · obtain ⟨i, rfl⟩ : ∃ i, j = l.length + i := ⟨j - l.length, by omega⟩
   rw [List.getElem_append_right (by omega), show (l.length + i) * sz = xs.length + i * sz by rw [hl, Nat.add_mul], ← List.drop_drop, List.drop_left]
   simp only [Nat.add_sub_cancel_left]
   exact k.rel i (by omega)
theorem Fl.imp {α : Type} {R R' : α → List Value → Prop} {sz : Nat} {l : List α} {xs : List Value} (h : Fl R sz l xs) (hR : ∀ x cs, R x cs → R' x cs) : Fl R' sz l xs := ⟨h.len, h.one, fun k hk => hR _ _ (h.rel k hk)⟩
theorem Sl.fl {α : Type} {R : α → List Value → Prop} {w : World} {B sz : Nat} {l : List α} {v : Value} (h : Sl R w B sz l v) : ∃ a cap xs, v = .slice a l.length cap ∧ Flat w sz a l.length xs ∧ Fl R sz l xs := by
 obtain ⟨a, cap, rfl, -, hr⟩ := h
 obtain ⟨xs, h1, h2⟩ := hr.flat
 exact ⟨a, cap, xs, rfl, h1, h1.1, h1.2.1, h2⟩
structure OwnL {α : Type} (R : α → List Value → Prop) (base : Nat) (e : TypeId) (sz : Nat) (l : List α) (v : Value) (X : World) : Prop where
 ex : ∃ xs, X.ownsRow base e sz v l.length xs ∧ Fl R sz l xs
theorem OwnL.form {α : Type} {R : α → List Value → Prop} {base : Nat} {e : TypeId} {sz : Nat} {l : List α} {v : Value} {X : World} (h : OwnL R base e sz l v X) : ∃ a cap, v = .slice a l.length cap := by
 obtain ⟨xs, h, -⟩ := h.ex
 rcases h.2 with ⟨rfl, h0⟩ | ⟨g, cap, cur, rfl, -⟩
 · exact ⟨none, 0, by rw [h0]⟩
 · exact ⟨_, _, rfl⟩
theorem OwnL.later {α : Type} {R : α → List Value → Prop} {base : Nat} {e : TypeId} {sz : Nat} {l : List α} {v : Value} {X Y : World} (h : OwnL R base e sz l v X) (hx : Ext X Y) : OwnL R base e sz l v Y := by
 obtain ⟨xs, h1, h2⟩ := h.ex
 exact ⟨xs, h1.kept (Ext.grow hx) (by cases v.ownBlock <;> simp), h2⟩
theorem OwnL.none_ {α : Type} {R : α → List Value → Prop} {base : Nat} {e : TypeId} {sz : Nat} {X : World} : OwnL R base e sz ([] : List α) (.slice none 0 0) X := ⟨[], World.ownsRow_nil _ _ _ _, Fl.nil⟩
theorem OwnL.new {α : Type} {R : α → List Value → Prop} (w : World) (e : TypeId) {sz : Nat} : OwnL R w.heap.size e sz ([] : List α) (.slice (some ⟨w.heap.size, 0, none⟩) 0 0) (w.alloc (.cells #[] e)) :=
 ⟨[], ⟨by simp, .inr ⟨w.heap.size, 0, #[], rfl, Nat.le_refl _, Blk.new _ _ [], Nat.le_refl _, by decide, by simp, by simp⟩⟩, Fl.nil⟩
theorem OwnL.sl {α : Type} {R : α → List Value → Prop} {base : Nat} {e : TypeId} {sz : Nat} {l : List α} {v : Value} {X : World} (hsz : 0 < sz) (h : OwnL R base e sz l v X) : Sl R X X.heap.size sz l v := by
 obtain ⟨xs, h1, h2⟩ := h.ex
 exact Sl.of_own hsz h1 h2.one h2.rel
theorem OwnL.oneCell {α : Type} {R : α → List Value → Prop} {base : Nat} {e : TypeId} {sz : Nat} {l : List α} {v : Value} {X : World} (h : OwnL R base e sz l v X) : v.oneCell' = true := by
 obtain ⟨a, c, rfl⟩ := h.form; rfl
theorem OwnL.imp {α : Type} {R R' : α → List Value → Prop} {base : Nat} {e : TypeId} {sz : Nat} {l : List α} {v : Value} {X : World} (h : OwnL R base e sz l v X) (hR : ∀ x cs, R x cs → R' x cs) : OwnL R' base e sz l v X := by
 obtain ⟨xs, h1, h2⟩ := h.ex
 exact ⟨xs, h1, h2.imp hR⟩
theorem OwnL.lt {α : Type} {R : α → List Value → Prop} {base : Nat} {e : TypeId} {sz : Nat} {l : List α} {v : Value} {X : World} (h : OwnL R base e sz l v X) : ∀ g, v.ownBlock = some g → base ≤ g ∧ g < X.heap.size := by
 obtain ⟨xs, h1, -⟩ := h.ex
 exact fun g hg => h1.lt g hg
theorem Sl.imp {α : Type} {R R' : α → List Value → Prop} {w : World} {B sz : Nat} {l : List α} {v : Value} (h : Sl R w B sz l v) (hR : ∀ x cs, R x cs → R' x cs) : Sl R' w B sz l v := by
 obtain ⟨a, cap, hv, hc, hr⟩ := h
 refine ⟨a, cap, hv, hc, fun k hk => ?_⟩
 obtain ⟨b, o, cs, ha, hb, hl, hC, h1, hx⟩ := hr k hk
 exact ⟨b, o, cs, ha, hb, hl, hC, h1, hR _ _ hx⟩
theorem blk_beside {w w' : World} {r : Option Nat} {g : Nat} {t : TypeId} {cs : List Value} (hb : Blk w g t cs) (hg : w.grownBy w' r) (hr : ∀ b, r = some b → b ≠ g) : Blk w' g t cs :=
 (hg.block g hb.lt (fun e => hr g e.symm rfl)).trans hb
theorem OwnL.beside {α : Type} {R : α → List Value → Prop} {base : Nat} {e : TypeId} {sz : Nat} {l : List α} {v : Value} {X Y : World} {r : Option Nat} (h : OwnL R base e sz l v X) (hg : X.grownBy Y r) (hr : ∀ b, r = some b → b < base) : OwnL R base e sz l v Y := by
 obtain ⟨xs, h1, h2⟩ := h.ex
 refine ⟨xs, h1.kept hg ?_, h2⟩
 cases r with
 | none => cases v.ownBlock <;> simp
 | some b =>
   refine .inr fun e => ?_
   have g1 := (h1.lt b e).1
   have g2 := hr b rfl
   omega
end Go.Proofs.YtjoglnjpgkobeaaGreatDoor
namespace Go.Proofs.YtjoglnjpgkobeaaGreatDoor
open Go Go.RowKit
attribute [local go_sem] run_store_one
theorem tokL_decl {l : List Itm} {x : Itm} (hd : isDecl x.op) : tokL (l ++ [x]) ↔ tokL l ∧ ¬ x.name ∈ tnIs l := by
 have h8 : x.op ≠ 8 := by unfold isDecl at hd; omega
 have ht : tnIs [x] = [x.name] := by show tnI x ++ [] = _; rw [tnI_eq, if_pos hd, List.append_nil]
 unfold tokL
 rw [tokIs_append, tnIs_append, ht]
 constructor
 · rintro ⟨⟨h1, -⟩, h2⟩
   obtain ⟨h3, -, h4⟩ := List.nodup_append.1 h2
   exact ⟨⟨h1, h3⟩, fun h => h4 _ h _ (List.mem_singleton.2 rfl) rfl⟩
 · rintro ⟨⟨h1, h2⟩, h3⟩
   exact ⟨⟨h1, (tokI_eq x).2 fun h => absurd h h8, trivial⟩, List.nodup_append.2 ⟨h2, by simp, fun a ha b hb e => by rw [List.mem_singleton.1 hb] at e; exact h3 (e ▸ ha)⟩⟩
theorem tn_decl {l : List Itm} {x : Itm} (hd : isDecl x.op) : tnIs (l ++ [x]) = tnIs l ++ [x.name] := by
 rw [tnIs_append]; show _ ++ (tnI x ++ []) = _; rw [tnI_eq, if_pos hd, List.append_nil]
theorem tn_if {l : List Itm} {x : Itm} (h8 : x.op = 8) : tnIs (l ++ [x]) = tnIs l ++ addAll (tnIs x.l) (tnIs x.els) := by
 have hd : ¬ isDecl x.op := by rw [h8]; decide
 rw [tnIs_append]; show _ ++ (tnI x ++ []) = _; rw [tnI_eq, if_neg hd, if_pos h8, List.append_nil]
theorem tn_rest {l : List Itm} {x : Itm} (hd : ¬ isDecl x.op) (h8 : x.op ≠ 8) : tnIs (l ++ [x]) = tnIs l := by
 rw [tnIs_append]; show _ ++ (tnI x ++ []) = _; rw [tnI_eq, if_neg hd, if_neg h8]; simp
theorem tokL_rest {l : List Itm} {x : Itm} (hd : ¬ isDecl x.op) (h8 : x.op ≠ 8) : tokL (l ++ [x]) ↔ tokL l := by
 unfold tokL
 rw [tn_rest hd h8, tokIs_append]
 exact ⟨fun h => ⟨h.1.1, h.2⟩, fun h => ⟨⟨h.1, (tokI_eq x).2 fun h' => absurd h' h8, trivial⟩, h.2⟩⟩
def tokJ (l : List Itm) (x : Itm) (j : Nat) : Prop := (tokL l ∧ tokL x.l ∧ tokL x.els) ∧ (tnIs l ++ (addAll (tnIs x.l) (tnIs x.els)).take j).Nodup
theorem tokJ_zero {l : List Itm} {x : Itm} : tokJ l x 0 ↔ tokL l ∧ tokL x.l ∧ tokL x.els := by
 unfold tokJ
 rw [List.take_zero, List.append_nil]
 exact ⟨fun h => h.1, fun h => ⟨h, h.1.2⟩⟩
theorem tokJ_step {l : List Itm} {x : Itm} {j : Nat} (hj : j < (addAll (tnIs x.l) (tnIs x.els)).length) : tokJ l x (j + 1) ↔ tokJ l x j ∧ ¬ (addAll (tnIs x.l) (tnIs x.els))[j] ∈ tnIs l ++ (addAll (tnIs x.l) (tnIs x.els)).take j := by
 unfold tokJ
 rw [List.take_succ_eq_append_getElem hj, ← List.append_assoc]
 constructor
 · rintro ⟨h1, h2⟩
   obtain ⟨h3, -, h4⟩ := List.nodup_append.1 h2
   exact ⟨⟨h1, h3⟩, fun h => h4 _ h _ (List.mem_singleton.2 rfl) rfl⟩
 · rintro ⟨⟨h1, h2⟩, h3⟩
   exact ⟨h1, List.nodup_append.2 ⟨h2, by simp, fun a ha b hb e => by rw [List.mem_singleton.1 hb] at e; exact h3 (e ▸ ha)⟩⟩
theorem tokJ_end {l : List Itm} {x : Itm} (h8 : x.op = 8) : tokJ l x (addAll (tnIs x.l) (tnIs x.els)).length ↔ tokL (l ++ [x]) := by
 unfold tokJ
 rw [List.take_length]
 show _ ↔ tokIs (l ++ [x]) ∧ (tnIs (l ++ [x])).Nodup
 rw [tn_if h8, tokIs_append]
 constructor
 · rintro ⟨⟨h1, h2, h3⟩, h4⟩
   exact ⟨⟨h1.1, (tokI_eq x).2 fun _ => ⟨h2, h3⟩, trivial⟩, h4⟩
 · rintro ⟨⟨h1, h2, -⟩, h4⟩
   have h5 := (tokI_eq x).1 h2 h8
   exact ⟨⟨⟨h1, (List.nodup_append.1 h4).1⟩, h5.1, h5.2⟩, h4⟩
theorem tn_len : ∀ x : Itm, (tnI x).length ≤ sizeI x := by
 intro x
 induction x using Itm.ind with
 | h x h1 h2 =>
   have hl : ∀ l : List Itm, (∀ y, y ∈ l → (tnI y).length ≤ sizeI y) → (tnIs l).length ≤ msize sizeI l := by
     intro l
     induction l with
     | nil => intro _; exact Nat.le_refl _
     | cons y r ih2 =>
       intro hm
       have h1 := hm y (List.mem_cons_self ..)
       have h2 := ih2 fun z hz => hm z (List.mem_cons_of_mem _ hz)
       show (tnI y ++ tnIs r).length ≤ sizeI y + msize sizeI r
       rw [List.length_append]; omega
   have e1 := hl _ h1
   have e2 := hl _ h2
   have e3 := sizeI_eq x
   have e4 := addAll_le (tnIs x.els) (tnIs x.l)
   rw [tnI_eq]
   by_cases hd : isDecl x.op
   · rw [if_pos hd]; simp; omega
   · rw [if_neg hd]
     by_cases h8 : x.op = 8
     · rw [if_pos h8]; omega
     · rw [if_neg h8]; simp
theorem tns_len (l : List Itm) : (tnIs l).length ≤ msize sizeI l := by
 induction l with
 | nil => exact Nat.le_refl _
 | cons y r ih =>
   have := tn_len y
   show (tnI y ++ tnIs r).length ≤ sizeI y + msize sizeI r
   rw [List.length_append]; omega
theorem varScp (w : World) (v0 v1 : Value) : ∃ Wb Wc : World, w.alloc (.cells #[.slice none 0 0, .bool false] 101) = Wb ∧ (Wb.cell? ⟨w.heap.size, 0, none⟩ = some (.slice none 0 0) ∧ Wb.cell? ⟨w.heap.size, 1, none⟩ = some (.bool false)) ∧ (Wb.frozen? ⟨w.heap.size, 0, none⟩ = false ∧ Wb.frozen? ⟨w.heap.size, 1, none⟩ = false) ∧
   ((Wb.setCell ⟨w.heap.size, 0, none⟩ v0).setCell ⟨w.heap.size, 1, none⟩ v1) = Wc ∧ Blk Wc w.heap.size 101 [v0, v1] ∧ Ext w Wc := by
 obtain ⟨Wb, hWb, hxb, hbb⟩ := box2 w (.slice none 0 0) (.bool false) 101
 obtain ⟨Wc, hWc⟩ : ∃ Wc, Wc = ((Wb.setCell ⟨w.heap.size, 0, none⟩ v0).setCell ⟨w.heap.size, 1, none⟩ v1) := ⟨_, rfl⟩
 have hbc := hbb.store2 v0 v1
 rw [← hWc] at hbc
 refine ⟨Wb, Wc, hWb.symm, hbb.get2, hbb.free2, hWc.symm, hbc, ?_⟩
 rw [hWc]; exact (hxb.setCell (Nat.le_refl _) _).setCell (Nat.le_refl _) _
theorem scp_no (v : Value) (b : Bool) (hv : ∀ s, v ≠ .string s) : ∀ c ∈ [v, Value.bool b], ∀ s, c ≠ .string s := by
 intro c hc s
 simp only [List.mem_cons, List.not_mem_nil, or_false] at hc
 rcases hc with rfl | rfl
 · exact hv s
 · intro h; cases h
theorem SStr.no {w : World} {l : List ByteArray} {v : Value} (h : SStr w l v) : ∀ s, v ≠ .string s := by
 obtain ⟨a, c, rfl, -⟩ := h
 intro s h; cases h
theorem SStr.scp {w : World} {l : List ByteArray} {v u : Value} {g : Nat} {c0 : Value} {b b' : Bool} (h : SStr w l v) (hb : Blk w g 101 [c0, .bool b]) (hc : ∀ s, c0 ≠ .string s) (hu : ∀ s, u ≠ .string s) : SStr ((w.setCell ⟨g, 0, none⟩ u).setCell ⟨g, 1, none⟩ (.bool b')) l v :=
 SStr.store (SStr.store h hb (scp_no c0 b hc)) (hb.set_ 0 u) (by simpa using scp_no u b hu)
structure ToldI (w : World) (names : List ByteArray) (ok : Bool) (X : World) : Prop where
 ext : Ext w X
 res : Blk X w.heap.size 101 [.slice none 0 0, .bool false]
 scp : ∃ vs, Blk X (w.heap.size + 1) 101 [vs, .bool ok] ∧ SStr X names vs
theorem ToldI.later {w X Y : World} {names : List ByteArray} {ok : Bool} (h : ToldI w names ok X) (hx : Ext X Y) : ToldI w names ok Y :=
 ⟨h.ext.trans hx, h.res.ext hx, by obtain ⟨vs, h1, h2⟩ := h.scp; exact ⟨vs, h1.ext hx, h2.ext hx⟩⟩
theorem ToldI.store {w X : World} {names names' : List ByteArray} {ok ok' : Bool} {v' : Value} (h : ToldI w names ok X) (hs : SStr X names' v') : ToldI w names' ok' ((X.setCell ⟨w.heap.size + 1, 0, none⟩ v').setCell ⟨w.heap.size + 1, 1, none⟩ (.bool ok')) := by
 obtain ⟨vs, h1, h2⟩ := h.scp
 have hne : w.heap.size ≠ w.heap.size + 1 := by omega
 exact ⟨(h.ext.setCell (by simp) _).setCell (by simp) _, (h.res.far hne _).far hne _, v', h1.store2 v' (.bool ok'), hs.scp h1 h2.no hs.no⟩
theorem ToldI.flag {w X : World} {names : List ByteArray} {ok ok' : Bool} (h : ToldI w names ok X) : ToldI w names ok' (X.setCell ⟨w.heap.size + 1, 1, none⟩ (.bool ok')) := by
 obtain ⟨vs, h1, h2⟩ := h.scp
 have hne : w.heap.size ≠ w.heap.size + 1 := by omega
 refine ⟨h.ext.setCell (by simp) _, h.res.far hne _, vs, ?_, SStr.store h2 h1 (scp_no vs ok h2.no)⟩
 simpa using h1.set_ 1 (.bool ok')
def boxOk (w : World) (N0 : Nat) (v : Value) (done : Bool) (b : Bool) (names : List ByteArray) : Prop := ∃ (g : Nat) (c0 : Value) (c1 : Bool), v = .pointer (some ⟨g, 0, none⟩) ∧ N0 ≤ g ∧ Blk w g 101 [c0, .bool c1] ∧ (∀ s, c0 ≠ .string s) ∧ (done = true → c1 = b ∧ SStr w names c0)
theorem boxOk.ext {w w' : World} {N0 : Nat} {v : Value} {done b : Bool} {names : List ByteArray} (h : boxOk w N0 v done b names) (hx : Ext w w') : boxOk w' N0 v done b names := by
 obtain ⟨g, c0, c1, h1, h2, h3, h4, h5⟩ := h
 exact ⟨g, c0, c1, h1, h2, h3.ext hx, h4, fun hd => ⟨(h5 hd).1, (h5 hd).2.ext hx⟩⟩
theorem boxOk.store {w : World} {N0 g : Nat} {v u : Value} {done b b' : Bool} {names : List ByteArray} {c0 : Value} {c1 : Bool} (h : boxOk w N0 v done b names) (hb : Blk w g 101 [c0, .bool c1]) (hc : ∀ s, c0 ≠ .string s) (hu : ∀ s, u ≠ .string s) (hne : v ≠ .pointer (some ⟨g, 0, none⟩)) : boxOk ((w.setCell ⟨g, 0, none⟩ u).setCell ⟨g, 1, none⟩ (.bool b')) N0 v done b names := by
 obtain ⟨g', d0, d1, h1, h2, h3, h4, h5⟩ := h
 have hg : g' ≠ g := fun e => hne (by rw [h1, e])
 exact ⟨g', d0, d1, h1, h2, (h3.far hg _).far hg _, h4, fun hd => ⟨(h5 hd).1, (h5 hd).2.scp hb hc hu⟩⟩
theorem boxOk.here {w : World} {N0 g : Nat} {v u : Value} {done b : Bool} {names : List ByteArray} (h : boxOk w N0 v done b names) (hv : v = .pointer (some ⟨g, 0, none⟩)) (hs : SStr w names u) : boxOk ((w.setCell ⟨g, 0, none⟩ u).setCell ⟨g, 1, none⟩ (.bool b)) N0 v true b names := by
 obtain ⟨g', d0, d1, h1, h2, h3, h4, h5⟩ := h
 rw [hv] at h1
 obtain rfl : g = g' := by cases h1; rfl
 exact ⟨g, u, b, hv, h2, h3.store2 u (.bool b), hs.no, fun _ => ⟨rfl, hs.scp h3 h4 hs.no⟩⟩
def twoJ (N0 : Nat) (ba bb : Bool) (la lb : List ByteArray) (L : Nat → Bool) (τ : Tmp → Value) (w : World) : Prop :=
 (L 8 = true → L 6 = true) ∧ (L 9 = true → L 7 = true) ∧ (L 6 = true → boxOk w N0 (τ 6) (L 8) ba la) ∧ (L 7 = true → boxOk w N0 (τ 7) (L 9) bb lb) ∧ (L 6 = true → L 7 = true → τ 6 ≠ τ 7)
theorem twoJ_looks (N0 : Nat) (ba bb : Bool) (la lb : List ByteArray) : Looks (twoJ N0 ba bb la lb) [6, 7, 8, 9] [6, 7] := by
 intro L L' τ τ' w w' hL hτ hx ⟨h1, h2, h3, h4, h5⟩
 unfold twoJ
 rw [hL 6 (by simp), hL 7 (by simp), hL 8 (by simp), hL 9 (by simp), hτ 6 (by simp), hτ 7 (by simp)]
 exact ⟨h1, h2, fun h => (h3 h).ext hx, fun h => (h4 h).ext hx, h5⟩
theorem twoJ_alloc6 {N0 : Nat} {ba bb : Bool} {la lb : List ByteArray} {L : Nat → Bool} {A : Act} {w : World} (hz : 6 < A.tmps.size) (h6 : L 6 = false) (hN : N0 ≤ w.heap.size) (h : twoJ N0 ba bb la lb L (tau A) w) :
   twoJ N0 ba bb la lb (fun j => L j || j == 6) (tau (A.put (some 6) (.pointer (some ⟨w.heap.size, 0, none⟩)))) (w.alloc (.cells #[.slice none 0 0, .bool false] 101)) := by
 obtain ⟨h1, h2, h3, h4, h5⟩ := h
 have h8 : L 8 = false := by
   cases e : L 8 with
   | false => rfl
   | true => rw [h1 e] at h6; cases h6
 unfold twoJ
 rw [or_beq_eq, or_beq_ne (by decide), or_beq_ne (by decide), or_beq_ne (by decide), tau_here hz, tau_put (by decide), h8]
 refine ⟨fun h => rfl, h2, fun _ => ⟨w.heap.size, .slice none 0 0, false, rfl, hN, Blk.new w _ [.slice none 0 0, .bool false], (fun s h => by cases h), fun h => by cases h⟩, fun h => (h4 h).ext (Ext.new _ _), fun _ h7 => ?_⟩
 obtain ⟨g, c0, c1, e1, -, e3, -⟩ := h4 h7
 intro e
 rw [e1] at e
 have := e3.lt
 simp at e
 try omega
theorem twoJ_alloc7 {N0 : Nat} {ba bb : Bool} {la lb : List ByteArray} {L : Nat → Bool} {A : Act} {w : World} (hz : 7 < A.tmps.size) (h7 : L 7 = false) (hN : N0 ≤ w.heap.size) (h : twoJ N0 ba bb la lb L (tau A) w) :
   twoJ N0 ba bb la lb (fun j => L j || j == 7) (tau (A.put (some 7) (.pointer (some ⟨w.heap.size, 0, none⟩)))) (w.alloc (.cells #[.slice none 0 0, .bool false] 101)) := by
 obtain ⟨h1, h2, h3, h4, h5⟩ := h
 have h9 : L 9 = false := by
   cases e : L 9 with
   | false => rfl
   | true => rw [h2 e] at h7; cases h7
 unfold twoJ
 rw [or_beq_eq, or_beq_ne (by decide), or_beq_ne (by decide), or_beq_ne (by decide), tau_here hz, tau_put (by decide), h9]
 refine ⟨h1, fun h => rfl, fun h => (h3 h).ext (Ext.new _ _), fun _ => ⟨w.heap.size, .slice none 0 0, false, rfl, hN, Blk.new w _ [.slice none 0 0, .bool false], (fun s h => by cases h), fun h => by cases h⟩, fun h6 _ => ?_⟩
 obtain ⟨g, c0, c1, e1, -, e3, -⟩ := h3 h6
 intro e
 rw [e1] at e
 have := e3.lt
 simp at e
 try omega
theorem twoJ_store8 {N0 g : Nat} {ba bb : Bool} {la lb : List ByteArray} {L : Nat → Bool} {A : Act} {w : World} {va : Value} (hg : tau A 6 = .pointer (some ⟨g, 0, none⟩)) (h6 : L 6 = true) (hs : SStr w la va) (h : twoJ N0 ba bb la lb L (tau A) w) :
   twoJ N0 ba bb la lb (fun j => L j || j == 8) (tau A) ((w.setCell ⟨g, 0, none⟩ va).setCell ⟨g, 1, none⟩ (.bool ba)) := by
 obtain ⟨h1, h2, h3, h4, h5⟩ := h
 unfold twoJ
 rw [or_beq_eq, or_beq_ne (by decide), or_beq_ne (by decide), or_beq_ne (by decide)]
 refine ⟨fun _ => h6, h2, fun h => (h3 h).here hg hs, fun h => ?_, h5⟩
 obtain ⟨g', c0, c1, e1, -, e3, e4, -⟩ := h3 h6
 rw [hg] at e1
 obtain rfl : g = g' := by cases e1; rfl
 exact (h4 h).store e3 e4 hs.no (fun e => h5 h6 h (by rw [hg, e]))
theorem twoJ_store9 {N0 g : Nat} {ba bb : Bool} {la lb : List ByteArray} {L : Nat → Bool} {A : Act} {w : World} {vb : Value} (hg : tau A 7 = .pointer (some ⟨g, 0, none⟩)) (h7 : L 7 = true) (hs : SStr w lb vb) (h : twoJ N0 ba bb la lb L (tau A) w) :
   twoJ N0 ba bb la lb (fun j => L j || j == 9) (tau A) ((w.setCell ⟨g, 0, none⟩ vb).setCell ⟨g, 1, none⟩ (.bool bb)) := by
 obtain ⟨h1, h2, h3, h4, h5⟩ := h
 unfold twoJ
 rw [or_beq_eq, or_beq_ne (by decide), or_beq_ne (by decide), or_beq_ne (by decide)]
 refine ⟨h1, fun _ => h7, fun h => ?_, fun h => (h4 h).here hg hs, h5⟩
 obtain ⟨g', c0, c1, e1, -, e3, e4, -⟩ := h4 h7
 rw [hg] at e1
 obtain rfl : g = g' := by cases e1; rfl
 exact (h3 h).store e3 e4 hs.no (fun e => h5 h h7 (by rw [hg, e]))
def twoF (xg : Nat) (v5 v6 : Value) (ba bb : Bool) (la lb : List ByteArray) (i : Nat) (v : Value) (w : World) : Prop := match i with
 | 0 => v = .pointer (some ⟨xg, 5, none⟩)
 | 1 => v = v5
 | 2 => ∃ va, v = .agg #[va, .bool ba] ∧ SStr w la va
 | 3 => v = .pointer (some ⟨xg, 6, none⟩)
 | 4 => v = v6
 | 5 => ∃ vb, v = .agg #[vb, .bool bb] ∧ SStr w lb vb
 | 6 => ∃ g, v = .pointer (some ⟨g, 0, none⟩)
 | 7 => ∃ g, v = .pointer (some ⟨g, 0, none⟩)
 | _ => True
theorem twoF_imp {xg : Nat} {v5 v6 : Value} {ba bb : Bool} {la lb : List ByteArray} {i : Nat} {v : Value} {w w' : World} (hs : ∀ l u, SStr w l u → SStr w' l u) (h : twoF xg v5 v6 ba bb la lb i v w) : twoF xg v5 v6 ba bb la lb i v w' := by
 unfold twoF at h ⊢
 split at h
 all_goals first
   | exact h
   | (obtain ⟨va, h1, h2⟩ := h; exact ⟨va, h1, hs _ _ h2⟩)
theorem twoF_ext {xg : Nat} {v5 v6 : Value} {ba bb : Bool} {la lb : List ByteArray} {i : Nat} {v : Value} {w w' : World} (h : twoF xg v5 v6 ba bb la lb i v w) (hx : Ext w w') : twoF xg v5 v6 ba bb la lb i v w' := twoF_imp (fun l u hs => hs.ext hx) h
end Go.Proofs.YtjoglnjpgkobeaaGreatDoor
