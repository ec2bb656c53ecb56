import Derived.Maps.AppendAt
import Derived.OwnWalk
import Derived.Lib.AppendZerosOnto
import Derived.Test.YtjoglnjpgkobeaaGreatDoorProg
import Derived.Test.YtjoglnjpgkobeaaGreatDoorS3
import Derived.Test.YtjoglnjpgkobeaaGreatDoorS17
set_option linter.all false
set_option linter.unusedVariables false
set_option linter.unusedSimpArgs false
namespace Go.Proofs.YtjoglnjpgkobeaaGreatDoor
open Go Go.RowKit
def Flat (w : World) (size : Nat) (A : Option Addr) (m : Nat) (news : List Value) : Prop :=
 news.length = m * size ∧ (∀ u ∈ news, u.oneCell' = true) ∧ (0 < m → ∃ b o, A = some ⟨b, o, none⟩ ∧ Cells w b o news)
theorem Flat.ext {w w' : World} {size : Nat} {A : Option Addr} {m : Nat} {news : List Value} (h : Flat w size A m news) (hx : Ext w w') : Flat w' size A m news :=
 ⟨h.1, h.2.1, fun hm => by obtain ⟨b, o, e, hc⟩ := h.2.2 hm; exact ⟨b, o, e, hc.ext hx⟩⟩
theorem Flat.none_ {w : World} {size : Nat} {A : Option Addr} : Flat w size A 0 [] := ⟨by simp, (fun u hu => nomatch hu), (fun h => by omega)⟩
theorem addr_add0 (b o j : Nat) : (⟨b, o, none⟩ : Addr).add j = ⟨b, o + j, none⟩ := by
 unfold Addr.add
 by_cases h : j = 0 <;> simp [h]
theorem run_append_flat {P : Program} (w : World) (base : Nat) (t ty e : TypeId) (i : TypeInfo) (z : Value) (size bytes : Nat) (ht : P.underlying t = some (.slice e)) (hi : P.info? e = some i) (hz : i.zero = some z)
   (hsize : i.size = size) (hby : i.bytes = bytes) (hzs : z.cells.size = size) (hsz : 0 < size) (hb : bytes ≤ 1000)
   (v : Value) (n : Nat) (xs : List Value) (hown : w.ownsRow base e size v n xs) (A : Option Addr) (m c : Nat) (news : List Value) (hr : Flat w size A m news)
   (hn : n ≤ 1000000000) (hm : m ≤ 1000000000) (hbase : base ≤ w.heap.size) :
   ∃ v' w', (Builtin.append_ #[t, t] ty #[v, .slice A m c]).run P w = .ok v' w' ∧ w'.ownsRow base e size v' (n + m) (xs ++ news) ∧ w.grownBy w' v.ownBlock ∧ (∀ g, v'.ownBlock = some g → v.ownBlock = some g ∨ w.heap.size ≤ g) := by
 rcases A with _ | ad
 · have hm0 : m = 0 := by
     rcases Nat.eq_zero_or_pos m with h0 | h0
     · exact h0
     · obtain ⟨_, _, h, _⟩ := hr.2.2 h0; cases h
   subst hm0
   obtain rfl : news = [] := List.eq_nil_of_length_eq_zero (by simpa using hr.1)
   refine ⟨v, w, ?_, by simpa using hown, World.grownBy.refl w _, fun g hg => .inl hg⟩
   rcases hown.2 with ⟨rfl, rfl⟩ | ⟨g, cap, cur, rfl, _, _, hnc, _⟩ <;> simp [Builtin.append_, run_underlying ht, sizeOf, typeInfo, hi, Builtin.lenOf, Builtin.firstCells, storeCells, *]
 · have hcells : ∀ j u, news[j]? = some u → w.cell? (ad.add j) = some u := by
     intro j u hu
     rcases Nat.eq_zero_or_pos m with h0 | h0
     · subst h0
       obtain rfl : news = [] := List.eq_nil_of_length_eq_zero (by simpa using hr.1)
       simp at hu
     · obtain ⟨b, o, h, hc⟩ := hr.2.2 h0
       injection h with h
       subst h
       rw [addr_add0]
       exact hc j u hu
   have hbytes : (n + m) * bytes ≤ 140737488355328 := by
     calc (n + m) * bytes ≤ 2000000000 * 1000 := Nat.mul_le_mul (by omega) hb
       _ ≤ 140737488355328 := by decide
   obtain ⟨v', w', hrun, h2, h3, _, h5⟩ := run_append_own_at (P := P) w base t ty e i z size bytes ht hi hz hsize hby hzs hsz v n xs hown ad m c news hr.1 hcells hr.2.1 (by simp only [maxLen]; omega) hbytes hbase
   refine ⟨v', w', hrun, h2, h3, fun g hg => ?_⟩
   rcases h5 with h5 | h5
   · exact .inl (h5 ▸ hg)
   · rw [h5] at hg
     exact .inr (by injection hg with hg; omega)
theorem wpList_append_flat {P : Program} {w : World} {ops : Array Oper} {rest : List Oper} {o : Oper} {a : Act} {Q : Exit → Act → World → Prop} (hgd : o.guard = none) (s x : Operand) (t : TypeId)
   (ho : o.op = .call { callee := .builtin .append, args := #[s, x], argTypes := #[t, t] })
   (base : Nat) (e : TypeId) (i : TypeInfo) (z : Value) (size bytes : Nat) (ht : P.underlying t = some (.slice e)) (hi : P.info? e = some i) (hz : i.zero = some z)
   (hsize : i.size = size) (hby : i.bytes = bytes) (hzs : z.cells.size = size) (hsz : 0 < size) (hb : bytes ≤ 1000)
   (v : Value) (n : Nat) (xs : List Value) (hs : a.eval s = v) (hown : w.ownsRow base e size v n xs)
   (A : Option Addr) (m c : Nat) (news : List Value) (hx : a.eval x = .slice A m c) (hr : Flat w size A m news)
   (hn : n ≤ 1000000000) (hm : m ≤ 1000000000) (hbase : base ≤ w.heap.size)
   (h : ∀ v' w', w'.ownsRow base e size v' (n + m) (xs ++ news) → w.grownBy w' v.ownBlock → (∀ g, v'.ownBlock = some g → v.ownBlock = some g ∨ w.heap.size ≤ g) → wpList P ops Q rest (a.put o.dst v') w') : wpList P ops Q (o :: rest) a w :=
 wpList_plain hgd fun _ hK => by
   obtain ⟨v', w', hrun, h2, h3, h4⟩ := run_append_flat (P := P) w base t o.type e i z size bytes ht hi hz hsize hby hzs hsz hb v n xs hown A m c news hr hn hm hbase
   unfold Oper.wp execOp
   simp only [ho, resolve, invoke, builtin, Sem.run_bind, Sem.run_pure, Result.andThen_ok, List.map_toArray, List.map_cons, List.map_nil, hs, hx, hrun]
   exact hK _ _ (h v' w' h2 h3 h4)
theorem Row.flat {α : Type} {R : α → List Value → Prop} {w : World} {B sz : Nat} {l : List α} {a : Option Addr} (h : Row R w B sz l a) :
   ∃ news : List Value, Flat w sz a l.length news ∧ ∀ k, (hk : k < l.length) → R l[k] ((news.drop (k * sz)).take sz) := by
 suffices H : ∀ n, n ≤ l.length → ∃ news : List Value, Flat w sz a n news ∧ ∀ k, (hk : k < l.length) → k < n → R l[k] ((news.drop (k * sz)).take sz) by
   obtain ⟨news, h1, h2⟩ := H l.length (Nat.le_refl _)
   exact ⟨news, h1, fun k hk => h2 k hk hk⟩
 intro n
 induction n with
 | zero => intro _; exact ⟨[], Flat.none_, fun k _ hk => by omega⟩
 | succ n ih =>
   intro hn
   obtain ⟨news, ⟨hl, h1, hc⟩, hR⟩ := ih (by omega)
   obtain ⟨b, o, cs, ha, hb, hcl, hC, ho, hRn⟩ := h n (by omega)
   refine ⟨news ++ cs, ⟨by rw [List.length_append, hl, hcl, Nat.succ_mul], fun u hu => (List.mem_append.1 hu).elim (h1 u) (ho u), fun _ => ⟨b, o, ha, fun j u hu => ?_⟩⟩, fun k hk hkn => ?_⟩
   · rcases Nat.lt_or_ge j news.length with hj | hj
     · rw [List.getElem?_append_left hj] at hu
       have hn0 : 0 < n := by
         rcases Nat.eq_zero_or_pos n with h0 | h0
         · subst h0; simp at hl; rw [hl] at hj; simp at hj
         · exact h0
       obtain ⟨b', o', ha', hC'⟩ := hc hn0
       rw [ha] at ha'
       simp only [Option.some.injEq, Addr.mk.injEq, and_true] at ha'
       obtain ⟨rfl, rfl⟩ := ha'
       exact hC' j u hu
     · rw [List.getElem?_append_right hj, hl] at hu
       have := hC (j - n * sz) u hu
       rwa [show o + n * sz + (j - n * sz) = o + j by omega] at this
   · have hks : k * sz + sz ≤ (n + 1) * sz := by
       have := Nat.mul_le_mul_right sz (show k + 1 ≤ n + 1 by omega)
       rwa [Nat.succ_mul] at this
     rcases Nat.lt_or_ge k n with hkn' | hkn'
     · have hks : k * sz + sz ≤ n * sz := by
         have := Nat.mul_le_mul_right sz (show k + 1 ≤ n by omega)
         rwa [Nat.succ_mul] at this
       rw [List.drop_append_of_le_length (by omega), List.take_append_of_le_length (by rw [List.length_drop]; omega)]
       exact hR k hk hkn'
     · obtain rfl : k = n := by omega
       rw [← hl, List.drop_left, ← hcl, List.take_length]
       exact hRn
theorem Sl.of_own {α : Type} {R : α → List Value → Prop} {w : World} {base sz : Nat} {e : TypeId} {l : List α} {v : Value} {xs : List Value} (hsz : 0 < sz) (h : w.ownsRow base e sz v l.length xs) (h1 : ∀ u ∈ xs, u.oneCell' = true)
   (hR : ∀ k, (hk : k < l.length) → R l[k] ((xs.drop (k * sz)).take sz)) : Sl R w w.heap.size sz l v := by
 have hlen := h.1
 rcases h.2 with ⟨rfl, h0⟩ | ⟨g, cap, cur, rfl, _, hg, hn, hm, hcur, htake⟩
 · obtain rfl : l = [] := List.eq_nil_of_length_eq_zero h0
   exact Sl.nil
 · refine ⟨_, cap, rfl, hn, fun k hk => ?_⟩
   have hks : k * sz + sz ≤ l.length * sz := by
     have := Nat.mul_le_mul_right sz (show k + 1 ≤ l.length by omega)
     rwa [Nat.succ_mul] at this
   refine ⟨g, 0, (xs.drop (k * sz)).take sz, rfl, (Array.getElem?_eq_some_iff.1 hg).1, by rw [List.length_take, List.length_drop, hlen]; omega, fun j u hu => ?_, fun u hu => h1 u (List.mem_of_mem_drop (List.mem_of_mem_take hu)), hR k hk⟩
   have hj : j < sz := by
     rcases Nat.lt_or_ge j sz with hj | hj
     · exact hj
     · rw [List.getElem?_eq_none (by rw [List.length_take]; omega)] at hu; cases hu
   rw [List.getElem?_take_of_lt hj, List.getElem?_drop] at hu
   have := h.cells (g := g) rfl (k * sz + j) u hu
   rw [addr_add0] at this
   simpa using this
end Go.Proofs.YtjoglnjpgkobeaaGreatDoor
namespace Go.Proofs.YtjoglnjpgkobeaaGreatDoor
open Go Go.RowKit
attribute [local go_sem] run_store_one
theorem infoItm : (Tryz.prog.info? 53).map (fun i => (i.zero, i.size, i.bytes)) = some (some (.agg #[.int .i64 0, .string ⟨#[]⟩, .string ⟨#[]⟩, .slice none 0 0, .slice none 0 0, .slice none 0 0, .slice none 0 0, .slice none 0 0, .slice none 0 0]), 9, 184) := by kernel_rfl
set_option maxRecDepth 100000 in
set_option maxHeartbeats 1000000 in
theorem grow_any (n : Nat) (w : World) (hn : n ≤ 100000000) :
   Calls Tryz.prog 121 #[.slice none 0 0, .int .i64 n] w fun e w' => ∃ a cap, e = .returned (.slice a 0 cap) ∧ w'.ownsRow w.heap.size 53 9 (.slice a 0 cap) 0 [] ∧ Ext w w' := by
 rcases Nat.eq_zero_or_pos n with h0 | h0
 · subst h0
   go_enter Tryz.func121, Tryz.ntmps121
   go_wp2
   go_ret
   exact ⟨none, 0, rfl, ⟨rfl, .inl ⟨rfl, rfl⟩⟩, Ext.refl _⟩
 · obtain ⟨ti, hti, htz, hts, htb⟩ := info_parts infoItm
   have hfit : Builtin.nextslicecap (0 + n) 0 * ti.bytes ≤ 281474976710656 := growslice_fits (by omega) (by rw [htb]; omega)
   have hold : (Builtin.firstCells ti.size 0 (.slice none 0 0)).run Tryz.prog w.drew = .ok ([] : List Value).toArray w.drew := run_firstCells_none w.drew ti.size 0 0 0
   have hrun : ∀ ty, (Builtin.append_ #[31, 3] ty #[.slice none 0 0, .int .i64 (n : Nat)]).run Tryz.prog w = _ := fun ty =>
     Lib.run_append_grow_zeros w 31 3 ty 53 ti _ .i64 .i64 Tryz.underlying31 Tryz.underlying3 hti htz none 0 0 [] hold n h0 (by rw [hts]; decide) (by omega) (by omega) (by rw [htb]; omega) hfit
   have hcap := grownCap_le_maxLen w (0 + n) 0 53 (by unfold maxLen; omega)
   have hcge := grownCap_ge w (0 + n) 0 53
   have hcz : ∀ z : Array Value, z.size = 9 → (([] : List Value).toArray ++ Builtin.zeroCells z n ++ Builtin.zeroCells z (grownCap w (0 + n) 0 53 - (0 + n))).size = grownCap w (0 + n) 0 53 * 9 := fun z hz => by
     rw [Array.size_append, Array.size_append, size_zeroCells, size_zeroCells, hz]
     show 0 + n * 9 + (grownCap w (0 + n) 0 53 - (0 + n)) * 9 = grownCap w (0 + n) 0 53 * 9
     omega
   have hcz' := hcz _ (show (Value.agg #[.int .i64 0, .string ⟨#[]⟩, .string ⟨#[]⟩, .slice none 0 0, .slice none 0 0, .slice none 0 0, .slice none 0 0, .slice none 0 0, .slice none 0 0]).cells.size = 9 from rfl)
   obtain ⟨G, hG⟩ : ∃ G, G = grownCap w (0 + n) 0 53 := ⟨_, rfl⟩
   rw [← hG] at hrun hcap hcge hcz'
   obtain ⟨cur, hcur⟩ : ∃ cur, cur = ([] : List Value).toArray ++ Builtin.zeroCells (Value.agg #[.int .i64 0, .string ⟨#[]⟩, .string ⟨#[]⟩, .slice none 0 0, .slice none 0 0, .slice none 0 0, .slice none 0 0, .slice none 0 0, .slice none 0 0]).cells n ++ Builtin.zeroCells (Value.agg #[.int .i64 0, .string ⟨#[]⟩, .string ⟨#[]⟩, .slice none 0 0, .slice none 0 0, .slice none 0 0, .slice none 0 0, .slice none 0 0, .slice none 0 0]).cells (G - (0 + n)) := ⟨_, rfl⟩
   rw [← hcur] at hrun hcz'
   have FIN := hide (show (w.drew.alloc (.cells cur 53)).ownsRow w.heap.size 53 9 (.slice (some ⟨w.heap.size, 0, none⟩) 0 G) 0 [] ∧ Ext w (w.drew.alloc (.cells cur 53)) from
     ⟨⟨rfl, .inr ⟨w.heap.size, G, cur, rfl, Nat.le_refl _, World.alloc_heap_new w.drew _, Nat.zero_le _, hcap, hcz', by simp⟩⟩, (Ext.refl w).drew.alloc _⟩)
   have hG63 : (G : Int) ≤ 9223372036854775807 := by unfold maxLen at hcap; omega
   have hGn : 0 + n ≤ G := hcge
   clear hold hfit hcz hcz' hcur hcap hG hcge
   go_enter Tryz.func121, Tryz.ntmps121
   go_wp2_with (at_builtin; refine Lib.wpList_append_run _ rfl _ _ _ _ rfl _ _ rfl rfl _ _ (hrun _) ?_)
   all_goals
     go_ret
     exact ⟨some ⟨w.heap.size, 0, none⟩, G, rfl, FIN.out.1, FIN.out.2⟩
set_option maxRecDepth 100000 in
set_option maxHeartbeats 2000000 in
theorem concat_any (g : Nat) (a1 a2 : Option Addr) (n1 n2 k1 k2 : Nat) (xs1 xs2 : List Value) (w : World) (hb : Blk w g 31 [.slice a1 n1 k1, .slice a2 n2 k2]) (h1 : Flat w 9 a1 n1 xs1) (h2 : Flat w 9 a2 n2 xs2) (z1 : n1 ≤ 10000000) (z2 : n2 ≤ 10000000) :
   Calls Tryz.prog 86 #[.slice (some ⟨g, 0, none⟩) 2 2] w fun e w' => ∃ a cap, e = .returned (.slice a (n1 + n2) cap) ∧ w'.ownsRow w.heap.size 53 9 (.slice a (n1 + n2) cap) (n1 + n2) (xs1 ++ xs2) ∧ Ext w w' := by
 obtain ⟨ti, hti, htz, hts, htb⟩ := info_parts infoItm
 have HB := hide hb
 obtain ⟨d0, d1⟩ := hb.get2
 clear hb
 go_enter Tryz.func86, Tryz.ntmps86
 go_wp2_with fail
 go_loopw [3, 11] (fun z i wr => ∃ q : Nat, q ≤ 2 ∧ i = .int .i64 q ∧ z = .int .i64 ((if 1 ≤ q then n1 else 0) + (if 2 ≤ q then n2 else 0) : Nat) ∧ wr = w) (fun _ i _ => 2 - (intOf i).toNat)
 case atStart => exact ⟨0, by omega, rfl, rfl, rfl⟩
 case round =>
   obtain ⟨q, hq, rfl, rfl, rfl⟩ := hrel
   rcases (show q = 0 ∨ q = 1 ∨ q = 2 by omega) with rfl | rfl | rfl
   · simp only [Nat.not_le_of_lt (show 0 < 1 by decide), Nat.not_le_of_lt (show 0 < 2 by decide), if_false]
     go_wp2_with fail
     go_roundw
     case rel => exact ⟨1, by omega, by go_num, by simp, trivial⟩
     case measure => simp [intOf]
   · simp only [Nat.le_refl, Nat.not_le_of_lt (show 1 < 2 by decide), if_false, if_true]
     go_wp2_with fail
     go_roundw
     case rel => exact ⟨2, by omega, by go_num, by simp, trivial⟩
     case measure => simp [intOf]
   · simp only [Nat.le_refl, show 1 ≤ 2 by decide, if_true]
     go_wp2_with fail
     go_at_call 121
     refine (grow_any (n1 + n2) _ (by omega)).mono ?_
     rintro _ w1 ⟨a, cap, rfl, hown, hx⟩
     have HOWN := hide hown
     have HX := hide hx
     have HF1 := hide h1
     have HF2 := hide h2
     have HBX := hide (HB.out.ext hx)
     obtain ⟨w0, hw0⟩ : ∃ w0, w0 = wr := ⟨_, rfl⟩
     subst hw0
     clear hown hx h1 h2 d0 d1
     go_wp2_with fail
     go_loopw [6, 27] (fun v i wr => ∃ q : Nat, q ≤ 2 ∧ i = .int .i64 q ∧ wr.ownsRow w0.heap.size 53 9 v ((if 1 ≤ q then n1 else 0) + (if 2 ≤ q then n2 else 0)) ((if 1 ≤ q then xs1 else []) ++ (if 2 ≤ q then xs2 else [])) ∧ Ext w0 wr) (fun _ i _ => 2 - (intOf i).toNat)
     case atStart => exact ⟨0, by omega, rfl, HOWN.out, HX.out⟩
     case round =>
       obtain ⟨q, hq, rfl, hown, hx⟩ := hrel
       obtain ⟨d0, d1⟩ := (HB.out.ext hx).get2
       have hsz := hx.size
       have OWN := hide hown
       have HX2 := hide hx
       rcases (show q = 0 ∨ q = 1 ∨ q = 2 by omega) with rfl | rfl | rfl
       · simp only [Nat.not_le_of_lt (show 0 < 1 by decide), Nat.not_le_of_lt (show 0 < 2 by decide), if_false, Nat.add_zero, List.append_nil] at OWN
         have FL := hide (HF1.out.ext hx)
         clear hown hx
         go_wp2_with (at_builtin; refine wpList_append_flat rfl _ _ 31 rfl w0.heap.size 53 ti _ 9 184 Tryz.underlying31 hti htz hts htb rfl (by decide) (by decide) u6 0 [] rfl OWN.out a1 n1 k1 xs1 rfl FL.out (by omega) (by omega) (by omega) ?_; intro v' w' hown' hg' hf'
                      have hxw := HX2.out.grown hg' (fun r hr => (OWN.out.lt r hr).1)
                      have HNEW := hide (And.intro hown' hxw)
                      clear hown' hxw hf' hg')
         go_roundw
         case rel => exact ⟨1, by omega, by go_num, by simpa using HNEW.out.1, HNEW.out.2⟩
         case measure => simp [intOf]
       · simp only [Nat.le_refl, Nat.not_le_of_lt (show 1 < 2 by decide), if_false, if_true, Nat.add_zero, List.append_nil] at OWN
         have FL := hide (HF2.out.ext hx)
         clear hown hx
         go_wp2_with (at_builtin; refine wpList_append_flat rfl _ _ 31 rfl w0.heap.size 53 ti _ 9 184 Tryz.underlying31 hti htz hts htb rfl (by decide) (by decide) u6 n1 xs1 rfl OWN.out a2 n2 k2 xs2 rfl FL.out (by omega) (by omega) (by omega) ?_; intro v' w' hown' hg' hf'
                      have hxw := HX2.out.grown hg' (fun r hr => (OWN.out.lt r hr).1)
                      have HNEW := hide (And.intro hown' hxw)
                      clear hown' hxw hf' hg')
         go_roundw
         case rel => exact ⟨2, by omega, by go_num, by simpa using HNEW.out.1, HNEW.out.2⟩
         case measure => simp [intOf]
       · simp only [Nat.le_refl, show 1 ≤ 2 by decide, if_true] at OWN
         have hform := OWN.out.2
         obtain ⟨a9, cap9, rfl⟩ : ∃ a cap, u6 = .slice a (n1 + n2) cap := by
           rcases hform with ⟨rfl, h0⟩ | ⟨g9, cap, cur, rfl, -⟩
           · exact ⟨none, 0, by rw [h0]⟩
           · exact ⟨_, _, rfl⟩
         clear hown hx hform
         go_wp2_with fail
         go_ret
         exact ⟨a9, cap9, rfl, OWN.out, HX2.out⟩
end Go.Proofs.YtjoglnjpgkobeaaGreatDoor
