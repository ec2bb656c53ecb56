import Derived.Test.YtjoglnjpgkobeaaGreatDoorProg
import Derived.Test.YtjoglnjpgkobeaaGreatDoorS17
import Derived.Test.YtjoglnjpgkobeaaGreatDoorS3
import Derived.Test.YtjoglnjpgkobeaaGreatDoorS11
import Derived.Test.YtjoglnjpgkobeaaGreatDoorS27
set_option linter.all false
set_option linter.unusedVariables false
set_option linter.unusedSimpArgs false
namespace Go.Proofs.YtjoglnjpgkobeaaGreatDoor
open Go Go.RowKit
attribute [local go_sem] run_store_one
set_option maxRecDepth 20000 in
set_option maxHeartbeats 1000000 in
theorem indexM_any (fk : Nat) (hcall : Enters Tryz.prog fk) (P : Mdl → Prop) (caps : Value) (B : Nat) (l : List Mdl) (w : World)
   (hf : ∀ x, x ∈ l → ∀ (w' : World) (cs : List Value), Ext w w' → RM w' B x cs → B ≤ w'.heap.size → Calls Tryz.prog fk #[.agg cs.toArray, caps] w' fun e w'' => e = .returned (.bool (yes (P x))) ∧ Ext w' w'')
   (v : Value) (hS : Sl (RM w B) w B 4 l v) (hB : B ≤ w.heap.size) (hsz : l.length ≤ 1000000000) :
   Calls Tryz.prog 42 #[v, .func (.func fk) #[] #[caps]] w fun e w' => Ext w w' ∧
     ((∃ i, ∃ h : i < l.length, P l[i] ∧ (∀ j, ∀ h' : j < l.length, j < i → ¬ P l[j]) ∧ e = .returned (.int .i64 i)) ∨ ((∀ x, x ∈ l → ¬ P x) ∧ e = .returned (.int .i64 (-1)))) := by
 obtain ⟨a, cap, rfl, hcap, hrow⟩ := hS
 have HF := hide hf
 have hcf := hcall.out
 clear hf hcall hcap
 go_enter Tryz.func42, Tryz.ntmps42
 go_wp2_with fail
 go_loopw [8] (fun i wr => ∃ k : Nat, k ≤ l.length ∧ i = .int .i64 k ∧ (∀ j, ∀ h' : j < l.length, j < k → ¬ P l[j]) ∧ Ext w wr) (fun i _ => l.length - (intOf i).toNat)
 case atStart => exact ⟨0, Nat.zero_le _, rfl, fun j h' hj => absurd hj (by omega), Ext.refl _⟩
 case round =>
   obtain ⟨k, hk, rfl, hpre, hx⟩ := hrel
   have HP := hide hpre
   clear hpre
   by_cases hlt : k < l.length
   · have hfk := hide (HF.out l[k] (List.getElem_mem hlt))
     obtain ⟨b, o, v0, v1, v2, v3, rfl, hbB, hR, hC, o0, o1, o2, o3⟩ := hrow.open4 hlt
     obtain ⟨d0, d1, d2, d3⟩ := (hC.ext hx).get4
     have hRx := hide (hR.ext hx hB)
     have hBw := hide (Nat.le_trans hB hx.size)
     have HX := hide hx
     clear hC hrow hR HF hx
     go_wp2_with fail
     refine (hfk.out _ _ HX.out hRx.out hBw.out).mono ?_
     rintro e w1 ⟨rfl, hy⟩
     have hx9 := hide (HX.out.trans hy)
     by_cases hq : P l[k]
     · rw [yes_iff.2 hq]
       have FIN := hide (show ∃ i, ∃ h : i < l.length, P l[i] ∧ (∀ j, ∀ h' : j < l.length, j < i → ¬ P l[j]) ∧ (k : Int) = i from ⟨k, hlt, hq, HP.out, rfl⟩)
       clear hq hy hfk hRx
       go_wp2_with fail
       go_ret
       obtain ⟨i, h, h1, h2, h3⟩ := FIN.out
       exact ⟨hx9.out, .inl ⟨i, h, h1, h2, by rw [h3]; rfl⟩⟩
     · rw [yes_no.2 hq]
       have HN := hide (show ∀ j, ∀ h' : j < l.length, j < k + 1 → ¬ P l[j] from fun j h' hj => if e : j = k then by subst e; exact hq else HP.out j h' (by omega))
       clear hq hy hfk hRx
       go_wp2_with fail
       go_roundw
       case rel => exact ⟨k + 1, by omega, by go_num, HN.out, hx9.out⟩
       case measure => simp [intOf]; omega
   · have hkl : k = l.length := by omega
     subst hkl
     have FIN := hide (show ∀ x, x ∈ l → ¬ P x from fun x hx => by obtain ⟨j, hj, rfl⟩ := List.getElem_of_mem hx; exact HP.out j hj hj)
     go_wp2_with fail
     go_ret
     exact ⟨hx, .inr ⟨FIN.out, rfl⟩⟩
set_option maxRecDepth 20000 in
set_option maxHeartbeats 1000000 in
theorem indexS_any (fk : Nat) (hcall : Enters Tryz.prog fk) (P : ByteArray → Prop) (caps : Value) (l : List ByteArray) (w : World)
   (hf : ∀ x, x ∈ l → ∀ (w' : World), Ext w w' → Calls Tryz.prog fk #[.string x, caps] w' fun e w'' => e = .returned (.bool (yes (P x))) ∧ Ext w' w'')
   (v : Value) (hS : SStr w l v) (hsz : l.length ≤ 1000000000) :
   Calls Tryz.prog 75 #[v, .func (.func fk) #[] #[caps]] w fun e w' => Ext w w' ∧
     ((∃ i, ∃ h : i < l.length, P l[i] ∧ (∀ j, ∀ h' : j < l.length, j < i → ¬ P l[j]) ∧ e = .returned (.int .i64 i)) ∨ ((∀ x, x ∈ l → ¬ P x) ∧ e = .returned (.int .i64 (-1)))) := by
 obtain ⟨a, cap, rfl, hcap, hrow⟩ := hS
 have HF := hide hf
 have HROW := hide hrow
 have hcf := hcall.out
 clear hf hcall hcap hrow
 go_enter Tryz.func75, Tryz.ntmps75
 go_wp2_with fail
 go_loopw [8] (fun i wr => ∃ k : Nat, k ≤ l.length ∧ i = .int .i64 k ∧ (∀ j, ∀ h' : j < l.length, j < k → ¬ P l[j]) ∧ Ext w wr) (fun i _ => l.length - (intOf i).toNat)
 case atStart => exact ⟨0, Nat.zero_le _, rfl, fun j h' hj => absurd hj (by omega), Ext.refl _⟩
 case round =>
   obtain ⟨k, hk, rfl, hpre, hx⟩ := hrel
   have HP := hide hpre
   clear hpre
   by_cases hlt : k < l.length
   · have hfk := hide (HF.out l[k] (List.getElem_mem hlt))
     obtain ⟨b, o, rfl, hcell⟩ := HROW.out k hlt
     have d0 := hx.at_ hcell
     have HX := hide hx
     clear hcell HF hx HROW
     by_cases hq : P l[k]
     · rw [yes_iff.2 hq] at hfk
       have FIN := hide (show ∃ i, ∃ h : i < l.length, P l[i] ∧ (∀ j, ∀ h' : j < l.length, j < i → ¬ P l[j]) ∧ (k : Int) = i from ⟨k, hlt, hq, HP.out, rfl⟩)
       clear hq
       go_wp2_with fail
       refine (hfk.out _ HX.out).mono ?_
       rintro e w1 ⟨rfl, hy⟩
       have hx9 := hide (HX.out.trans hy)
       clear hy hfk
       go_wp2_with fail
       go_ret
       obtain ⟨i, h, h1, h2, h3⟩ := FIN.out
       exact ⟨hx9.out, .inl ⟨i, h, h1, h2, by rw [h3]; rfl⟩⟩
     · rw [yes_no.2 hq] at hfk
       have HN := hide (show ∀ j, ∀ h' : j < l.length, j < k + 1 → ¬ P l[j] from fun j h' hj => if e : j = k then by subst e; exact hq else HP.out j h' (by omega))
       clear hq
       go_wp2_with fail
       refine (hfk.out _ HX.out).mono ?_
       rintro e w1 ⟨rfl, hy⟩
       have hx9 := hide (HX.out.trans hy)
       clear hy hfk
       go_wp2_with fail
       go_roundw
       case rel => exact ⟨k + 1, by omega, by go_num, HN.out, hx9.out⟩
       case measure => simp [intOf]; omega
   · have hkl : k = l.length := by omega
     subst hkl
     have FIN := hide (show ∀ x, x ∈ l → ¬ P x from fun x hx => by obtain ⟨j, hj, rfl⟩ := List.getElem_of_mem hx; exact HP.out j hj hj)
     go_wp2_with fail
     go_ret
     exact ⟨hx, .inr ⟨FIN.out, rfl⟩⟩
set_option maxRecDepth 20000 in
theorem containsS_any (fk : Nat) (hcall : Enters Tryz.prog fk) (P : ByteArray → Prop) (caps : Value) (l : List ByteArray) (w : World)
   (hf : ∀ x, x ∈ l → ∀ (w' : World), Ext w w' → Calls Tryz.prog fk #[.string x, caps] w' fun e w'' => e = .returned (.bool (yes (P x))) ∧ Ext w' w'')
   (v : Value) (hS : SStr w l v) (hsz : l.length ≤ 1000000000) :
   Calls Tryz.prog 34 #[v, .func (.func fk) #[] #[caps]] w fun e w' => e = .returned (.bool (yes (∃ x, x ∈ l ∧ P x))) ∧ Ext w w' := by
 have KI := hide (indexS_any fk hcall P caps l w hf v hS hsz)
 clear hf hcall hS hsz
 go_enter Tryz.func34, Tryz.ntmps34
 go_wp2_with fail
 go_at_call 75
 refine KI.out.mono ?_
 rintro _ w1 ⟨hx, (⟨i, h, h1, -, rfl⟩ | ⟨h1, rfl⟩)⟩
 · have R := hide (yes_iff.2 (show ∃ x, x ∈ l ∧ P x from ⟨l[i], List.getElem_mem h, h1⟩))
   clear h1
   go_wp2_with fail
   go_ret
   exact ⟨by rw [R.out]; rfl, hx⟩
 · have R := hide (yes_no.2 (show ¬ ∃ x, x ∈ l ∧ P x from fun ⟨x, hx, hp⟩ => h1 x hx hp))
   clear h1
   go_wp2_with fail
   go_ret
   exact ⟨by rw [R.out]; rfl, hx⟩
theorem enters_find : Enters Tryz.prog 43 := ⟨fun _ _ => by kernel_rfl⟩
set_option maxRecDepth 20000 in
theorem findClo_any (B : Nat) (m : Mdl) (s : ByteArray) (p : Addr) (w : World) (cs : List Value) (hR : RM w B m cs) (hp : w.cell? p = some (.string s)) (hlt : p.block < w.heap.size) :
   Calls Tryz.prog 43 #[.agg cs.toArray, .pointer (some p)] w fun e w' => e = .returned (.bool (yes (m.name = s))) ∧ Ext w w' := by
 obtain ⟨v1, v2, v3, rfl, hp1, hq1, hi1⟩ := hR
 have o1 := hp1.oneCell
 have o2 := hq1.oneCell
 have o3 := hi1.oneCell
 obtain ⟨W1, e1, hV1, hx1, hz1, c0, c1, c2, c3⟩ := boxL4 w (.string m.name) v1 v2 v3 33
 have hp2 : e1.w.cell? p = some (.string s) := ((hx1.trans e1.ext).cell hlt).trans hp
 have HX := hide (hx1.trans e1.ext)
 clear hp1 hq1 hi1 hx1 hz1 hp hlt
 by_cases h : m.name = s
 · rw [yes_iff.2 h]
   subst h
   go_enter Tryz.func43, Tryz.ntmps43
   go_wp2
   go_ret
   exact ⟨rfl, HX.out⟩
 · rw [yes_no.2 h]
   have hne := text_ne h
   clear h
   go_enter Tryz.func43, Tryz.ntmps43
   go_wp2
   go_ret
   exact ⟨rfl, HX.out⟩
def zeroM : Mdl := ⟨⟨#[]⟩, [], [], []⟩
theorem findM_at {f : List Mdl} {s : ByteArray} {i : Nat} (h : i < f.length) (h1 : f[i].name = s) (h2 : ∀ j, ∀ h' : j < f.length, j < i → ¬ f[j].name = s) : findM f s = some f[i] := by
 unfold findM
 rw [List.find?_eq_some_iff_getElem]
 exact ⟨yes_iff.2 h1, i, h, rfl, fun j hj => by rw [yes_no.2 (h2 j (by omega) hj)]; rfl⟩
theorem findM_no {f : List Mdl} {s : ByteArray} (h : ∀ x, x ∈ f → ¬ x.name = s) : findM f s = none := by
 unfold findM
 exact List.find?_eq_none.2 fun x hx hc => h x hx (yes_iff.1 hc)
set_option maxRecDepth 20000 in
set_option maxHeartbeats 1000000 in
theorem find_any (B : Nat) (f : List Mdl) (s : ByteArray) (w : World) (vf : Value) (hS : Sl (RM w B) w B 4 f vf) (hB : B ≤ w.heap.size) (hsz : f.length ≤ 1000000000) :
   Calls Tryz.prog 12 #[.agg #[vf], .string s] w fun e w' => ∃ c0 c1 c2 c3, e = .returned (.tuple #[.agg #[c0, c1, c2, c3], .bool (findM f s).isSome]) ∧ RM w' B ((findM f s).getD zeroM) [c0, c1, c2, c3] ∧ Ext w w' := by
 have HS := hide hS
 obtain ⟨a, cap, rfl, hcap, hrow⟩ := hS
 have HROW := hide hrow
 obtain ⟨W1, e1, hV1, hx1, -, a0⟩ := boxL1 w (.slice a f.length cap) 24
 obtain ⟨W2, e2, hV2, hx2, hz2, b0⟩ := boxL1 e1.w (.string s) 9
 have q12 := e1.ext.trans hx2
 have q02 := hx1.trans q12
 have a0 := cellL a0 q12
 obtain ⟨W3, hW3, hx3, hb3⟩ := box4 e2.w (.string ⟨#[]⟩) (.slice none 0 0) (.slice none 0 0) (.slice none 0 0) 33
 obtain ⟨e3, he3⟩ := Later.mk_ex (Ext.refl W3)
 have hV3 := hW3.symm.trans he3
 have q23 := e2.ext.trans hx3
 have q03 := q02.trans q23
 have a0 := cellL a0 q23
 have b0 := cellL b0 q23
 have hlt1 : e1.w.heap.size < W3.heap.size := by have := q23.size; omega
 have hge : w.heap.size ≤ e2.w.heap.size := (q02.trans e2.ext).size
 have Q03 := hide q03
 have HB3 := hide hb3
 have hB3 : B ≤ W3.heap.size := Nat.le_trans hB q03.size
 have hmf : ∀ (fn : Fn) (first cap : Array Value) (w : World), (Instr.makeFunc fn first cap).run Tryz.prog w = .ok (.func fn first cap) w := fun _ _ _ _ => rfl
 have KI := hide (indexM_any 43 enters_find (fun m => m.name = s) (.pointer (some ⟨e1.w.heap.size, 0, none⟩)) B f e3.w
   (fun x hx w' cs hw hR hB' => findClo_any B x s ⟨e1.w.heap.size, 0, none⟩ w' cs hR (b0 ⟨w', e3.ext.trans hw⟩) (Nat.lt_of_lt_of_le hlt1 (e3.ext.trans hw).size))
   (.slice a f.length cap) (HS.out.extRM (q03.trans e3.ext) hB) (Nat.le_trans hB3 e3.ext.size) hsz)
 clear hcap hrow hx1 hx2 hz2 q12 q02 hW3 hx3 hb3 he3 q23 q03 hlt1 HS b0
 go_enter Tryz.func12, Tryz.ntmps12
 go_wp2_with fail
 go_at_call 42
 refine KI.out.mono ?_
 rintro _ w1 ⟨hx, (⟨i, h, h1, h2, rfl⟩ | ⟨h1, rfl⟩)⟩
 · obtain ⟨e4, rfl⟩ := Later.mk_ex (e3.ext.trans hx)
   obtain ⟨b, o, v0, v1, v2, v3, rfl, hbB, hR, hC, o0, o1, o2, o3⟩ := HROW.out.open4 h
   obtain ⟨d0, d1, d2, d3⟩ := (hC.ext (Q03.out.trans e4.ext)).get4
   have hb4 := HB3.out.ext e4.ext
   obtain ⟨m0, m1, m2, m3⟩ := hb4.get4
   obtain ⟨n0, n1, n2, n3⟩ := hb4.free4
   have hb5 := hb4.store4 v0 v1 v2 v3
   obtain ⟨r0, r1, r2, r3⟩ := hb5.get4
   have hx5 : Ext w ((((e4.w.setCell ⟨e2.w.heap.size, 0, none⟩ v0).setCell ⟨e2.w.heap.size, 1, none⟩ v1).setCell ⟨e2.w.heap.size, 2, none⟩ v2).setCell ⟨e2.w.heap.size, 3, none⟩ v3) := ((((Q03.out.trans e4.ext).setCell hge _).setCell hge _).setCell hge _).setCell hge _
   have FIN := hide (And.intro (hR.ext hx5 hB) hx5)
   have FM := hide (findM_at h h1 h2)
   have hnn : decide ((i : Int) < 0) = false := decide_eq_false (by omega)
   have hil : (i : Int) < (f.length : Nat) := by omega
   clear hC hR hb4 hb5 hx5 hx h1 h2 KI HROW
   go_wp2_with fail
   refine bodyPost_ret (v := .tuple #[.agg #[v0, v1, v2, v3], .bool true]) ?_ rfl ⟨v0, v1, v2, v3, by rw [FM.out]; rfl, by rw [FM.out]; exact FIN.out.1, FIN.out.2⟩
   simp [results, Tryz.results12, go_sem, r0, r1, r2, r3]
 · obtain ⟨e4, rfl⟩ := Later.mk_ex (e3.ext.trans hx)
   have hb4 := HB3.out.ext e4.ext
   obtain ⟨m0, m1, m2, m3⟩ := hb4.get4
   obtain ⟨n0, n1, n2, n3⟩ := hb4.free4
   have hb5 := hb4.store4 (.string ⟨#[]⟩) (.slice none 0 0) (.slice none 0 0) (.slice none 0 0)
   obtain ⟨r0, r1, r2, r3⟩ := hb5.get4
   have hx5 : Ext w ((((e4.w.setCell ⟨e2.w.heap.size, 0, none⟩ (.string ⟨#[]⟩)).setCell ⟨e2.w.heap.size, 1, none⟩ (.slice none 0 0)).setCell ⟨e2.w.heap.size, 2, none⟩ (.slice none 0 0)).setCell ⟨e2.w.heap.size, 3, none⟩ (.slice none 0 0)) := ((((Q03.out.trans e4.ext).setCell hge _).setCell hge _).setCell hge _).setCell hge _
   have FIN := hide hx5
   have FM := hide (findM_no h1)
   clear hb4 hb5 hx5 hx h1 KI HROW
   go_wp2_with fail
   refine bodyPost_ret (v := .tuple #[.agg #[.string ⟨#[]⟩, .slice none 0 0, .slice none 0 0, .slice none 0 0], .bool false]) ?_ rfl ⟨_, _, _, _, by rw [FM.out]; rfl, by rw [FM.out]; exact ⟨_, _, _, rfl, Sl.nil, Sl.nil, Sl.nil⟩, FIN.out⟩
   simp [results, Tryz.results12, go_sem, r0, r1, r2, r3]
end Go.Proofs.YtjoglnjpgkobeaaGreatDoor
namespace Go.Proofs.YtjoglnjpgkobeaaGreatDoor
open Go Go.RowKit
theorem find_isSome {f : List Mdl} {s : ByteArray} : (findM f s).isSome = true ↔ s ∈ namesF f := by
 constructor
 · intro h
   obtain ⟨m, hm⟩ := Option.isSome_iff_exists.1 h
   unfold findM at hm
   have h1 := List.find?_some hm
   exact List.mem_map.2 ⟨m, List.mem_of_find?_eq_some hm, yes_iff.1 h1⟩
 · intro h
   obtain ⟨m, hm, he⟩ := List.mem_map.1 h
   cases hf : findM f s with
   | some m => rfl
   | none =>
     unfold findM at hf
     exact absurd (yes_iff.2 he) (List.find?_eq_none.1 hf m hm)
theorem find_spec2 {f : List Mdl} {s : ByteArray} {m : Mdl} (h : findM f s = some m) : m ∈ f ∧ m.name = s := by
 unfold findM at h
 have h2 := List.find?_some h
 exact ⟨List.mem_of_find?_eq_some h, yes_iff.1 h2⟩
inductive Reach (f : List Mdl) (a : ByteArray) : ByteArray → Prop
 | refl : Reach f a a
 | step {b c : ByteArray} {m : Mdl} (h : Reach f a b) (hm : findM f b = some m) (hc : c ∈ usesM m) (hs : (findM f c).isSome = true) : Reach f a c
theorem Reach.trans {f : List Mdl} {a b c : ByteArray} (h : Reach f a b) (k : Reach f b c) : Reach f a c := by
 induction k with
 | refl => exact h
 | step _ hm hc hs ih => exact .step ih hm hc hs
theorem Reach.isIn {f : List Mdl} {a b : ByteArray} (h : Reach f a b) (ha : (findM f a).isSome = true) : (findM f b).isSome = true := by
 cases h with
 | refl => exact ha
 | step _ _ _ hs => exact hs
structure DownOk (f : List Mdl) (N : ByteArray → Prop) (name : ByteArray) (N' : ByteArray → Prop) : Prop where
 old : ∀ s, N s → N' s
 got : (findM f name).isSome = true → N' name
 new : ∀ s, N' s → N s ∨ (findM f name).isSome = true ∧ Reach f name s
 shut : ∀ s m, N' s → ¬ N s → findM f s = some m → ∀ u, u ∈ usesM m → (findM f u).isSome = true → N' u
theorem down_skip {f : List Mdl} {N : ByteArray → Prop} {name : ByteArray} (h : findM f name = none ∨ N name) : DownOk f N name N :=
 ⟨fun s h => h, fun hs => h.elim (fun h => by rw [h] at hs; cases hs) id, fun s h => .inl h, fun s m h1 h2 => absurd h1 h2⟩
structure LoopOk (f : List Mdl) (N : ByteArray → Prop) (name : ByteArray) (pre : List ByteArray) (N' : ByteArray → Prop) : Prop where
 old : ∀ s, N s → N' s
 me : N' name
 new : ∀ s, N' s → N s ∨ Reach f name s
 shut : ∀ s m, N' s → ¬ N s → s ≠ name → findM f s = some m → ∀ u, u ∈ usesM m → (findM f u).isSome = true → N' u
 did : ∀ u, u ∈ pre → (findM f u).isSome = true → N' u
theorem loop_start (f : List Mdl) (N : ByteArray → Prop) (name : ByteArray) : LoopOk f N name [] (fun s => N s ∨ s = name) :=
 ⟨fun s h => .inl h, .inr rfl, fun s h => h.elim .inl (fun e => .inr (e ▸ .refl)), fun s m h1 h2 h3 => absurd h1 (fun h => h.elim h2 h3), fun u hu => by cases hu⟩
theorem LoopOk.step {f : List Mdl} {N N1 N2 : ByteArray → Prop} {name u : ByteArray} {pre : List ByteArray} {m : Mdl} (h : LoopOk f N name pre N1) (k : DownOk f N1 u N2) (hm : findM f name = some m) (hu : u ∈ usesM m) :
   LoopOk f N name (pre ++ [u]) N2 := by
 refine ⟨fun s hs => k.old s (h.old s hs), k.old _ h.me, fun s hs => ?_, fun s m' h1 h2 h3 h4 x hx hxs => ?_, fun x hx hxs => ?_⟩
 · rcases k.new s hs with h1 | h1
   · exact h.new s h1
   · exact .inr ((Reach.step .refl hm hu h1.1).trans h1.2)
 · by_cases hn : N1 s
   · exact k.old _ (h.shut s m' hn h2 h3 h4 x hx hxs)
   · exact k.shut s m' h1 hn h4 x hx hxs
 · rcases List.mem_append.1 hx with hx | hx
   · exact k.old _ (h.did x hx hxs)
   · rw [List.mem_singleton.1 hx] at hxs ⊢
     exact k.got hxs
theorem LoopOk.done {f : List Mdl} {N N' : ByteArray → Prop} {name : ByteArray} {m : Mdl} (h : LoopOk f N name (usesM m) N') (hm : findM f name = some m) : DownOk f N name N' := by
 refine ⟨h.old, fun _ => h.me, fun s hs => (h.new s hs).imp id (fun hr => ⟨by rw [hm]; rfl, hr⟩), fun s m' h1 h2 h3 u hu hs => ?_⟩
 by_cases hn : s = name
 · subst hn
   rw [hm] at h3
   cases h3
   exact h.did u hu hs
 · exact h.shut s m' h1 h2 hn h3 u hu hs
noncomputable def unm (f : List Mdl) (N : ByteArray → Prop) : Nat := ((namesF f).filter fun s => !yes (N s)).length
theorem not_yes {p : Prop} : (!yes p) = true ↔ ¬ p := by
 by_cases h : p
 · rw [yes_iff.2 h]; exact ⟨fun e => (by cases e), fun e => absurd h e⟩
 · rw [yes_no.2 h]; exact ⟨fun _ => h, fun _ => rfl⟩
theorem nf_in {N : ByteArray → Prop} {a : ByteArray} (r : List ByteArray) (h : N a) : ((a :: r).filter fun s => !yes (N s)) = r.filter fun s => !yes (N s) := List.filter_cons_of_neg (p := fun s => !yes (N s)) (fun e => not_yes.1 e h)
theorem nf_out {N : ByteArray → Prop} {a : ByteArray} (r : List ByteArray) (h : ¬ N a) : ((a :: r).filter fun s => !yes (N s)) = a :: r.filter fun s => !yes (N s) := List.filter_cons_of_pos (p := fun s => !yes (N s)) (not_yes.2 h)
theorem len_less {l : List ByteArray} {N N' : ByteArray → Prop} (h : ∀ s, N s → N' s) : (l.filter fun s => !yes (N' s)).length ≤ (l.filter fun s => !yes (N s)).length := by
 induction l with
 | nil => exact Nat.le_refl _
 | cons a r ih =>
   by_cases ha : N' a
   · rw [nf_in r ha]
     by_cases hb : N a
     · rw [nf_in r hb]; exact ih
     · rw [nf_out r hb, List.length_cons]; omega
   · rw [nf_out r ha, nf_out r (fun hb => ha (h a hb)), List.length_cons, List.length_cons]; omega
theorem len_lt {l : List ByteArray} {N : ByteArray → Prop} {name : ByteArray} (h : name ∈ l) (hn : ¬ N name) : (l.filter fun s => !yes (N s ∨ s = name)).length < (l.filter fun s => !yes (N s)).length := by
 induction l with
 | nil => cases h
 | cons a r ih =>
   have hle : (r.filter fun s => !yes (N s ∨ s = name)).length ≤ (r.filter fun s => !yes (N s)).length := len_less fun s h => .inl h
   by_cases ha : a = name
   · subst ha
     rw [nf_in (N := fun s => N s ∨ s = a) r (.inr rfl), nf_out r hn, List.length_cons]
     omega
   · have := ih ((List.mem_cons.1 h).resolve_left (fun e => ha e.symm))
     by_cases hb : N a
     · rw [nf_in (N := fun s => N s ∨ s = name) r (.inl hb), nf_in r hb]; exact this
     · rw [nf_out (N := fun s => N s ∨ s = name) r (fun h => h.elim hb ha), nf_out r hb, List.length_cons, List.length_cons]; omega
theorem unm_le (f : List Mdl) {N N' : ByteArray → Prop} (h : ∀ s, N s → N' s) : unm f N' ≤ unm f N := len_less h
theorem unm_lt {f : List Mdl} {N : ByteArray → Prop} {name : ByteArray} (h : name ∈ namesF f) (hn : ¬ N name) : unm f (fun s => N s ∨ s = name) < unm f N := len_lt h hn
theorem down_reach {f : List Mdl} {top : ByteArray} {N : ByteArray → Prop} (h : DownOk f (fun _ => False) top N) (ht : (findM f top).isSome = true) : ∀ s, N s ↔ Reach f top s := by
 intro s
 constructor
 · intro hs; exact ((h.new s hs).resolve_left id).2
 · intro hs
   induction hs with
   | refl => exact h.got ht
   | step _ hm hc hs ih => exact h.shut _ _ ih id hm _ hc hs
noncomputable def belowN (f : List Mdl) (top : ByteArray) : List ByteArray := (orderF f).filter fun s => yes (Reach f top s)
end Go.Proofs.YtjoglnjpgkobeaaGreatDoor
