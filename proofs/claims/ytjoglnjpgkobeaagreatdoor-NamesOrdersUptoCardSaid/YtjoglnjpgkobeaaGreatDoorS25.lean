import Derived.Defers
import Derived.Recover
import Derived.Test.YtjoglnjpgkobeaaGreatDoorProg
import Derived.Test.YtjoglnjpgkobeaaGreatDoorS19
set_option linter.all false
set_option linter.unusedVariables false
set_option linter.unusedSimpArgs false
namespace Go.Proofs.YtjoglnjpgkobeaaGreatDoor
open Go Go.RowKit
attribute [local go_sem] run_store_one
theorem Sl.keepS {w w' : World} {B : Nat} {l : List S} {v : Value} (h : Sl (RS w B) w B 4 l v) (hb : Below B w w') : Sl (RS w' B) w' B 4 l v :=
 h.keep (fun p hp => hb.cell hp) (Nat.le_refl _) (fun y _ cs => RS.keep (fun p hp => hb.cell hp) (Nat.le_refl _) y cs)
theorem Ext.below {B : Nat} {w w' : World} (h : Ext w w') (hB : B ≤ w.heap.size) : Below B w w' := (Below.refl B w).trans (h.mono hB)
theorem or_turn {A B C : Prop} : ((False ∨ A) ∨ B) ∨ C ↔ C ∨ B ∨ A := by
 constructor
 · rintro (((h | h) | h) | h)
   · exact h.elim
   · exact .inr (.inr h)
   · exact .inr (.inl h)
   · exact .inl h
 · rintro (h | h | h)
   · exact .inr h
   · exact .inl (.inr h)
   · exact .inl (.inl (.inr h))
theorem lps_step {C : ByteArray → Prop} {l : List S} {k : Nat} (hk : k < l.length) : lpSs C (l.take (k + 1)) ↔ lpSs C (l.take k) ∧ lpS C l[k] := by
 rw [List.take_succ_eq_append_getElem hk, lpSs_append]; simp [lpSs]
theorem lps_pre {C : ByteArray → Prop} {l : List S} {k : Nat} (h : lpSs C l) : lpSs C (l.take k) := by
 rw [← List.take_append_drop k l, lpSs_append] at h; exact h.1
theorem ins_step {C : ByteArray → Prop} {l : List Itm} {k : Nat} (hk : k < l.length) : inIs C (l.take (k + 1)) ↔ inIs C (l.take k) ∧ inI C l[k] := by
 rw [List.take_succ_eq_append_getElem hk, inIs_append]; simp [inIs]
theorem ins_pre {C : ByteArray → Prop} {l : List Itm} {k : Nat} (h : inIs C l) : inIs C (l.take k) := by
 rw [← List.take_append_drop k l, inIs_append] at h; exact h.1
def StOk (B : Nat) (l : List S) : Prop := ∀ (w : World) (v : Value) (fs : List Scp) (p : Option Addr), ScA w p fs → Sl (RS w B) w B 4 l v → B ≤ w.heap.size → (∀ g, g ∈ fs → B ≤ g.m ∧ g.m < w.heap.size) →
 Calls Tryz.prog 111 #[.pointer p, v] w fun e w' => (lpSs (inC fs) l ∧ e = .returned (.tuple #[]) ∧ Ext w w') ∨ (¬ lpSs (inC fs) l ∧ e = .panicked [twiceE] ∧ Ext w w')
set_option maxRecDepth 20000 in
set_option maxHeartbeats 8000000 in
theorem st_step (B : Nat) (l : List S) (hln : l.length ≤ 1000000000) (IH : ∀ x, x ∈ l → StOk B x.l) : StOk B l := by
 intro w v fs p hsc hS hB hmB
 obtain ⟨a, cap, rfl, hcap, hrow⟩ := hS
 have HMB := hide hmB
 have HIH := hide IH
 have HSC0 := hide hsc
 clear hcap hmB IH hsc
 go_enter Tryz.func111, Tryz.ntmps111
 go_wp2_with fail
 go_loopw [9] (fun i wr => ∃ k : Nat, k ≤ l.length ∧ i = .int .i64 k ∧ Ext w wr ∧ lpSs (inC fs) (l.take k)) (fun i _ => l.length - (intOf i).toNat)
 case atStart => exact ⟨0, Nat.zero_le _, rfl, Ext.refl _, trivial⟩
 case round =>
   obtain ⟨k, hk, rfl, hg, htk⟩ := hrel
   by_cases hlt : k < l.length
   · obtain ⟨b, o, v0, v1, v2, v3, rfl, hbB, hR, hC, o0, o1, o2, o3⟩ := hrow.open4 hlt
     have hbw : Below B w wr := hg.below hB
     obtain ⟨d0, d1, d2, d3⟩ := (hC.below hbw hbB).get4
     obtain ⟨y2, y3, hcs, -, hl3⟩ := RS_iff.1 hR
     simp only [List.cons.injEq, and_true] at hcs
     obtain ⟨rfl, rfl, rfl, rfl⟩ := hcs
     have IHk := hide (HIH.out l[k] (List.getElem_mem hlt))
     have HL3 := hide (hl3.keepS hbw)
     have TS := hide (show lpSs (inC fs) (l.take (k + 1)) ↔ lpS (inC fs) l[k] from ⟨fun h => ((lps_step hlt).1 h).2, fun h => (lps_step hlt).2 ⟨htk, h⟩⟩)
     have TE := hide (lpS_eq (inC fs) l[k])
     have PRE := hide (fun (hno : ¬ lpSs (inC fs) (l.take (k + 1))) => (fun (h : lpSs (inC fs) l) => hno (lps_pre h) : ¬ lpSs (inC fs) l))
     have HG9 := hide hg
     have hBr : B ≤ wr.heap.size := Nat.le_trans hB hg.size
     have hwr := hg.size
     have HS9 := hide (HSC0.out.ext hg)
     clear hR hC hrow hl3 htk hg HIH hbw
     generalize l[k] = x at *
     obtain ⟨Wb, Wc, hVb, ⟨m0, m1, m2, m3⟩, ⟨n0, n1, n2, n3⟩, hVc, hbc, hxc, hzc⟩ := varS wr (.int .i64 x.op) (.string x.name) v2 v3
     obtain ⟨ec, hec⟩ := Later.mk_ex (Ext.refl Wc)
     replace hVc := hVc.trans hec
     obtain ⟨c0, c1, c2, c3⟩ := hbc.later4
     have HXC := hide (hxc.trans ec.ext)
     have HSC := hide (HS9.out.ext (hxc.trans ec.ext))
     clear hbc hxc hzc hec
     have hrc := HXC.out.size
     by_cases h6 : x.op = 6
     · have te := hide (TS.out.trans (TE.out.trans ⟨fun h => ⟨h.1 h6, (lps_congr (fun s => by simp [h6]) x.l).1 h.2⟩, fun (h : ¬ inC fs x.name ∧ lpSs (fun s => inC fs s ∨ s = x.name) x.l) => ⟨fun _ => h.1, (lps_congr (fun s => by simp [h6]) x.l).2 h.2⟩⟩))
       clear TS TE
       generalize hop : x.op = op at *
       subst h6
       go_wp2_with fail
       go_at_call 71
       refine (within_any ec.w p _ HSC.out (fun g hgm => by have := (HMB.out g hgm).2; omega)).mono ?_
       rintro _ w1 ⟨b1, q1, rfl, hs1, hx1, hm1, hm1'⟩
       obtain ⟨e1, rfl⟩ := Later.mk_ex (ec.ext.trans hx1)
       have S1 := hide hs1
       have X1 := hide (HXC.out.trans hx1)
       clear hs1 hx1
       go_wp2_with fail
       go_at_call 72
       refine (tell_any e1.w _ _ _ x.name S1.out).mono ?_
       rintro _ w2 (⟨hn, rfl, hs2, hg2⟩ | ⟨hc, rfl, rfl⟩)
       rotate_left
       · have NO := hide (PRE.out (fun hk2 => (te.out.1 hk2).1 (((inC_cons.1 hc)).resolve_left (fun h => h))))
         have R2 := hide (HG9.out.trans X1.out)
         clear hc
         go_wp2_with fail
         exact ⟨rfl, .inr ⟨NO.out, rfl, R2.out⟩⟩
       replace hg2 : e1.w.grownBy w2 (some q1) := hg2
       have hx2 : Ext wr w2 := gr_new X1.out hg2 (by omega)
       have hx2c : Ext Wc w2 := gr_new e1.ext hg2 (by have := ec.ext.size; omega)
       obtain ⟨e2, rfl⟩ := Later.mk_ex hx2c
       have hsz2 := hg2.size
       have S2 := hide hs2
       have X2 := hide hx2
       have HN := hide (fun (h : inC fs x.name) => hn (inC_cons.2 (.inr h)))
       clear hs2 hg2 hx2 hx2c hn
       go_wp2_with fail
       go_at_call 111
       refine (IHk.out e2.w v3 _ _ S2.out (HL3.out.keepS (X2.out.below hBr)) (Nat.le_trans hBr X2.out.size) (fun g hgm => by
         rcases List.mem_cons.1 hgm with rfl | hgm
         · exact ⟨by show B ≤ q1; omega, by show q1 < _; omega⟩
         · have := HMB.out g hgm; exact ⟨this.1, by have := X2.out.size; omega⟩)).mono ?_
       rintro _ w3 (⟨hok, rfl, hx3⟩ | ⟨hno, rfl, hx3⟩)
       · have TK := hide (te.out.2 ⟨HN.out, (lps_congr (fun s => by rw [inC_cons]; simp [or_comm]) x.l).1 hok⟩)
         have R2 := hide (HG9.out.trans (X2.out.trans hx3))
         clear hok hx3
         go_wp2_with fail
         go_roundw
         case rel => exact ⟨k + 1, by omega, by go_num, R2.out, TK.out⟩
         case measure => simp [intOf]; omega
       · have NO := hide (PRE.out (fun hk2 => hno ((lps_congr (fun s => by rw [inC_cons]; simp [or_comm]) x.l).2 (te.out.1 hk2).2)))
         have R2 := hide (HG9.out.trans (X2.out.trans hx3))
         clear hno hx3
         go_wp2_with fail
         exact ⟨rfl, .inr ⟨NO.out, rfl, R2.out⟩⟩
     · have te := hide (TS.out.trans (TE.out.trans ⟨fun h => (lps_congr (fun s => by simp [h6]) x.l).1 h.2, fun (h : lpSs (inC fs) x.l) => ⟨fun e => absurd e h6, (lps_congr (fun s => by simp [h6]) x.l).2 h⟩⟩))
       have e6 : (x.op == 6) = false := by simpa using h6
       clear TS TE h6
       generalize x.op = op at *
       go_wp2_with fail
       go_at_call 111
       refine (IHk.out ec.w v3 _ _ HSC.out (HL3.out.keepS (HXC.out.below hBr)) (Nat.le_trans hBr HXC.out.size) (fun g hgm => by have := HMB.out g hgm; exact ⟨this.1, by omega⟩)).mono ?_
       rintro _ w3 (⟨hok, rfl, hx3⟩ | ⟨hno, rfl, hx3⟩)
       · have TK := hide (te.out.2 hok)
         have R2 := hide (HG9.out.trans (HXC.out.trans hx3))
         clear hok hx3
         go_wp2_with fail
         go_roundw
         case rel => exact ⟨k + 1, by omega, by go_num, R2.out, TK.out⟩
         case measure => simp [intOf]; omega
       · have NO := hide (PRE.out (fun hk2 => hno (te.out.1 hk2)))
         have R2 := hide (HG9.out.trans (HXC.out.trans hx3))
         clear hno hx3
         go_wp2_with fail
         exact ⟨rfl, .inr ⟨NO.out, rfl, R2.out⟩⟩
   · have hkl : k = l.length := by omega
     subst hkl
     rw [List.take_length] at htk
     have FIN := hide (And.intro htk hg)
     clear htk hg
     go_wp2_with fail
     go_end0
     exact .inl ⟨FIN.out.1, rfl, FIN.out.2⟩
theorem st_any (B : Nat) : ∀ (n : Nat) (l : List S), msize sizeS l ≤ n → n ≤ 1000000000 → StOk B l := by
 intro n
 induction n with
 | zero =>
   intro l hl hn
   refine st_step B l (by have := length_le_msize sizeS l sizeS_pos; omega) fun x hx => ?_
   have := msize_mem sizeS l x hx
   have := sizeS_pos x
   omega
 | succ n ih =>
   intro l hl hn
   refine st_step B l (by have := length_le_msize sizeS l sizeS_pos; omega) fun x hx => ?_
   have h1 := msize_mem sizeS l x hx
   have h2 := sizeS_eq x
   exact ih x.l (by omega) (by omega)
def InOk (B : Nat) (l : List Itm) : Prop := ∀ (w : World) (v : Value) (fs : List Scp) (p : Option Addr), ScA w p fs → Sl (RI w B) w B 9 l v → B ≤ w.heap.size → (∀ g, g ∈ fs → B ≤ g.m ∧ g.m < w.heap.size) →
 Calls Tryz.prog 74 #[.pointer p, v] w fun e w' => (inIs (inC fs) l ∧ e = .returned (.tuple #[]) ∧ Ext w w') ∨ (¬ inIs (inC fs) l ∧ e = .panicked [twiceE] ∧ Ext w w')
set_option maxRecDepth 20000 in
set_option maxHeartbeats 16000000 in
theorem in_step (B : Nat) (l : List Itm) (hln : l.length ≤ 1000000000) (IH : ∀ x, x ∈ l → StOk B x.s ∧ ToldOk B x.l ∧ InOk B x.l ∧ InOk B x.els) : InOk B l := by
 intro w v fs p hsc hS hB hmB
 obtain ⟨a, cap, rfl, hcap, hrow⟩ := hS
 have HMB := hide hmB
 have HIH := hide IH
 have HSC0 := hide hsc
 clear hcap hmB IH hsc
 go_enter Tryz.func74, Tryz.ntmps74
 go_wp2_with fail
 go_loopw [9] (fun i wr => ∃ k : Nat, k ≤ l.length ∧ i = .int .i64 k ∧ Ext w wr ∧ inIs (inC fs) (l.take k)) (fun i _ => l.length - (intOf i).toNat)
 case atStart => exact ⟨0, Nat.zero_le _, rfl, Ext.refl _, trivial⟩
 case round =>
   obtain ⟨k, hk, rfl, hg, htk⟩ := hrel
   by_cases hlt : k < l.length
   · obtain ⟨b, o, v0, v1, v2, v3, v4, v5, v6, v7, v8, rfl, hbB, hR, hC, o0, o1, o2, o3, o4, o5, o6, o7, o8⟩ := hrow.open9 hlt
     have hbw : Below B w wr := hg.below hB
     obtain ⟨d0, d1, d2, d3, d4, d5, d6, d7, d8⟩ := (hC.below hbw hbB).get9
     obtain ⟨y3, y4, y5, y6, y7, y8, hcs, -, hl4, hl5, hl6, -, -⟩ := RI_iff.1 hR
     simp only [List.cons.injEq, and_true] at hcs
     obtain ⟨rfl, rfl, rfl, rfl, rfl, rfl, rfl, rfl, rfl⟩ := hcs
     have IHk := hide (HIH.out l[k] (List.getElem_mem hlt))
     have HL4 := hide (hl4.keepS hbw)
     have HL5 := hide (hl5.keepI hbw)
     have HL6 := hide (hl6.keepI hbw)
     have te := hide (show inIs (inC fs) (l.take (k + 1)) ↔ _ from (⟨fun h => ((ins_step hlt).1 h).2, fun h => (ins_step hlt).2 ⟨htk, h⟩⟩ : inIs (inC fs) (l.take (k + 1)) ↔ inI (inC fs) l[k]).trans (inI_eq (inC fs) l[k]))
     have PRE := hide (fun (hno : ¬ inIs (inC fs) (l.take (k + 1))) => (fun (h : inIs (inC fs) l) => hno (ins_pre h) : ¬ inIs (inC fs) l))
     have HG9 := hide hg
     have hBr : B ≤ wr.heap.size := Nat.le_trans hB hg.size
     have hwr := hg.size
     have HS9 := hide (HSC0.out.ext hg)
     clear hR hC hrow hl4 hl5 hl6 htk hg HIH hbw
     generalize l[k] = x at *
     obtain ⟨Wb, Wc, hVb, ⟨m0, m1, m2, m3, m4, m5, m6, m7, m8⟩, ⟨n0, n1, n2, n3, n4, n5, n6, n7, n8⟩, hVc, hbc, hxc, hzc⟩ := varI wr (.int .i64 x.op) (.string x.name) (.string x.of) v3 v4 v5 v6 v7 v8
     obtain ⟨ec, hec⟩ := Later.mk_ex (Ext.refl Wc)
     replace hVc := hVc.trans hec
     obtain ⟨c0, c1, c2, c3, c4, c5, c6, c7, c8⟩ := hbc.later9
     have HXC := hide (hxc.trans ec.ext)
     have HSC := hide (HS9.out.ext (hxc.trans ec.ext))
     clear hbc hxc hzc hec
     have hrc := HXC.out.size
     have hcc := ec.ext.size
     by_cases h8 : x.op = 8
     · have H8 := hide h8
       generalize hop : x.op = op at *
       subst h8
       go_wp2_with fail
       go_at_call 111
       refine (IHk.out.1 ec.w v4 _ _ HSC.out (HL4.out.keepS (HXC.out.below hBr)) (Nat.le_trans hBr HXC.out.size) (fun g hgm => by have := HMB.out g hgm; exact ⟨this.1, by have := HXC.out.size; omega⟩)).mono ?_
       rintro _ w1 (⟨ok1, rfl, hx1⟩ | ⟨hno, rfl, hx1⟩)
       rotate_left
       · have NO := hide (PRE.out (fun hk2 => hno ((te.out.1 hk2).1)))
         have R2 := hide (HG9.out.trans (HXC.out.trans hx1))
         clear hno hx1
         go_wp2_with fail
         exact ⟨rfl, .inr ⟨NO.out, rfl, R2.out⟩⟩
       obtain ⟨e1, rfl⟩ := Later.mk_ex (ec.ext.trans hx1)
       have X1 := hide (HXC.out.trans hx1)
       have SC1 := hide (HS9.out.ext X1.out)
       have OK1 := hide ok1
       clear ok1 hx1
       go_wp2_with fail
       go_at_call 74
       refine (IHk.out.2.2.1 e1.w v5 _ _ SC1.out (HL5.out.keepI (X1.out.below hBr)) (Nat.le_trans hBr X1.out.size) (fun g hgm => by have := HMB.out g hgm; exact ⟨this.1, by have := X1.out.size; omega⟩)).mono ?_
       rintro _ w2 (⟨ok2, rfl, hx2⟩ | ⟨hno, rfl, hx2⟩)
       rotate_left
       · have NO := hide (PRE.out (fun hk2 => hno (((te.out.1 hk2).2.1 (by first | trivial | rfl | exact hop)).1)))
         have R2 := hide (HG9.out.trans (X1.out.trans hx2))
         clear hno hx2
         go_wp2_with fail
         exact ⟨rfl, .inr ⟨NO.out, rfl, R2.out⟩⟩
       obtain ⟨e2, rfl⟩ := Later.mk_ex (e1.ext.trans hx2)
       have X2 := hide (X1.out.trans hx2)
       have SC2 := hide (HS9.out.ext X2.out)
       have OK2 := hide ok2
       clear ok2 hx2
       go_wp2_with fail
       go_at_call 74
       refine (IHk.out.2.2.2 e2.w v6 _ _ SC2.out (HL6.out.keepI (X2.out.below hBr)) (Nat.le_trans hBr X2.out.size) (fun g hgm => by have := HMB.out g hgm; exact ⟨this.1, by have := X2.out.size; omega⟩)).mono ?_
       rintro _ w3 (⟨ok3, rfl, hx3⟩ | ⟨hno, rfl, hx3⟩)
       rotate_left
       · have NO := hide (PRE.out (fun hk2 => hno (((te.out.1 hk2).2.1 (by first | trivial | rfl | exact hop)).2)))
         have R2 := hide (HG9.out.trans (X2.out.trans hx3))
         clear hno hx3
         go_wp2_with fail
         exact ⟨rfl, .inr ⟨NO.out, rfl, R2.out⟩⟩
       have R2 := hide (HG9.out.trans (X2.out.trans hx3))
       have TK := hide (te.out.2 ⟨OK1.out, fun _ => ⟨OK2.out, ok3⟩, fun h => absurd h (by first | decide | (rw [hop]; decide))⟩)
       clear ok3 hx3
       go_wp2_with fail
       go_roundw
       case rel => exact ⟨k + 1, by omega, by go_num, R2.out, TK.out⟩
       case measure => simp [intOf]; omega
     · by_cases h9 : x.op = 9
       · generalize hop : x.op = op at *
         subst h9
         have e8 : ((9 : Int) == 8) = false := rfl
         go_wp2_with fail
         go_at_call 111
         refine (IHk.out.1 ec.w v4 _ _ HSC.out (HL4.out.keepS (HXC.out.below hBr)) (Nat.le_trans hBr HXC.out.size) (fun g hgm => by have := HMB.out g hgm; exact ⟨this.1, by have := HXC.out.size; omega⟩)).mono ?_
         rintro _ w1 (⟨ok1, rfl, hx1⟩ | ⟨hno, rfl, hx1⟩)
         rotate_left
         · have NO := hide (PRE.out (fun hk2 => hno ((te.out.1 hk2).1)))
           have R2 := hide (HG9.out.trans (HXC.out.trans hx1))
           clear hno hx1
           go_wp2_with fail
           exact ⟨rfl, .inr ⟨NO.out, rfl, R2.out⟩⟩
         obtain ⟨e1, rfl⟩ := Later.mk_ex (ec.ext.trans hx1)
         have X1 := hide (HXC.out.trans hx1)
         have SC1 := hide (HS9.out.ext X1.out)
         have OK1 := hide ok1
         have hs1z := hx1.size
         clear ok1 hx1
         go_wp2_with fail
         go_at_call 71
         refine (within_any e1.w p _ SC1.out (fun g hgm => by have := (HMB.out g hgm).2; omega)).mono ?_
         rintro _ w2 ⟨b1, q1, rfl, hs2, hx2, hm1, hm1'⟩
         obtain ⟨e2, rfl⟩ := Later.mk_ex (e1.ext.trans hx2)
         have S2 := hide hs2
         have X2 := hide (X1.out.trans hx2)
         clear hs2 hx2
         go_wp2_with fail
         go_at_call 72
         refine (tell_any e2.w _ _ _ x.of S2.out).mono ?_
         rintro _ w3 (⟨hn, rfl, hs3, hg3⟩ | ⟨hc, rfl, rfl⟩)
         rotate_left
         · have NO := hide (PRE.out (fun hk2 => ((te.out.1 hk2).2.2 (by first | trivial | rfl | exact hop)).2.2.1 x.of (.inr rfl) (((inC_cons.1 hc)).resolve_left (fun h => h))))
           have R2 := hide (HG9.out.trans X2.out)
           clear hc
           go_wp2_with fail
           exact ⟨rfl, .inr ⟨NO.out, rfl, R2.out⟩⟩
         replace hg3 : e2.w.grownBy w3 (some q1) := hg3
         have hx3 : Ext wr w3 := gr_new X2.out hg3 (by omega)
         have hx3c : Ext Wc w3 := gr_new e2.ext hg3 (by omega)
         obtain ⟨e3, rfl⟩ := Later.mk_ex hx3c
         have hsz3 := hg3.size
         have S3 := hide hs3
         have X3 := hide hx3
         have HN := hide (fun (h : inC fs x.of) => hn (inC_cons.2 (.inr h)))
         clear hs3 hg3 hx3 hx3c hn
         go_wp2_with fail
         go_at_call 73
         refine (IHk.out.2.1 e3.w v5 _ _ _ S3.out (HL5.out.keepI (X3.out.below hBr)) (Nat.le_trans hBr X3.out.size) (fun g hgm => by
           rcases List.mem_cons.1 hgm with rfl | hgm
           · exact ⟨by show B ≤ q1; omega, by show q1 < _; omega⟩
           · have := HMB.out g hgm; exact ⟨this.1, by have := X3.out.size; omega⟩)).mono ?_
         rintro _ w4 (⟨ok4, rfl, hs4, hg4⟩ | ⟨hno, rfl, hg4⟩) <;> replace hg4 : e3.w.grownBy w4 (some q1) := hg4
         rotate_left
         · have hx4 : Ext wr w4 := gr_new X3.out hg4 (by omega)
           have NO := hide (PRE.out (fun hk2 => hno (by
             obtain ⟨h1, h2, h3, -⟩ := (te.out.1 hk2).2.2 (by first | trivial | rfl | exact hop)
             refine ⟨h1.1, h1.2, fun s hs hc => ?_⟩
             rcases inC_cons.1 hc with (hc | hc) | hc
             · exact hc
             · exact h2 (by rw [← show s = x.of from hc]; exact hs)
             · exact h3 s (.inl hs) hc)))
           have R2 := hide (HG9.out.trans hx4)
           clear hno hg4 hx4
           go_wp2_with fail
           exact ⟨rfl, .inr ⟨NO.out, rfl, R2.out⟩⟩
         have hx4 : Ext wr w4 := gr_new X3.out hg4 (by omega)
         have hx4c : Ext Wc w4 := gr_new e3.ext hg4 (by omega)
         obtain ⟨e4, rfl⟩ := Later.mk_ex hx4c
         have hsz4 := hg4.size
         have S4 := hide hs4
         have X4 := hide hx4
         have OK4 := hide ok4
         clear hs4 hg4 hx4 hx4c ok4
         go_wp2_with fail
         go_at_call 74
         refine (IHk.out.2.2.1 e4.w v5 _ _ S4.out (HL5.out.keepI (X4.out.below hBr)) (Nat.le_trans hBr X4.out.size) (fun g hgm => by
           rcases List.mem_cons.1 hgm with rfl | hgm
           · exact ⟨by show B ≤ q1; omega, by show q1 < _; omega⟩
           · have := HMB.out g hgm; exact ⟨this.1, by have := X4.out.size; omega⟩)).mono ?_
         rintro _ w5 (⟨ok5, rfl, hx5⟩ | ⟨hno, rfl, hx5⟩)
         rotate_left
         · have NO := hide (PRE.out (fun hk2 => hno ((ins_congr (fun s => inC_cons.trans or_turn) x.l).2 ((te.out.1 hk2).2.2 (by first | trivial | rfl | exact hop)).2.2.2)))
           have R2 := hide (HG9.out.trans (X4.out.trans hx5))
           clear hno hx5
           go_wp2_with fail
           exact ⟨rfl, .inr ⟨NO.out, rfl, R2.out⟩⟩
         have FOR := hide (show tokL x.l ∧ ¬ x.of ∈ tnIs x.l ∧ (∀ t, t ∈ tnIs x.l ∨ t = x.of → ¬ inC fs t) ∧ inIs (fun t => inC fs t ∨ t ∈ tnIs x.l ∨ t = x.of) x.l from
           ⟨⟨OK4.out.1, OK4.out.2.1⟩, fun h => OK4.out.2.2 _ h (inC_cons.2 (.inl (.inr rfl))), fun t ht => by
             rcases ht with ht | ht
             · exact fun hc => OK4.out.2.2 t ht (inC_cons.2 (.inr hc))
             · rw [ht]; exact HN.out, (ins_congr (fun s => inC_cons.trans or_turn) x.l).1 ok5⟩)
         have R2 := hide (HG9.out.trans (X4.out.trans hx5))
         have TK := hide (te.out.2 ⟨OK1.out, fun h => absurd h (by first | decide | (rw [hop]; decide)), fun _ => FOR.out⟩)
         clear ok5 hx5
         go_wp2_with fail
         go_roundw
         case rel => exact ⟨k + 1, by omega, by go_num, R2.out, TK.out⟩
         case measure => simp [intOf]; omega
       · have e8 : (x.op == 8) = false := by simpa using h8
         have e9 : (x.op == 9) = false := by simpa using h9
         have H8 := hide h8
         have H9 := hide h9
         clear h8 h9
         generalize x.op = op at *
         go_wp2_with fail
         go_at_call 111
         refine (IHk.out.1 ec.w v4 _ _ HSC.out (HL4.out.keepS (HXC.out.below hBr)) (Nat.le_trans hBr HXC.out.size) (fun g hgm => by have := HMB.out g hgm; exact ⟨this.1, by have := HXC.out.size; omega⟩)).mono ?_
         rintro _ w1 (⟨ok1, rfl, hx1⟩ | ⟨hno, rfl, hx1⟩)
         rotate_left
         · have NO := hide (PRE.out (fun hk2 => hno ((te.out.1 hk2).1)))
           have R2 := hide (HG9.out.trans (HXC.out.trans hx1))
           clear hno hx1
           go_wp2_with fail
           exact ⟨rfl, .inr ⟨NO.out, rfl, R2.out⟩⟩
         obtain ⟨e1, rfl⟩ := Later.mk_ex (ec.ext.trans hx1)
         have R2 := hide (HG9.out.trans (HXC.out.trans hx1))
         have TK := hide (te.out.2 ⟨ok1, fun h => absurd h H8.out, fun h => absurd h H9.out⟩)
         clear ok1 hx1
         go_wp2_with fail
         go_roundw
         case rel => exact ⟨k + 1, by omega, by go_num, R2.out, TK.out⟩
         case measure => simp [intOf]; omega
   · have hkl : k = l.length := by omega
     subst hkl
     rw [List.take_length] at htk
     have FIN := hide (And.intro htk hg)
     clear htk hg
     go_wp2_with fail
     go_end0
     exact .inl ⟨FIN.out.1, rfl, FIN.out.2⟩
theorem inN_any (B : Nat) : ∀ (n : Nat) (l : List Itm), msize sizeI l ≤ n → n ≤ 1000000000 → InOk B l := by
 intro n
 induction n with
 | zero =>
   intro l hl hn
   refine in_step B l (by have := length_le_msize sizeI l sizeI_pos; omega) fun x hx => ?_
   have := msize_mem sizeI l x hx
   have := sizeI_pos x
   omega
 | succ n ih =>
   intro l hl hn
   refine in_step B l (by have := length_le_msize sizeI l sizeI_pos; omega) fun x hx => ?_
   have h1 := msize_mem sizeI l x hx
   have h2 := sizeI_eq x
   exact ⟨st_any B n x.s (by omega) (by omega), toldN_any B n x.l (by omega) (by omega), ih x.l (by omega) (by omega), ih x.els (by omega) (by omega)⟩
end Go.Proofs.YtjoglnjpgkobeaaGreatDoor
namespace Go.Proofs.YtjoglnjpgkobeaaGreatDoor
open Go Go.RowKit
set_option maxRecDepth 100000 in
theorem catch_panicking (p : Addr) (x : Bool) (older : List PanicEntry) (w : World) (hc : w.cell? p = some (.bool x)) (hz : w.frozen? p = false) (hp : p.block < w.heap.size) :
   CallsD Tryz.prog 70 #[.pointer (some p)] (.panicking (twiceE :: older)) w fun e u' w' =>
     e = .returned (.tuple #[]) ∧ u' = .panicking ({ twiceE with recovered := true } :: older) ∧ w' = (w.alloc (.cells #[] 93)).setCell p (.bool false) := by
 have hc' : (w.alloc (.cells #[] 93)).cell? p = some (.bool x) := (Ext.new w _).cell hp |>.trans hc
 have hz' : (w.alloc (.cells #[] 93)).frozen? p = false := (Ext.new w _).frozen hp |>.trans hz
 have hta : ∀ w : World, (Instr.typeAssert (.iface 93 (.agg #[])) 20 93 true).run Tryz.prog w = .ok (.tuple #[.agg #[], .bool true]) w := fun _ => by kernel_rfl
 unfold twiceE
 refine callsD_of_wpS Tryz.func70 rfl fun c₀ cs hu => ?_
 apply wpS_seq
 apply wpS_region
 simp [wpOpsS, go_sem, recoverD, hu, Tryz.ntmps70, Exit.thenS, hta]
 apply wpS_seq
 apply wpS_region
 simp [wpOpsS, go_sem, Exit.thenS]
 refine wpS_cond (t := true) (by simp [Act.eval, Array.replicate]) ?_
 simp only [if_true]
 apply wpS_region
 simp [wpOpsS, go_sem, hc', hz', bodyPostS, results, Tryz.results70]
set_option maxRecDepth 100000 in
theorem catch_idle (p : Addr) (w : World) :
   CallsD Tryz.prog 70 #[.pointer (some p)] .returning w fun e u' w' => e = .returned (.tuple #[]) ∧ u' = .returning ∧ w' = w.alloc (.cells #[] 93) := by
 have hta : ∀ w : World, (Instr.typeAssert .nilIface 20 93 true).run Tryz.prog w = .ok (.tuple #[.agg #[], .bool false]) w := fun _ => by kernel_rfl
 refine callsD_of_wpS Tryz.func70 rfl fun c₀ cs hu => ?_
 apply wpS_seq
 apply wpS_region
 simp [wpOpsS, go_sem, recoverD, hu, Tryz.ntmps70, Exit.thenS, hta]
 apply wpS_seq
 apply wpS_region
 simp [wpOpsS, go_sem, Exit.thenS]
 refine wpS_cond (t := false) (by simp [Act.eval, Array.replicate]) ?_
 simp only [Bool.false_eq_true, if_false]
 refine wpS_of_wp (wp_skip ?_)
 cases c₀
 simp_all [bodyPostS, results, Tryz.results70]
attribute [local go_sem] run_store_one
def headN (m : Mdl) : List ByteArray := m.params.map Bnd.name ++ m.ports.map Prt.name
theorem head_param {m : Mdl} {k : Nat} (hk : k < m.params.length) (h : k < (headN m).length) : (headN m)[k] = m.params[k].name := by
 have : (headN m)[k]? = some m.params[k].name := by
   unfold headN
   rw [List.getElem?_append_left (by simpa using hk), List.getElem?_map, List.getElem?_eq_getElem hk]; rfl
 exact (List.getElem_eq_iff h).2 this
theorem head_port {m : Mdl} {k : Nat} (hk : k < m.ports.length) (h : m.params.length + k < (headN m).length) : (headN m)[m.params.length + k] = m.ports[k].name := by
 have : (headN m)[m.params.length + k]? = some m.ports[k].name := by
   unfold headN
   rw [List.getElem?_append_right (by simp), List.length_map, Nat.add_sub_cancel_left, List.getElem?_map, List.getElem?_eq_getElem hk]; rfl
 exact (List.getElem_eq_iff h).2 this
theorem nodup_take {l : List ByteArray} {k : Nat} (hk : k < l.length) : (l.take (k + 1)).Nodup ↔ (l.take k).Nodup ∧ ¬ l[k] ∈ l.take k := by
 rw [List.take_succ_eq_append_getElem hk, List.nodup_append]
 constructor
 · rintro ⟨h1, -, h3⟩; exact ⟨h1, fun h => h3 _ h _ (by simp) rfl⟩
 · rintro ⟨h1, h2⟩; exact ⟨h1, by simp, fun a ha b hb e => by simp at hb; subst hb; exact h2 (e ▸ ha)⟩
theorem nodup_part {l : List ByteArray} {k : Nat} (h : l.Nodup) : (l.take k).Nodup := by
 rw [← List.take_append_drop k l, List.nodup_append] at h; exact h.1
theorem rightM_iff {m : Mdl} : rightM m ↔ (headN m).Nodup ∧ TOK (fun s => s ∈ headN m) m.items ∧ inIs (fun s => s ∈ headN m ∨ s ∈ tnIs m.items) m.items := by
 have hmem : ∀ s, s ∈ ownN m ↔ s ∈ headN m ∨ s ∈ tnIs m.items := fun s => by
   unfold ownN headN
   simp only [List.mem_append]
   constructor
   · rintro (h | h | h)
     · exact .inr h
     · exact .inl (.inr h)
     · exact .inl (.inl h)
   · rintro ((h | h) | h)
     · exact .inr (.inr h)
     · exact .inr (.inl h)
     · exact .inl h
 unfold rightM
 rw [ins_congr hmem m.items]
 have hnd : (ownN m).Nodup ↔ (tnIs m.items).Nodup ∧ (headN m).Nodup ∧ ∀ s, s ∈ tnIs m.items → ¬ s ∈ headN m := by
   unfold ownN headN
   rw [List.nodup_append, List.nodup_append, List.nodup_append]
   constructor
   · rintro ⟨h1, ⟨h2, h3, h4⟩, h5⟩
     exact ⟨h1, ⟨h3, h2, fun a ha b hb e => h4 b hb a ha e.symm⟩, fun s hs hh => by
       rcases List.mem_append.1 hh with h | h
       · exact h5 s hs s (List.mem_append_right _ h) rfl
       · exact h5 s hs s (List.mem_append_left _ h) rfl⟩
   · rintro ⟨h1, ⟨h2, h3, h4⟩, h5⟩
     exact ⟨h1, ⟨h3, h2, fun a ha b hb e => h4 b hb a ha e.symm⟩, fun a ha b hb e => h5 a ha (by
       rw [e]
       rcases List.mem_append.1 hb with h | h
       · exact List.mem_append_right _ h
       · exact List.mem_append_left _ h)⟩
 rw [hnd]
 unfold TOK
 constructor
 · rintro ⟨h1, ⟨h2, h3, h4⟩, h5⟩; exact ⟨h3, ⟨h1, h2, h4⟩, h5⟩
 · rintro ⟨h3, ⟨h1, h2, h4⟩, h5⟩; exact ⟨h1, ⟨h2, h3, h4⟩, h5⟩
set_option maxRecDepth 100000 in
set_option maxHeartbeats 8000000 in
theorem right_any (B : Nat) (m : Mdl) (w : World) (cs : List Value) (hR : RM w B m cs) (hB : B ≤ w.heap.size) (hsz : sizeM m ≤ 1000000000) :
   Calls Tryz.prog 33 #[.agg cs.toArray] w fun e w' => e = .returned (.bool (yes (rightM m))) ∧ Ext w w' := by
 obtain ⟨v1, v2, v3, rfl, hp, hq, hi⟩ := hR
 have o1 := hp.oneCell
 have o2 := hq.oneCell
 have o3 := hi.oneCell
 have HI := hide hi
 obtain ⟨pa, pcap, rfl, -, hprow⟩ := hp
 obtain ⟨qa, qcap, rfl, -, hqrow⟩ := hq
 have hme : sizeM m = 1 + msize sizeB m.params + msize sizeP m.ports + msize sizeI m.items := rfl
 have hpl := length_le_msize sizeB m.params sizeB_pos
 have hql := length_le_msize sizeP m.ports sizeP_pos
 obtain ⟨W1, e1, hV1, hx1, hz1, c0, c1, c2, c3⟩ := boxL4 w (.string m.name) (.slice pa m.params.length pcap) (.slice qa m.ports.length qcap) v3 33
 obtain ⟨W2, hW2⟩ : ∃ W2, W2 = e1.w.alloc (.cells #[.bool false] 4) := ⟨_, rfl⟩
 have hx2 : Ext e1.w W2 := by rw [hW2]; exact Ext.new _ _
 have hb2 : Blk W2 e1.w.heap.size 4 [.bool false] := by rw [hW2]; exact Blk.new _ _ [_]
 obtain ⟨e2, hE2⟩ := Later.mk_ex (Ext.refl W2)
 have hV2 := hW2.symm.trans hE2
 have q12 := e1.ext.trans hx2
 have q02 := hx1.trans q12
 have c0 := cellL c0 q12
 have c1 := cellL c1 q12
 have c2 := cellL c2 q12
 have c3 := cellL c3 q12
 have k0 := hb2.later1
 have kf0 := hb2.laterFree1
 have hlt2 := hb2.lt
 have HB2 := hide (fun (e : Later W2) => hb2.ext e.ext)
 have HW1 : w.heap.size ≤ e1.w.heap.size := Nat.le_trans hx1.size e1.ext.size
 have hB2 : B ≤ W2.heap.size := Nat.le_trans hB q02.size
 have Q02 := hide q02
 have hmf : ∀ (fn : Fn) (first cap : Array Value) (w : World), (Instr.makeFunc fn first cap).run Tryz.prog w = .ok (.func fn first cap) w := fun _ _ _ _ => rfl
 have HPR := hide hprow
 have HQR := hide hqrow
 have RI_ := hide (rightM_iff (m := m))
 have TOA := hide (toldN_any B (msize sizeI m.items) m.items (Nat.le_refl _) (by omega))
 have INA := hide (inN_any B (msize sizeI m.items) m.items (Nat.le_refl _) (by omega))
 have hpln : m.params.length ≤ 1000000000 := by omega
 have hqln : m.ports.length ≤ 1000000000 := by omega
 have hLn : (headN m).length = m.params.length + m.ports.length := by simp [headN]
 clear hW2 hx2 hb2 hE2 q12 q02 hx1 hprow hqrow hi hme hpl hql hsz hz1
 have hw1 : w.heap.size ≤ e1.w.heap.size := HW1
 go_enter_defers Tryz.func33, Tryz.ntmps33
 go_wp2_with fail
 go_at_call 71
 refine (within_any e2.w none [] rfl (fun g hgm => by cases hgm)).mono ?_
 rintro _ wa ⟨b1, q1, rfl, hs1, hxa, hm1, hm1'⟩
 obtain ⟨ea, rfl⟩ := Later.mk_ex (e2.ext.trans hxa)
 have hgeq : W2.heap.size ≤ q1 := Nat.le_trans e2.ext.size hm1
 have S0 := hide (hs1.congr (N' := fun t => t ∈ (headN m).take 0) (fun s => by simp))
 clear hs1 hxa
 have hBq : B ≤ q1 := Nat.le_trans hB2 hgeq
 go_wp2_with fail
 go_loopw [13] (fun i wr => ∃ (k : Nat) (er : Later W2), k ≤ m.params.length ∧ i = .int .i64 k ∧ wr = er.w ∧ ScA wr (some ⟨b1, 0, none⟩) [⟨b1, q1, fun t => t ∈ (headN m).take k⟩] ∧ ((headN m).take k).Nodup ∧ q1 < wr.heap.size) (fun i _ => m.params.length - (intOf i).toNat)
 case atStart => exact ⟨0, ea, Nat.zero_le _, rfl, rfl, S0.out, by simp, hm1'⟩
 case round =>
   obtain ⟨k, er, hk, rfl, rfl, hs, hnd, hq1⟩ := hrel
   by_cases hlt : k < m.params.length
   · obtain ⟨b, o, u0, u1, u2, u3, u4, u5, u6, rfl, hbB, hRk, hC, p0, p1, p2, p3, p4, p5, p6⟩ := HPR.out.open7 hlt
     obtain ⟨cx, hcs, -⟩ := hRk
     simp only [List.cons.injEq] at hcs
     obtain ⟨rfl, -⟩ := hcs
     obtain ⟨d0, d1, d2, d3, d4, d5, d6⟩ := (hC.ext (Q02.out.trans er.ext)).get7
     have hkL : k < (headN m).length := by omega
     have hname : (headN m)[k] = m.params[k].name := head_param hlt hkL
     have TK := hide (nodup_take hkL)
     have NM := hide hname
     have TN := hide (List.take_succ_eq_append_getElem hkL)
     have ND := hide hnd
     have HS := hide hs
     clear hC hnd hs hname
     generalize m.params[k].name = nm at *
     obtain ⟨Wb, Wc, hVb, ⟨m0, m1, m2, m3, m4, m5, m6⟩, ⟨n0, n1, n2, n3, n4, n5, n6⟩, hVc, hbc, hxc, hzc⟩ := varB er.w (.string nm) u1 u2 u3 u4 u5 u6
     obtain ⟨ec, rfl⟩ := Later.mk_ex (er.ext.trans hxc)
     obtain ⟨g0, g1, g2, g3, g4, g5, g6⟩ := hbc.get7
     have HSC := hide (HS.out.ext hxc)
     have hqc : q1 < ec.w.heap.size := Nat.lt_of_lt_of_le hq1 hxc.size
     clear hbc hxc hzc
     go_wp2_with fail
     go_at_call 72
     refine (tell_any ec.w _ _ _ nm HSC.out).mono ?_
     rintro _ w1 (⟨hn, rfl, hs1, hg1⟩ | ⟨hc, rfl, rfl⟩)
     · replace hg1 : ec.w.grownBy w1 (some q1) := hg1
       obtain ⟨ed, rfl⟩ := Later.mk_ex (gr_new ec.ext hg1 hgeq)
       have T2 := hide (TK.out.2 ⟨ND.out, fun h => hn (inC_cons.2 (.inl (by rw [NM.out] at h; exact h)))⟩)
       have S2 := hide (hs1.congr (N' := fun t => t ∈ (headN m).take (k + 1)) (fun s => by rw [TN.out, NM.out, List.mem_append, List.mem_singleton]))
       have hqd : q1 < ed.w.heap.size := Nat.lt_of_lt_of_le hqc hg1.size
       clear hn hs1 hg1
       go_wp2_with fail
       go_roundw
       case rel => exact ⟨k + 1, ed, by omega, by go_num, rfl, S2.out, T2.out, hqd⟩
       case measure => simp [intOf]; omega
     · have NO := hide (yes_no.2 (fun h => (TK.out.1 (nodup_part (rightM_iff.1 h).1)).2 (by
         rw [NM.out]
         rcases inC_cons.1 hc with h | h
         · exact h
         · exact absurd h inC_nil)))
       clear hc
       go_wp2_with fail
       refine leaves_cons (f := 70) (args := #[.pointer (some ⟨e1.w.heap.size, 0, none⟩)]) (by simp) (by simp [go_sem]) ?_
       refine (catch_panicking ⟨e1.w.heap.size, 0, none⟩ false [] ec.w (k0 ec) (kf0 ec) (Nat.lt_of_lt_of_le hlt2 ec.ext.size)).mono ?_
       rintro e u' w'' ⟨rfl, rfl, rfl⟩
       have hfin : ((ec.w.alloc (.cells #[] 93)).setCell ⟨e1.w.heap.size, 0, none⟩ (.bool false)).cell? ⟨e1.w.heap.size, 0, none⟩ = some (.bool false) := (((HB2.out ec).alloc _).store1 (.bool false)).get1
       have hext : Ext w ((ec.w.alloc (.cells #[] 93)).setCell ⟨e1.w.heap.size, 0, none⟩ (.bool false)) := (((Q02.out.trans ec.ext).alloc _).setCell hw1 _)
       refine ⟨_, ?_, by rw [NO.out], hext⟩
       simp [Leaves, settle, results, Tryz.results33, go_sem, hfin]
   · have hkl : k = m.params.length := by omega
     subst hkl
     have HS := hide hs
     have ND := hide hnd
     clear hs hnd
     go_wp2_with fail
     go_loopw [25] (fun i wr => ∃ (k : Nat) (er : Later W2), k ≤ m.ports.length ∧ i = .int .i64 k ∧ wr = er.w ∧ ScA wr (some ⟨b1, 0, none⟩) [⟨b1, q1, fun t => t ∈ (headN m).take (m.params.length + k)⟩] ∧ ((headN m).take (m.params.length + k)).Nodup ∧ q1 < wr.heap.size) (fun i _ => m.ports.length - (intOf i).toNat)
     case atStart => exact ⟨0, er, Nat.zero_le _, rfl, rfl, HS.out, ND.out, hq1⟩
     case round =>
       obtain ⟨k, er, hk, rfl, rfl, hs, hnd, hq1⟩ := hrel
       by_cases hlt : k < m.ports.length
       · obtain ⟨b, o, u0, u1, u2, u3, u4, u5, u6, u7, rfl, hbB, hRk, hC, p0, p1, p2, p3, p4, p5, p6, p7⟩ := HQR.out.open8 hlt
         obtain ⟨cx, hcs, -⟩ := hRk
         simp only [List.cons.injEq] at hcs
         obtain ⟨rfl, rfl, -⟩ := hcs
         obtain ⟨d0, d1, d2, d3, d4, d5, d6, d7⟩ := (hC.ext (Q02.out.trans er.ext)).get8
         have hkL : m.params.length + k < (headN m).length := by omega
         have hname : (headN m)[m.params.length + k] = m.ports[k].name := head_port hlt hkL
         have TK := hide (nodup_take hkL)
         have NM := hide hname
         have TN := hide (List.take_succ_eq_append_getElem hkL)
         have ND2 := hide hnd
         have HS2 := hide hs
         clear hC hnd hs hname
         generalize m.ports[k].name = nm at *
         generalize m.ports[k].out = ou at *
         obtain ⟨Wb, Wc, hVb, ⟨m0, m1, m2, m3, m4, m5, m6, m7⟩, ⟨n0, n1, n2, n3, n4, n5, n6, n7⟩, hVc, hbc, hxc, hzc⟩ := varP er.w (.string nm) (.bool ou) u2 u3 u4 u5 u6 u7
         obtain ⟨ec, rfl⟩ := Later.mk_ex (er.ext.trans hxc)
         obtain ⟨g0, g1, g2, g3, g4, g5, g6, g7⟩ := hbc.get8
         have HSC := hide (HS2.out.ext hxc)
         have hqc : q1 < ec.w.heap.size := Nat.lt_of_lt_of_le hq1 hxc.size
         clear hbc hxc hzc
         go_wp2_with fail
         go_at_call 72
         refine (tell_any ec.w _ _ _ nm HSC.out).mono ?_
         rintro _ w1 (⟨hn, rfl, hs1, hg1⟩ | ⟨hc, rfl, rfl⟩)
         · replace hg1 : ec.w.grownBy w1 (some q1) := hg1
           obtain ⟨ed, rfl⟩ := Later.mk_ex (gr_new ec.ext hg1 hgeq)
           have T2 := hide (TK.out.2 ⟨ND2.out, fun h => hn (inC_cons.2 (.inl (by rw [NM.out] at h; exact h)))⟩)
           have S2 := hide (hs1.congr (N' := fun t => t ∈ (headN m).take (m.params.length + (k + 1))) (fun s => by rw [← Nat.add_assoc, TN.out, NM.out, List.mem_append, List.mem_singleton]))
           have hqd : q1 < ed.w.heap.size := Nat.lt_of_lt_of_le hqc hg1.size
           clear hn hs1 hg1
           go_wp2_with fail
           go_roundw
           case rel => exact ⟨k + 1, ed, by omega, by go_num, rfl, S2.out, T2.out, hqd⟩
           case measure => simp [intOf]; omega
         · have NO := hide (yes_no.2 (fun h => (TK.out.1 (nodup_part (rightM_iff.1 h).1)).2 (by
             rw [NM.out]
             rcases inC_cons.1 hc with h | h
             · exact h
             · exact absurd h inC_nil)))
           clear hc
           go_wp2_with fail
           refine leaves_cons (f := 70) (args := #[.pointer (some ⟨e1.w.heap.size, 0, none⟩)]) (by simp) (by simp [go_sem]) ?_
           refine (catch_panicking ⟨e1.w.heap.size, 0, none⟩ false [] ec.w (k0 ec) (kf0 ec) (Nat.lt_of_lt_of_le hlt2 ec.ext.size)).mono ?_
           rintro e u' w'' ⟨rfl, rfl, rfl⟩
           have hfin : ((ec.w.alloc (.cells #[] 93)).setCell ⟨e1.w.heap.size, 0, none⟩ (.bool false)).cell? ⟨e1.w.heap.size, 0, none⟩ = some (.bool false) := (((HB2.out ec).alloc _).store1 (.bool false)).get1
           have hext : Ext w ((ec.w.alloc (.cells #[] 93)).setCell ⟨e1.w.heap.size, 0, none⟩ (.bool false)) := (((Q02.out.trans ec.ext).alloc _).setCell hw1 _)
           refine ⟨_, ?_, by rw [NO.out], hext⟩
           simp [Leaves, settle, results, Tryz.results33, go_sem, hfin]
       · have hkl : k = m.ports.length := by omega
         subst hkl
         rw [← hLn, List.take_length] at hs hnd
         have hbe : Below B w er.w := (Q02.out.trans er.ext).below hB
         have HS2 := hide hs
         have ND2 := hide hnd
         have HI2 := hide (HI.out.keepI hbe)
         clear hs hnd hbe
         go_wp2_with fail
         go_at_call 73
         refine (TOA.out er.w v3 _ _ _ HS2.out HI2.out (Nat.le_trans hB2 er.ext.size) (fun g hgm => by
           obtain rfl := List.mem_singleton.1 hgm
           exact ⟨hBq, hq1⟩)).mono ?_
         rintro _ w1 (⟨hok, rfl, hs1, hg1⟩ | ⟨hno, rfl, hg1⟩) <;> replace hg1 : er.w.grownBy w1 (some q1) := hg1 <;> obtain ⟨ed, rfl⟩ := Later.mk_ex (gr_new er.ext hg1 hgeq)
         rotate_left
         · have NO := hide (yes_no.2 (fun h => hno (by
             obtain ⟨h1, h2, h3⟩ := (rightM_iff.1 h).2.1
             refine ⟨h1, h2, fun s hs hc => h3 s hs ?_⟩
             rcases inC_cons.1 hc with h | h
             · exact h
             · exact absurd h inC_nil)))
           clear hno hg1
           go_wp2_with fail
           refine leaves_cons (f := 70) (args := #[.pointer (some ⟨e1.w.heap.size, 0, none⟩)]) (by simp) (by simp [go_sem]) ?_
           refine (catch_panicking ⟨e1.w.heap.size, 0, none⟩ false [] ed.w (k0 ed) (kf0 ed) (Nat.lt_of_lt_of_le hlt2 ed.ext.size)).mono ?_
           rintro e u' w'' ⟨rfl, rfl, rfl⟩
           have hfin : ((ed.w.alloc (.cells #[] 93)).setCell ⟨e1.w.heap.size, 0, none⟩ (.bool false)).cell? ⟨e1.w.heap.size, 0, none⟩ = some (.bool false) := (((HB2.out ed).alloc _).store1 (.bool false)).get1
           have hext : Ext w ((ed.w.alloc (.cells #[] 93)).setCell ⟨e1.w.heap.size, 0, none⟩ (.bool false)) := (((Q02.out.trans ed.ext).alloc _).setCell hw1 _)
           refine ⟨_, ?_, by rw [NO.out], hext⟩
           simp [Leaves, settle, results, Tryz.results33, go_sem, hfin]
         have hqd : q1 < ed.w.heap.size := Nat.lt_of_lt_of_le hq1 hg1.size
         have hbe : Below B w ed.w := (Q02.out.trans ed.ext).below hB
         have HI3 := hide (HI.out.keepI hbe)
         have HS3 := hide hs1
         have OK := hide (show TOK (fun s => s ∈ headN m) m.items from ⟨hok.1, hok.2.1, fun s hs hc => hok.2.2 s hs (inC_cons.2 (.inl hc))⟩)
         clear hs1 hg1 hok hbe
         go_wp2_with fail
         go_at_call 74
         refine (INA.out ed.w v3 _ _ HS3.out HI3.out (Nat.le_trans hB2 ed.ext.size) (fun g hgm => by
           obtain rfl := List.mem_singleton.1 hgm
           exact ⟨hBq, hqd⟩)).mono ?_
         rintro _ w2 (⟨hok2, rfl, hx2⟩ | ⟨hno, rfl, hx2⟩) <;> obtain ⟨ef, rfl⟩ := Later.mk_ex (ed.ext.trans hx2)
         rotate_left
         · have NO := hide (yes_no.2 (fun h => hno ((ins_congr (fun s => by rw [inC_cons]; simp [inC_nil]) m.items).2 (rightM_iff.1 h).2.2)))
           clear hno hx2
           go_wp2_with fail
           refine leaves_cons (f := 70) (args := #[.pointer (some ⟨e1.w.heap.size, 0, none⟩)]) (by simp) (by simp [go_sem]) ?_
           refine (catch_panicking ⟨e1.w.heap.size, 0, none⟩ false [] ef.w (k0 ef) (kf0 ef) (Nat.lt_of_lt_of_le hlt2 ef.ext.size)).mono ?_
           rintro e u' w'' ⟨rfl, rfl, rfl⟩
           have hfin : ((ef.w.alloc (.cells #[] 93)).setCell ⟨e1.w.heap.size, 0, none⟩ (.bool false)).cell? ⟨e1.w.heap.size, 0, none⟩ = some (.bool false) := (((HB2.out ef).alloc _).store1 (.bool false)).get1
           have hext : Ext w ((ef.w.alloc (.cells #[] 93)).setCell ⟨e1.w.heap.size, 0, none⟩ (.bool false)) := (((Q02.out.trans ef.ext).alloc _).setCell hw1 _)
           refine ⟨_, ?_, by rw [NO.out], hext⟩
           simp [Leaves, settle, results, Tryz.results33, go_sem, hfin]
         have YES := hide (yes_iff.2 (rightM_iff.2 ⟨ND2.out, OK.out, (ins_congr (fun s => by rw [inC_cons]; simp [inC_nil]) m.items).1 hok2⟩))
         clear hok2 hx2
         have k0f := k0 ef
         have kf0f := kf0 ef
         go_wp2_with fail
         refine leaves_cons (f := 70) (args := #[.pointer (some ⟨e1.w.heap.size, 0, none⟩)]) (by simp) (by simp [go_sem]) ?_
         refine (catch_idle ⟨e1.w.heap.size, 0, none⟩ _).mono ?_
         rintro e u' w'' ⟨rfl, rfl, rfl⟩
         have hfin : ((ef.w.setCell ⟨e1.w.heap.size, 0, none⟩ (.bool true)).alloc (.cells #[] 93)).cell? ⟨e1.w.heap.size, 0, none⟩ = some (.bool true) := (((HB2.out ef).store1 (.bool true)).alloc _).get1
         have hext : Ext w ((ef.w.setCell ⟨e1.w.heap.size, 0, none⟩ (.bool true)).alloc (.cells #[] 93)) := (((Q02.out.trans ef.ext).setCell hw1 _).alloc _)
         refine ⟨_, ?_, by rw [YES.out], hext⟩
         simp [Leaves, settle, results, Tryz.results33, go_sem, hfin]
end Go.Proofs.YtjoglnjpgkobeaaGreatDoor
