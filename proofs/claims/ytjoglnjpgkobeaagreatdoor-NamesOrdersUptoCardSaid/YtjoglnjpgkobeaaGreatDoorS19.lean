import Derived.Test.YtjoglnjpgkobeaaGreatDoorProg
import Derived.Test.YtjoglnjpgkobeaaGreatDoorS17
import Derived.Test.YtjoglnjpgkobeaaGreatDoorS3
import Derived.Test.YtjoglnjpgkobeaaGreatDoorS7
set_option linter.all false
set_option linter.unusedVariables false
set_option linter.unusedSimpArgs false
namespace Go.Proofs.YtjoglnjpgkobeaaGreatDoor
open Go Go.RowKit
attribute [local go_sem] run_store_one
def TOK (C : ByteArray → Prop) (l : List Itm) : Prop := tokIs l ∧ (tnIs l).Nodup ∧ ∀ s, s ∈ tnIs l → ¬ C s
theorem TOK_nil (C : ByteArray → Prop) : TOK C [] := ⟨trivial, by simp [tnIs], fun s h => by cases h⟩
theorem tnIs_one (x : Itm) : tnIs [x] = tnI x := by simp [tnIs]
theorem tokIs_one (x : Itm) : tokIs [x] ↔ tokI x := by simp [tokIs]
theorem TOK_snoc {C : ByteArray → Prop} {l : List Itm} {x : Itm} : TOK C (l ++ [x]) ↔ TOK C l ∧ tokI x ∧ (tnI x).Nodup ∧ ∀ s, s ∈ tnI x → ¬ C s ∧ ¬ s ∈ tnIs l := by
 unfold TOK
 rw [tokIs_append, tokIs_one, tnIs_append, tnIs_one, List.nodup_append]
 constructor
 · rintro ⟨⟨h1, h2⟩, ⟨h3, h4, h5⟩, h6⟩
   exact ⟨⟨h1, h3, fun s hs => h6 s (List.mem_append_left _ hs)⟩, h2, h4, fun s hs => ⟨h6 s (List.mem_append_right _ hs), fun h => h5 s h s hs rfl⟩⟩
 · rintro ⟨⟨h1, h3, h6⟩, h2, h4, h5⟩
   refine ⟨⟨h1, h2⟩, ⟨h3, h4, fun a ha b hb e => (h5 b hb).2 (e ▸ ha)⟩, fun s hs => ?_⟩
   rcases List.mem_append.1 hs with h | h
   · exact h6 s h
   · exact (h5 s h).1
theorem TOK_pre {C : ByteArray → Prop} {l : List Itm} {k : Nat} (h : TOK C l) : TOK C (l.take k) := by
 have hl := List.take_append_drop k l
 rw [← hl] at h
 obtain ⟨h1, h2, h3⟩ := h
 exact ⟨(tokIs_append _ _).1 h1 |>.1, by rw [tnIs_append] at h2; exact (List.nodup_append.1 h2).1, fun s hs => h3 s (by rw [tnIs_append]; exact List.mem_append_left _ hs)⟩
theorem TOK_step {C : ByteArray → Prop} {l : List Itm} {k : Nat} (hk : k < l.length) : TOK C (l.take (k + 1)) ↔ TOK C (l.take k) ∧ tokI l[k] ∧ (tnI l[k]).Nodup ∧ ∀ s, s ∈ tnI l[k] → ¬ C s ∧ ¬ s ∈ tnIs (l.take k) := by
 rw [List.take_succ_eq_append_getElem hk, TOK_snoc]
theorem tn_step {l : List Itm} {k : Nat} (hk : k < l.length) : tnIs (l.take (k + 1)) = tnIs (l.take k) ++ tnI l[k] := by rw [List.take_succ_eq_append_getElem hk, tnIs_append, tnIs_one]
theorem TOK_decl {C : ByteArray → Prop} {l : List Itm} {k : Nat} (hk : k < l.length) (hd : isDecl l[k].op) (h : TOK C (l.take k)) : TOK C (l.take (k + 1)) ↔ ¬ (C l[k].name ∨ l[k].name ∈ tnIs (l.take k)) := by
 rw [TOK_step hk, tnI_eq, if_pos hd]
 have h8 : l[k].op ≠ 8 := by unfold isDecl at hd; omega
 constructor
 · rintro ⟨-, -, -, h⟩ hc
   rcases hc with hc | hc
   · exact (h _ (by simp)).1 hc
   · exact (h _ (by simp)).2 hc
 · intro hn
   exact ⟨h, (tokI_eq _).2 (fun e => absurd e h8), by simp, fun s hs => by simp at hs; subst hs; exact ⟨fun hc => hn (.inl hc), fun hc => hn (.inr hc)⟩⟩
theorem TOK_if {C : ByteArray → Prop} {l : List Itm} {k : Nat} (hk : k < l.length) (h8 : l[k].op = 8) (h : TOK C (l.take k)) : TOK C (l.take (k + 1)) ↔ TOK (fun s => C s ∨ s ∈ tnIs (l.take k)) l[k].l ∧ TOK (fun s => C s ∨ s ∈ tnIs (l.take k)) l[k].els := by
 rw [TOK_step hk, tnI_eq, if_neg (by unfold isDecl; omega), if_pos h8, tokI_eq]
 constructor
 · rintro ⟨-, h1, -, h3⟩
   obtain ⟨⟨a1, a2⟩, b1, b2⟩ := h1 h8
   refine ⟨⟨a1, a2, fun s hs hc => ?_⟩, ⟨b1, b2, fun s hs hc => ?_⟩⟩
   · have := h3 s ((memA_all _ _).2 (.inl hs)); exact hc.elim this.1 this.2
   · have := h3 s ((memA_all _ _).2 (.inr hs)); exact hc.elim this.1 this.2
 · rintro ⟨⟨a1, a2, a3⟩, b1, b2, b3⟩
   refine ⟨h, fun _ => ⟨⟨a1, a2⟩, b1, b2⟩, nodupA_all _ _ a2, fun s hs => ?_⟩
   rcases (memA_all _ _).1 hs with hs | hs
   · exact ⟨fun hc => a3 s hs (.inl hc), fun hc => a3 s hs (.inr hc)⟩
   · exact ⟨fun hc => b3 s hs (.inl hc), fun hc => b3 s hs (.inr hc)⟩
theorem TOK_rest {C : ByteArray → Prop} {l : List Itm} {k : Nat} (hk : k < l.length) (hd : ¬ isDecl l[k].op) (h8 : l[k].op ≠ 8) (h : TOK C (l.take k)) : TOK C (l.take (k + 1)) ∧ tnI l[k] = [] := by
 have ht : tnI l[k] = [] := by rw [tnI_eq, if_neg hd, if_neg h8]
 refine ⟨(TOK_step hk).2 ⟨h, (tokI_eq _).2 (fun e => absurd e h8), by rw [ht]; simp, fun s hs => by rw [ht] at hs; cases hs⟩, ht⟩
theorem Cells.below {w w' : World} {B b o : Nat} {cs : List Value} (h : Cells w b o cs) (hx : Below B w w') (hb : b < B) : Cells w' b o cs := fun j v hj => (hx.cell hb).trans (h j v hj)
theorem gr_below {w w' : World} {m B : Nat} (hg : w.grownBy w' (some m)) (hm : B ≤ m) (hB : B ≤ w.heap.size) : Below B w w' := (Below.refl B w).grown hg hB (fun k e => by cases e; exact hm)
theorem gr_beyond {a b c : World} {m i : Nat} (h : a.grownBy b (some m)) (k : b.grownBy c (some i)) (hi : a.heap.size ≤ i) : a.grownBy c (some m) :=
 ⟨k.os.trans h.os, k.tape.trans h.tape, k.output.trans h.output, Nat.le_trans h.size k.size, fun j hj hn => (k.block j (Nat.lt_of_lt_of_le hj h.size) (fun e => by injection e with e; omega)).trans (h.block j hj hn)⟩
theorem enters_tell : Enters Tryz.prog 72 := ⟨fun _ _ => by kernel_rfl⟩
def ToldOk (B : Nat) (l : List Itm) : Prop := ∀ (w : World) (v : Value) (f : Scp) (r : List Scp) (p : Option Addr), ScA w p (f :: r) → Sl (RI w B) w B 9 l v → B ≤ w.heap.size → (∀ g, g ∈ f :: r → B ≤ g.m ∧ g.m < w.heap.size) →
 Calls Tryz.prog 73 #[.pointer p, v] w fun e w' =>
   (TOK (inC (f :: r)) l ∧ e = .returned (.tuple #[]) ∧ ScA w' p ({ f with N := fun t => f.N t ∨ t ∈ tnIs l } :: r) ∧ w.grownBy w' (some f.m)) ∨ (¬ TOK (inC (f :: r)) l ∧ e = .panicked [twiceE] ∧ w.grownBy w' (some f.m))
theorem Sl.keepI {w w' : World} {B : Nat} {l : List Itm} {v : Value} (h : Sl (RI w B) w B 9 l v) (hb : Below B w w') : Sl (RI w' B) w' B 9 l v :=
 h.keep (fun p hp => hb.cell hp) (Nat.le_refl _) (fun y _ cs => RI.keep (fun p hp => hb.cell hp) (Nat.le_refl _) y cs)
set_option maxRecDepth 20000 in
set_option maxHeartbeats 16000000 in
theorem told_step (B : Nat) (l : List Itm) (hln : l.length ≤ 1000000000) (IH : ∀ x, x ∈ l → ToldOk B x.l ∧ ToldOk B x.els) : ToldOk B l := by
 intro w v f r p hsc hS hB hmB
 have hTa := Tryz.underlying62
 have HS := hide hS
 obtain ⟨a, cap, rfl, hcap, hrow⟩ := hS
 have hfm := hmB f (List.mem_cons_self ..)
 have HMB := hide hmB
 have HIH := hide IH
 have hmf : ∀ (fn : Fn) (first cap : Array Value) (w : World), (Instr.makeFunc fn first cap).run Tryz.prog w = .ok (.func fn first cap) w := fun _ _ _ _ => rfl
 have het := enters_tell.out
 clear hcap hmB IH
 have hst0 := hide (hsc.congr (N' := fun t => f.N t ∨ t ∈ tnIs (l.take 0)) (fun s => by simp [tnIs]))
 clear hsc
 go_enter Tryz.func73, Tryz.ntmps73
 go_wp2_with fail
 go_loopw [16] (fun i wr => ∃ k : Nat, k ≤ l.length ∧ i = .int .i64 k ∧ ScA wr p ({ f with N := fun t => f.N t ∨ t ∈ tnIs (l.take k) } :: r) ∧ w.grownBy wr (some f.m) ∧ TOK (inC (f :: r)) (l.take k)) (fun i _ => l.length - (intOf i).toNat)
 case atStart => exact ⟨0, Nat.zero_le _, rfl, hst0.out, gr_none (Ext.refl w), by rw [List.take_zero]; exact TOK_nil _⟩
 case round =>
   obtain ⟨k, hk, rfl, hs, hg, htk⟩ := hrel
   by_cases hlt : k < l.length
   · obtain ⟨b, o, v0, v1, v2, v3, v4, v5, v6, v7, v8, rfl, hbB, hR, hC, o0, o1, o2, o3, o4, o5, o6, o7, o8⟩ := hrow.open9 hlt
     have hbw : Below B w wr := gr_below hg hfm.1 hB
     obtain ⟨d0, d1, d2, d3, d4, d5, d6, d7, d8⟩ := (hC.below hbw hbB).get9
     obtain ⟨y3, y4, y5, y6, y7, y8, hcs, -, -, hl5, hl6, -, -⟩ := RI_iff.1 hR
     simp only [List.cons.injEq, and_true] at hcs
     obtain ⟨rfl, rfl, rfl, rfl, rfl, rfl, rfl, rfl, rfl⟩ := hcs
     have IHk := hide (HIH.out l[k] (List.getElem_mem hlt))
     have HL5 := hide (hl5.keepI hbw)
     have HL6 := hide (hl6.keepI hbw)
     have TD := hide (fun hd => TOK_decl hlt hd htk)
     have TI := hide (fun h8 => TOK_if hlt h8 htk)
     have TR := hide (fun hd h8 => TOK_rest hlt hd h8 htk)
     have TN := hide (tn_step hlt)
     have TE := hide (tnI_eq l[k])
     have PRE := hide (fun (hno : ¬ TOK (inC (f :: r)) (l.take (k + 1))) => (fun (h : TOK (inC (f :: r)) l) => hno (TOK_pre h) : ¬ TOK (inC (f :: r)) l))
     have HS9 := hide hs
     have HG9 := hide hg
     clear hR hC hrow hl5 hl6 htk hs hg HIH HS hst0
     have hBr : B ≤ wr.heap.size := Nat.le_trans hB HG9.out.size
     generalize l[k] = x at *
     obtain ⟨Wb, Wc, hVb, ⟨m0, m1, m2, m3, m4, m5, m6, m7, m8⟩, ⟨n0, n1, n2, n3, n4, n5, n6, n7, n8⟩, hVc, hbc, hxc, hzc⟩ := varI wr (.int .i64 x.op) (.string x.name) (.string x.of) v3 v4 v5 v6 v7 v8
     obtain ⟨ec, hec⟩ := Later.mk_ex (Ext.refl Wc)
     replace hVc := hVc.trans hec
     obtain ⟨c0, c1, c2, c3, c4, c5, c6, c7, c8⟩ := hbc.later9
     have HXC := hide (hxc.trans ec.ext)
     have HSC := hide (HS9.out.ext (hxc.trans ec.ext))
     clear hbc hxc hzc hbw hec
     by_cases hd : isDecl x.op
     · have td := hide (TD.out hd)
       have tn := hide (TN.out.trans (by rw [TE.out, if_pos hd]))
       clear TD TI TR TN TE IHk HL5 HL6
       unfold isDecl at hd
       rcases hd with h | h | h | h | h | h
       · have hop : x.op = 1 := h
         have e1 : (x.op == 1) = true := by rw [hop]; rfl
         clear h
         generalize x.op = op at *
         subst hop
         go_wp2_with fail
         refine (tell_any ec.w _ r p x.name HSC.out).mono ?_
         rintro e w1 (⟨hn, rfl, hs1, hg1⟩ | ⟨hc, rfl, rfl⟩)
         · have hiff : ∀ s, (f.N s ∨ s ∈ tnIs (l.take k)) ∨ s = x.name ↔ f.N s ∨ s ∈ tnIs (l.take (k + 1)) := fun s => by rw [tn.out, List.mem_append, List.mem_singleton, or_assoc]
           have TK := hide (td.out.2 (fun hc => hn (inC_cons.2 (by
             rcases hc with hc | hc
             · rcases inC_cons.1 hc with hc | hc
               · exact .inl (.inl hc)
               · exact .inr hc
             · exact .inl (.inr hc)))))
           have R1 := hide (hs1.congr hiff)
           have R2 := hide (gr_trans (gr_trans HG9.out (gr_none HXC.out)) hg1)
           clear hn hs1 hg1 hiff
           go_wp2_with fail
           go_roundw
           case rel => exact ⟨k + 1, by omega, by go_num, R1.out, R2.out, TK.out⟩
           case measure => simp [intOf]; omega
         · have NO := hide (PRE.out (fun hk2 => td.out.1 hk2 (by
             rcases inC_cons.1 hc with (hc | hc) | hc
             · exact .inl (inC_cons.2 (.inl hc))
             · exact .inr hc
             · exact .inl (inC_cons.2 (.inr hc)))))
           have R2 := hide (gr_trans HG9.out (gr_none HXC.out))
           clear hc
           go_wp2_with fail
           exact ⟨rfl, .inr ⟨NO.out, rfl, R2.out⟩⟩
       · have hop : x.op = 2 := h
         have e1 : (x.op == 1) = false := by rw [hop]; rfl
         have e2 : (x.op == 2) = true := by rw [hop]; rfl
         clear h
         generalize x.op = op at *
         subst hop
         go_wp2_with fail
         refine (tell_any ec.w _ r p x.name HSC.out).mono ?_
         rintro e w1 (⟨hn, rfl, hs1, hg1⟩ | ⟨hc, rfl, rfl⟩)
         · have hiff : ∀ s, (f.N s ∨ s ∈ tnIs (l.take k)) ∨ s = x.name ↔ f.N s ∨ s ∈ tnIs (l.take (k + 1)) := fun s => by rw [tn.out, List.mem_append, List.mem_singleton, or_assoc]
           have TK := hide (td.out.2 (fun hc => hn (inC_cons.2 (by
             rcases hc with hc | hc
             · rcases inC_cons.1 hc with hc | hc
               · exact .inl (.inl hc)
               · exact .inr hc
             · exact .inl (.inr hc)))))
           have R1 := hide (hs1.congr hiff)
           have R2 := hide (gr_trans (gr_trans HG9.out (gr_none HXC.out)) hg1)
           clear hn hs1 hg1 hiff
           go_wp2_with fail
           go_roundw
           case rel => exact ⟨k + 1, by omega, by go_num, R1.out, R2.out, TK.out⟩
           case measure => simp [intOf]; omega
         · have NO := hide (PRE.out (fun hk2 => td.out.1 hk2 (by
             rcases inC_cons.1 hc with (hc | hc) | hc
             · exact .inl (inC_cons.2 (.inl hc))
             · exact .inr hc
             · exact .inl (inC_cons.2 (.inr hc)))))
           have R2 := hide (gr_trans HG9.out (gr_none HXC.out))
           clear hc
           go_wp2_with fail
           exact ⟨rfl, .inr ⟨NO.out, rfl, R2.out⟩⟩
       · have hop : x.op = 3 := h
         have e1 : (x.op == 1) = false := by rw [hop]; rfl
         have e2 : (x.op == 2) = false := by rw [hop]; rfl
         have e3 : (x.op == 3) = true := by rw [hop]; rfl
         clear h
         generalize x.op = op at *
         subst hop
         go_wp2_with fail
         refine (tell_any ec.w _ r p x.name HSC.out).mono ?_
         rintro e w1 (⟨hn, rfl, hs1, hg1⟩ | ⟨hc, rfl, rfl⟩)
         · have hiff : ∀ s, (f.N s ∨ s ∈ tnIs (l.take k)) ∨ s = x.name ↔ f.N s ∨ s ∈ tnIs (l.take (k + 1)) := fun s => by rw [tn.out, List.mem_append, List.mem_singleton, or_assoc]
           have TK := hide (td.out.2 (fun hc => hn (inC_cons.2 (by
             rcases hc with hc | hc
             · rcases inC_cons.1 hc with hc | hc
               · exact .inl (.inl hc)
               · exact .inr hc
             · exact .inl (.inr hc)))))
           have R1 := hide (hs1.congr hiff)
           have R2 := hide (gr_trans (gr_trans HG9.out (gr_none HXC.out)) hg1)
           clear hn hs1 hg1 hiff
           go_wp2_with fail
           go_roundw
           case rel => exact ⟨k + 1, by omega, by go_num, R1.out, R2.out, TK.out⟩
           case measure => simp [intOf]; omega
         · have NO := hide (PRE.out (fun hk2 => td.out.1 hk2 (by
             rcases inC_cons.1 hc with (hc | hc) | hc
             · exact .inl (inC_cons.2 (.inl hc))
             · exact .inr hc
             · exact .inl (inC_cons.2 (.inr hc)))))
           have R2 := hide (gr_trans HG9.out (gr_none HXC.out))
           clear hc
           go_wp2_with fail
           exact ⟨rfl, .inr ⟨NO.out, rfl, R2.out⟩⟩
       · have hop : x.op = 7 := h
         have e1 : (x.op == 1) = false := by rw [hop]; rfl
         have e2 : (x.op == 2) = false := by rw [hop]; rfl
         have e3 : (x.op == 3) = false := by rw [hop]; rfl
         have e7 : (x.op == 7) = true := by rw [hop]; rfl
         clear h
         generalize x.op = op at *
         subst hop
         go_wp2_with fail
         refine (tell_any ec.w _ r p x.name HSC.out).mono ?_
         rintro e w1 (⟨hn, rfl, hs1, hg1⟩ | ⟨hc, rfl, rfl⟩)
         · have hiff : ∀ s, (f.N s ∨ s ∈ tnIs (l.take k)) ∨ s = x.name ↔ f.N s ∨ s ∈ tnIs (l.take (k + 1)) := fun s => by rw [tn.out, List.mem_append, List.mem_singleton, or_assoc]
           have TK := hide (td.out.2 (fun hc => hn (inC_cons.2 (by
             rcases hc with hc | hc
             · rcases inC_cons.1 hc with hc | hc
               · exact .inl (.inl hc)
               · exact .inr hc
             · exact .inl (.inr hc)))))
           have R1 := hide (hs1.congr hiff)
           have R2 := hide (gr_trans (gr_trans HG9.out (gr_none HXC.out)) hg1)
           clear hn hs1 hg1 hiff
           go_wp2_with fail
           go_roundw
           case rel => exact ⟨k + 1, by omega, by go_num, R1.out, R2.out, TK.out⟩
           case measure => simp [intOf]; omega
         · have NO := hide (PRE.out (fun hk2 => td.out.1 hk2 (by
             rcases inC_cons.1 hc with (hc | hc) | hc
             · exact .inl (inC_cons.2 (.inl hc))
             · exact .inr hc
             · exact .inl (inC_cons.2 (.inr hc)))))
           have R2 := hide (gr_trans HG9.out (gr_none HXC.out))
           clear hc
           go_wp2_with fail
           exact ⟨rfl, .inr ⟨NO.out, rfl, R2.out⟩⟩
       · have hop : x.op = 10 := h
         have e1 : (x.op == 1) = false := by rw [hop]; rfl
         have e2 : (x.op == 2) = false := by rw [hop]; rfl
         have e3 : (x.op == 3) = false := by rw [hop]; rfl
         have e7 : (x.op == 7) = false := by rw [hop]; rfl
         have e10 : (x.op == 10) = true := by rw [hop]; rfl
         clear h
         generalize x.op = op at *
         subst hop
         go_wp2_with fail
         refine (tell_any ec.w _ r p x.name HSC.out).mono ?_
         rintro e w1 (⟨hn, rfl, hs1, hg1⟩ | ⟨hc, rfl, rfl⟩)
         · have hiff : ∀ s, (f.N s ∨ s ∈ tnIs (l.take k)) ∨ s = x.name ↔ f.N s ∨ s ∈ tnIs (l.take (k + 1)) := fun s => by rw [tn.out, List.mem_append, List.mem_singleton, or_assoc]
           have TK := hide (td.out.2 (fun hc => hn (inC_cons.2 (by
             rcases hc with hc | hc
             · rcases inC_cons.1 hc with hc | hc
               · exact .inl (.inl hc)
               · exact .inr hc
             · exact .inl (.inr hc)))))
           have R1 := hide (hs1.congr hiff)
           have R2 := hide (gr_trans (gr_trans HG9.out (gr_none HXC.out)) hg1)
           clear hn hs1 hg1 hiff
           go_wp2_with fail
           go_roundw
           case rel => exact ⟨k + 1, by omega, by go_num, R1.out, R2.out, TK.out⟩
           case measure => simp [intOf]; omega
         · have NO := hide (PRE.out (fun hk2 => td.out.1 hk2 (by
             rcases inC_cons.1 hc with (hc | hc) | hc
             · exact .inl (inC_cons.2 (.inl hc))
             · exact .inr hc
             · exact .inl (inC_cons.2 (.inr hc)))))
           have R2 := hide (gr_trans HG9.out (gr_none HXC.out))
           clear hc
           go_wp2_with fail
           exact ⟨rfl, .inr ⟨NO.out, rfl, R2.out⟩⟩
       · have hop : x.op = 9 := h
         have e1 : (x.op == 1) = false := by rw [hop]; rfl
         have e2 : (x.op == 2) = false := by rw [hop]; rfl
         have e3 : (x.op == 3) = false := by rw [hop]; rfl
         have e7 : (x.op == 7) = false := by rw [hop]; rfl
         have e10 : (x.op == 10) = false := by rw [hop]; rfl
         have e9 : (x.op == 9) = true := by rw [hop]; rfl
         clear h
         generalize x.op = op at *
         subst hop
         go_wp2_with fail
         refine (tell_any ec.w _ r p x.name HSC.out).mono ?_
         rintro e w1 (⟨hn, rfl, hs1, hg1⟩ | ⟨hc, rfl, rfl⟩)
         · have hiff : ∀ s, (f.N s ∨ s ∈ tnIs (l.take k)) ∨ s = x.name ↔ f.N s ∨ s ∈ tnIs (l.take (k + 1)) := fun s => by rw [tn.out, List.mem_append, List.mem_singleton, or_assoc]
           have TK := hide (td.out.2 (fun hc => hn (inC_cons.2 (by
             rcases hc with hc | hc
             · rcases inC_cons.1 hc with hc | hc
               · exact .inl (.inl hc)
               · exact .inr hc
             · exact .inl (.inr hc)))))
           have R1 := hide (hs1.congr hiff)
           have R2 := hide (gr_trans (gr_trans HG9.out (gr_none HXC.out)) hg1)
           clear hn hs1 hg1 hiff
           go_wp2_with fail
           go_roundw
           case rel => exact ⟨k + 1, by omega, by go_num, R1.out, R2.out, TK.out⟩
           case measure => simp [intOf]; omega
         · have NO := hide (PRE.out (fun hk2 => td.out.1 hk2 (by
             rcases inC_cons.1 hc with (hc | hc) | hc
             · exact .inl (inC_cons.2 (.inl hc))
             · exact .inr hc
             · exact .inl (inC_cons.2 (.inr hc)))))
           have R2 := hide (gr_trans HG9.out (gr_none HXC.out))
           clear hc
           go_wp2_with fail
           exact ⟨rfl, .inr ⟨NO.out, rfl, R2.out⟩⟩
     · by_cases h8 : x.op = 8
       · have ti := hide (TI.out h8)
         have tn := hide (TN.out.trans (by rw [TE.out, if_neg hd, if_pos h8]))
         unfold isDecl at hd
         have e1 : (x.op == 1) = false := by simp; omega
         have e2 : (x.op == 2) = false := by simp; omega
         have e3 : (x.op == 3) = false := by simp; omega
         have e7 : (x.op == 7) = false := by simp; omega
         have e10 : (x.op == 10) = false := by simp; omega
         have e9 : (x.op == 9) = false := by simp; omega
         have e8 : (x.op == 8) = true := by simpa using h8
         clear TD TI TR TN TE hd h8
         generalize x.op = op at *
         have HM2 := HMB
         go_wp2_with fail
         go_at_call 71
         refine (within_any ec.w p _ HSC.out (fun g hgm => by
           have h1 := HG9.out.size
           have h2 := HXC.out.size
           rcases List.mem_cons.1 hgm with rfl | hgm
           · have := hfm.2; show f.m < _; omega
           · have := (HMB.out g (List.mem_cons_of_mem _ hgm)).2; omega)).mono ?_
         rintro _ w1 ⟨b1, q1, rfl, hs1, hx1, hm1, hm1'⟩
         have hs1' : ScA w1 p ({ f with N := fun t => f.N t ∨ t ∈ tnIs (l.take k) } :: r) := HSC.out.ext hx1
         obtain ⟨e1, rfl⟩ := Later.mk_ex (ec.ext.trans hx1)
         have S1 := hide hs1
         have S1' := hide hs1'
         have X1 := hide hx1
         clear hs1 hs1' hx1
         go_wp2_with fail
         go_at_call 71
         refine (within_any e1.w p _ S1'.out (fun g hgm => by
           have h1 := HG9.out.size
           have h2 := HXC.out.size
           have h3 := X1.out.size
           rcases List.mem_cons.1 hgm with rfl | hgm
           · have := hfm.2; show f.m < _; omega
           · have := (HMB.out g (List.mem_cons_of_mem _ hgm)).2; omega)).mono ?_
         rintro _ w2 ⟨b2, q2, rfl, hs2, hx2, hm2, hm2'⟩
         obtain ⟨e2, rfl⟩ := Later.mk_ex (e1.ext.trans hx2)
         have hX2 : Ext wr e2.w := (HXC.out.trans X1.out).trans hx2
         have hb2 : Below B wr e2.w := (Below.refl B wr).trans (hX2.mono hBr)
         have S2 := hide hs2
         have S1b := hide (S1.out.ext hx2)
         have hszA := hX2.size
         have hszB := hx2.size
         have HX2 := hide hX2
         have HB2 := hide hb2
         have hrc : wr.heap.size ≤ ec.w.heap.size := HXC.out.size
         have hwc : Wc.heap.size ≤ ec.w.heap.size := ec.ext.size
         have hbig : ∀ g, g ∈ ({ f with N := fun t => f.N t ∨ t ∈ tnIs (l.take k) } : Scp) :: r → B ≤ g.m ∧ g.m < wr.heap.size := fun g hgm => by
           have h1 := HG9.out.size
           rcases List.mem_cons.1 hgm with rfl | hgm
           · exact ⟨hfm.1, by show f.m < _; have := hfm.2; omega⟩
           · have := HMB.out g (List.mem_cons_of_mem _ hgm); exact ⟨this.1, by omega⟩
         have HBIG := hide hbig
         clear hs2 hx2 hX2 hb2 hbig
         go_wp2_with fail
         go_at_call 73
         refine (IHk.out.1 e2.w v5 ⟨b1, q1, fun _ => False⟩ _ _ S1b.out (HL5.out.keepI HB2.out) (Nat.le_trans hBr HX2.out.size) (fun g hgm => by
           rcases List.mem_cons.1 hgm with rfl | hgm
           · exact ⟨by show B ≤ q1; omega, by show q1 < _; omega⟩
           · have := HBIG.out g hgm; exact ⟨this.1, by omega⟩)).mono ?_
         rintro _ w3 (⟨hok3, rfl, hs3, hg3⟩ | ⟨hno3, rfl, hg3⟩) <;> replace hg3 : e2.w.grownBy w3 (some q1) := hg3
         rotate_left
         · have NO := hide (PRE.out (fun hk2 => hno3 (by
             have h := (ti.out.1 hk2).1
             refine ⟨h.1, h.2.1, fun s hs hc => h.2.2 s hs ?_⟩
             rcases inC_cons.1 hc with hc | hc
             · exact hc.elim
             · rcases inC_cons.1 hc with (hc | hc) | hc
               · exact .inl (inC_cons.2 (.inl hc))
               · exact .inr hc
               · exact .inl (inC_cons.2 (.inr hc)))))
           have R2 := hide (gr_trans HG9.out (gr_none (gr_new HX2.out hg3 (by omega))))
           clear hno3 hg3
           go_wp2_with fail
           exact ⟨rfl, .inr ⟨NO.out, rfl, R2.out⟩⟩
         have hg3' := hg3
         have hx3 : Ext wr w3 := gr_new HX2.out hg3 (by omega)
         have hx3c : Ext Wc w3 := gr_new e2.ext hg3 (by omega)
         obtain ⟨e3, rfl⟩ := Later.mk_ex hx3c
         have hb3 : Below B wr e3.w := (Below.refl B wr).trans (hx3.mono hBr)
         have hs2b := S2.out.kept hg3 (fun i hi => by
           cases hi
           refine ⟨fun g hgm => ?_, map_no_cell S1b.out.2.2.1⟩
           rcases List.mem_cons.1 hgm with rfl | hgm
           · show q2 ≠ q1; omega
           · have := HBIG.out g hgm; omega)
         have S3 := hide hs3
         have S2b := hide hs2b
         have HX3 := hide hx3
         have HB3 := hide hb3
         have OK3 := hide hok3
         have hsz3 := hg3.size
         clear hs3 hs2b hx3 hb3 hx3c hg3 hok3 hg3'
         go_wp2_with fail
         go_at_call 73
         refine (IHk.out.2 e3.w v6 ⟨b2, q2, fun _ => False⟩ _ _ S2b.out (HL6.out.keepI HB3.out) (Nat.le_trans hBr HX3.out.size) (fun g hgm => by
           rcases List.mem_cons.1 hgm with rfl | hgm
           · exact ⟨by show B ≤ q2; omega, by show q2 < _; omega⟩
           · have := HBIG.out g hgm; exact ⟨this.1, by omega⟩)).mono ?_
         rintro _ w4 (⟨hok4, rfl, hs4, hg4⟩ | ⟨hno4, rfl, hg4⟩) <;> replace hg4 : e3.w.grownBy w4 (some q2) := hg4
         rotate_left
         · have NO := hide (PRE.out (fun hk2 => hno4 (by
             have h := (ti.out.1 hk2).2
             refine ⟨h.1, h.2.1, fun s hs hc => h.2.2 s hs ?_⟩
             rcases inC_cons.1 hc with hc | hc
             · exact hc.elim
             · rcases inC_cons.1 hc with (hc | hc) | hc
               · exact .inl (inC_cons.2 (.inl hc))
               · exact .inr hc
               · exact .inl (inC_cons.2 (.inr hc)))))
           have R2 := hide (gr_trans HG9.out (gr_none (gr_new HX3.out hg4 (by omega))))
           clear hno4 hg4
           go_wp2_with fail
           exact ⟨rfl, .inr ⟨NO.out, rfl, R2.out⟩⟩
         have OK := hide (ti.out.2 ⟨by
             obtain ⟨h1, h2, h3⟩ := OK3.out
             refine ⟨h1, h2, fun s hs hc => h3 s hs (inC_cons.2 (.inr ?_))⟩
             rcases hc with hc | hc
             · rcases inC_cons.1 hc with hc | hc
               · exact inC_cons.2 (.inl (.inl hc))
               · exact inC_cons.2 (.inr hc)
             · exact inC_cons.2 (.inl (.inr hc)), by
             obtain ⟨h1, h2, h3⟩ := hok4
             refine ⟨h1, h2, fun s hs hc => h3 s hs (inC_cons.2 (.inr ?_))⟩
             rcases hc with hc | hc
             · rcases inC_cons.1 hc with hc | hc
               · exact inC_cons.2 (.inl (.inl hc))
               · exact inC_cons.2 (.inr hc)
             · exact inC_cons.2 (.inl (.inr hc))⟩)
         have hx4 : Ext wr w4 := gr_new HX3.out hg4 (by omega)
         have hx4c : Ext Wc w4 := gr_new e3.ext hg4 (by omega)
         obtain ⟨e4, rfl⟩ := Later.mk_ex hx4c
         have hsz4e := hx4.size
         have hs3b := S3.out.kept hg4 (fun i hi => by
           cases hi
           refine ⟨fun g hgm => ?_, map_no_cell S2b.out.2.2.1⟩
           rcases List.mem_cons.1 hgm with rfl | hgm
           · show q1 ≠ q2; omega
           · have := HBIG.out g hgm; omega)
         have hsz4 := hg4.size
         obtain ⟨W5, hW5⟩ : ∃ W5, W5 = e4.w.alloc (.cells #[.pointer (some ⟨b1, 0, none⟩), .pointer (some ⟨b2, 0, none⟩)] 95) := ⟨_, rfl⟩
         have hx5 : Ext e4.w W5 := by rw [hW5]; exact Ext.new _ _
         have hb5 : Blk W5 e4.w.heap.size 95 [.pointer (some ⟨b1, 0, none⟩), .pointer (some ⟨b2, 0, none⟩)] := by rw [hW5]; exact Blk.new _ _ [_, _]
         have hz5 : W5.heap.size = e4.w.heap.size + 1 := by rw [hW5]; simp
         have hV5 := hW5.symm
         obtain ⟨-, t11, t12, -, t14, t15, t16, t17⟩ := hs3b.ext hx5
         replace t11 : b1 < W5.heap.size := t11
         replace t12 : SetB W5 q1 (fun t => False ∨ t ∈ tnIs x.l) := t12
         replace t16 : W5.cell? ⟨b1, 1, none⟩ = some (.map (some q1)) := t16
         obtain ⟨-, t21, t22, -, t24, t25, t26, t27⟩ := hs4.ext hx5
         replace t21 : b2 < W5.heap.size := t21
         replace t22 : SetB W5 q2 (fun t => False ∨ t ∈ tnIs x.els) := t22
         replace t26 : W5.cell? ⟨b2, 1, none⟩ = some (.map (some q2)) := t26
         have hxw5 : Ext wr W5 := hx4.trans hx5
         have SW5 := hide (show ScA W5 p ({ f with N := fun t => f.N t ∨ t ∈ tnIs (l.take k) } :: r) from HS9.out.ext hxw5)
         have HX5 := hide hxw5
         simp only [false_or] at t12 t22
         have T12 := hide t12
         have T22 := hide t22
         have hnb1 : b1 ≠ f.m := fun e => by
           obtain ⟨q, h4, -⟩ := S1b.out.2.2.2.2
           have hm := (HS9.out.ext HX2.out).2.2.1
           rw [e] at h4
           exact map_no_cell hm _ h4
         have hge1 : wr.heap.size ≤ q1 := by omega
         have hge2 : wr.heap.size ≤ q2 := by omega
         have hfw : f.m < wr.heap.size := (HBIG.out _ (List.mem_cons_self ..)).2
         have hq1 : q1 < W5.heap.size := by omega
         have hq2 : q2 < W5.heap.size := by omega
         have hnb2 : b2 ≠ f.m := fun e => by
           obtain ⟨q, h4, -⟩ := S2.out.2.2.2.2
           have hm := (HS9.out.ext HX2.out).2.2.1
           rw [e] at h4
           exact map_no_cell hm _ h4
         obtain ⟨W5', hW5'⟩ : ∃ W5', W5' = W5 := ⟨_, rfl⟩
         have CL5 := hide hb5
         have R1 := hide (And.intro t11 t16)
         have R2 := hide (And.intro t21 t26)
         clear hs4 hg4 hok4 hx4 hx4c hs3b hx5 hW5 hb5 t11 t12 t14 t15 t16 t17 t21 t22 t24 t25 t26 t27 hxw5 S1 S1' S2 S1b S2b S3 OK3 IHk HL5 HL6 HB2 HB3 HX2 HX3 X1 hszA hszB hsz3 hsz4 hm1 hm1' hm2 hm2'
         obtain ⟨wo, hwo⟩ : ∃ wo, wo = wr := ⟨_, rfl⟩
         subst hwo
         go_wp2_with fail
         go_loopw [51] (fun j wy => ∃ q : Nat, q ≤ 2 ∧ j = .int .i64 q ∧ ScA wy p ({ f with N := fun t => (f.N t ∨ t ∈ tnIs (l.take k)) ∨ 1 ≤ q ∧ t ∈ tnIs x.l ∨ 2 ≤ q ∧ t ∈ tnIs x.els } :: r) ∧ W5.grownBy wy (some f.m)) (fun j _ => 2 - (intOf j).toNat)
         case atStart => exact ⟨0, by omega, rfl, SW5.out.congr (fun s => by simp), gr_none (Ext.refl W5)⟩
         case round =>
           obtain ⟨wy, hwy⟩ : ∃ wy, wy = wr := ⟨_, rfl⟩
           subst hwy
           obtain ⟨q, hq, rfl, hsy, hgy⟩ := hrel
           have hcb : ∀ i, wy.cell? ⟨e4.w.heap.size, i, none⟩ = W5.cell? ⟨e4.w.heap.size, i, none⟩ := fun i => World.cell?_of_block (hgy.block _ CL5.out.lt (fun e => by have e2 : e4.w.heap.size = f.m := Option.some.inj e; omega))
           obtain ⟨p0, p1⟩ := CL5.out.get2
           rw [← hcb] at p0 p1
           rcases (show q = 0 ∨ q = 1 ∨ q = 2 by omega) with rfl | rfl | rfl
           · have hcs : wy.cell? ⟨b1, 1, none⟩ = some (.map (some q1)) := (World.cell?_of_block (hgy.block _ R1.out.1 (fun e => by injection e with e; exact hnb1 e))).trans R1.out.2
             have hst : SetB wy q1 (fun t => t ∈ tnIs x.l) := T12.out.kept hgy (fun e => by injection e with e; omega)
             obtain ⟨o9, k9, hrun, hrg⟩ := hst.range hTa
             have hse : ScA (wy.alloc o9) p ({ f with N := fun t => ((f.N t ∨ t ∈ tnIs (l.take k)) ∨ 1 ≤ 0 ∧ t ∈ tnIs x.l ∨ 2 ≤ 0 ∧ t ∈ tnIs x.els) ∨ False } :: r) := (hsy.ext (Ext.new _ _)).congr (fun s => by simp)
             have RG := hide hrg
             have SE := hide hse
             have GY := hide hgy
             have hszy := hgy.size
             clear hst hrg hse hsy hgy hcb
             go_wp2_with fail
             go_loopw [11] (fun u wz => ∃ (D : ByteArray → Prop) (kk : Nat), RangeB wz wy.heap.size q1 (fun t => t ∈ tnIs x.l) D kk ∧ ScA wz p ({ f with N := fun t => ((f.N t ∨ t ∈ tnIs (l.take k)) ∨ 1 ≤ 0 ∧ t ∈ tnIs x.l ∨ 2 ≤ 0 ∧ t ∈ tnIs x.els) ∨ D t } :: r) ∧ wy.grownBy wz (some f.m)) (fun u wz => rangeLeft wz wy.heap.size)
             case atStart => exact ⟨_, k9, RG.out, SE.out, gr_none (Ext.new _ _)⟩
             case round =>
               obtain ⟨wz, hwz⟩ : ∃ wz, wz = wr := ⟨_, rfl⟩
               subst hwz
               obtain ⟨D, kk, hrz, hsz, hgz⟩ := hrel
               rcases hrz.next (P := Tryz.prog) 0 with ⟨hnx, hall⟩ | ⟨s, wn, hNs, hpos, hnx, hrn, hgn, hent⟩
               · have DS : ∀ t, D t → t ∈ tnIs x.l := fun t ht => by
                   obtain ⟨es, clock, since, seen, c0, -, -, -, -, h3, -, -, -, -, h7⟩ := hrz
                   obtain ⟨e, he, -, hk9⟩ := (h7 t).2 ht
                   exact (h3 t).1 ⟨e, he, hk9⟩
                 have F1 := hide (hsz.congr (N' := fun t => (f.N t ∨ t ∈ tnIs (l.take k)) ∨ 1 ≤ 1 ∧ t ∈ tnIs x.l ∨ 2 ≤ 1 ∧ t ∈ tnIs x.els) (fun t => by
                   have h1 := hall t
                   have h2 := DS t
                   constructor
                   · rintro (h | h)
                     · exact h.elim .inl (fun h => h.elim (fun h => absurd h.1 (by omega)) (fun h => absurd h.1 (by omega)))
                     · exact .inr (.inl ⟨by omega, h2 h⟩)
                   · rintro (h | h | h)
                     · exact .inl (.inl h)
                     · exact .inr (h1 h.2)
                     · exact absurd h.1 (by omega)))
                 have F2 := hide (gr_trans GY.out hgz)
                 clear hrz hsz hgz hall DS
                 go_wp2_with fail
                 go_roundw
                 case rel => exact ⟨1, by omega, by go_num, F1.out, F2.out⟩
                 case measure => simp [intOf]
               · have hlz := rangeLeft_eq hrz
                 have hln9 := rangeLeft_eq hrn
                 have hsn := hsz.kept hgn (fun i hi => by
                   cases hi
                   refine ⟨fun g hgm => ?_, fun v hv => ?_⟩
                   · have h2 : g.m < wo.heap.size := by
                       rcases List.mem_cons.1 hgm with rfl | hgm
                       · exact hfw
                       · exact (HBIG.out g (List.mem_cons_of_mem _ hgm)).2
                     have := HX5.out.size
                     omega
                   · obtain ⟨es, clock, since, seen, c0, hr9, -⟩ := hrz
                     simp [World.cell?, hr9] at hv)
                 obtain ⟨hsn1, hsn2, hsn3, hsn4, qn, hsn5, hsn6, hsn7⟩ := id hsn
                 obtain ⟨o8, hup, hset⟩ := hsn3.add hTa Tryz.underlying9 s
                 have hgu := setO_grown wn f.m o8
                 have F0 := hide (hrn.kept hgu (fun e => by injection e with e; omega) (fun e => by injection e with e; have := HX5.out.size; omega))
                 have F1 := hide ((hsn.more hgu hset).congr (N' := fun t => ((f.N t ∨ t ∈ tnIs (l.take k)) ∨ 1 ≤ 0 ∧ t ∈ tnIs x.l ∨ 2 ≤ 0 ∧ t ∈ tnIs x.els) ∨ D t ∨ t = s) (fun t => or_assoc))
                 have F2 := hide (gr_trans (gr_beyond hgz hgn (Nat.le_refl _)) hgu)
                 have F3 := hide (rangeLeft_eq F0.out)
                 obtain rfl : p = some ⟨f.b, 0, none⟩ := hsn1
                 clear hrz hsz hgz hrn hgn hsn hsn2 hsn3 hsn4 hsn7 hset hgu
                 go_wp2_with fail
                 go_roundw
                 case rel => exact ⟨_, kk - 1, F0.out, F1.out, F2.out⟩
                 case measure => rw [F3.out, hlz]; omega
           · have hcs : wy.cell? ⟨b2, 1, none⟩ = some (.map (some q2)) := (World.cell?_of_block (hgy.block _ R2.out.1 (fun e => by injection e with e; exact hnb2 e))).trans R2.out.2
             have hst : SetB wy q2 (fun t => t ∈ tnIs x.els) := T22.out.kept hgy (fun e => by injection e with e; omega)
             obtain ⟨o9, k9, hrun, hrg⟩ := hst.range hTa
             have hse : ScA (wy.alloc o9) p ({ f with N := fun t => ((f.N t ∨ t ∈ tnIs (l.take k)) ∨ 1 ≤ 1 ∧ t ∈ tnIs x.l ∨ 2 ≤ 1 ∧ t ∈ tnIs x.els) ∨ False } :: r) := (hsy.ext (Ext.new _ _)).congr (fun s => by simp)
             have RG := hide hrg
             have SE := hide hse
             have GY := hide hgy
             have hszy := hgy.size
             clear hst hrg hse hsy hgy hcb
             go_wp2_with fail
             go_loopw [11] (fun u wz => ∃ (D : ByteArray → Prop) (kk : Nat), RangeB wz wy.heap.size q2 (fun t => t ∈ tnIs x.els) D kk ∧ ScA wz p ({ f with N := fun t => ((f.N t ∨ t ∈ tnIs (l.take k)) ∨ 1 ≤ 1 ∧ t ∈ tnIs x.l ∨ 2 ≤ 1 ∧ t ∈ tnIs x.els) ∨ D t } :: r) ∧ wy.grownBy wz (some f.m)) (fun u wz => rangeLeft wz wy.heap.size)
             case atStart => exact ⟨_, k9, RG.out, SE.out, gr_none (Ext.new _ _)⟩
             case round =>
               obtain ⟨wz, hwz⟩ : ∃ wz, wz = wr := ⟨_, rfl⟩
               subst hwz
               obtain ⟨D, kk, hrz, hsz, hgz⟩ := hrel
               rcases hrz.next (P := Tryz.prog) 0 with ⟨hnx, hall⟩ | ⟨s, wn, hNs, hpos, hnx, hrn, hgn, hent⟩
               · have DS : ∀ t, D t → t ∈ tnIs x.els := fun t ht => by
                   obtain ⟨es, clock, since, seen, c0, -, -, -, -, h3, -, -, -, -, h7⟩ := hrz
                   obtain ⟨e, he, -, hk9⟩ := (h7 t).2 ht
                   exact (h3 t).1 ⟨e, he, hk9⟩
                 have F1 := hide (hsz.congr (N' := fun t => (f.N t ∨ t ∈ tnIs (l.take k)) ∨ 1 ≤ 2 ∧ t ∈ tnIs x.l ∨ 2 ≤ 2 ∧ t ∈ tnIs x.els) (fun t => by
                   have h1 := hall t
                   have h2 := DS t
                   constructor
                   · rintro (h | h)
                     · exact h.elim .inl (fun h => h.elim (fun h => .inr (.inl ⟨by omega, h.2⟩)) (fun h => absurd h.1 (by omega)))
                     · exact .inr (.inr ⟨by omega, h2 h⟩)
                   · rintro (h | h | h)
                     · exact .inl (.inl h)
                     · exact .inl (.inr (.inl ⟨by omega, h.2⟩))
                     · exact .inr (h1 h.2)))
                 have F2 := hide (gr_trans GY.out hgz)
                 clear hrz hsz hgz hall DS
                 go_wp2_with fail
                 go_roundw
                 case rel => exact ⟨2, by omega, by go_num, F1.out, F2.out⟩
                 case measure => simp [intOf]
               · have hlz := rangeLeft_eq hrz
                 have hln9 := rangeLeft_eq hrn
                 have hsn := hsz.kept hgn (fun i hi => by
                   cases hi
                   refine ⟨fun g hgm => ?_, fun v hv => ?_⟩
                   · have h2 : g.m < wo.heap.size := by
                       rcases List.mem_cons.1 hgm with rfl | hgm
                       · exact hfw
                       · exact (HBIG.out g (List.mem_cons_of_mem _ hgm)).2
                     have := HX5.out.size
                     omega
                   · obtain ⟨es, clock, since, seen, c0, hr9, -⟩ := hrz
                     simp [World.cell?, hr9] at hv)
                 obtain ⟨hsn1, hsn2, hsn3, hsn4, qn, hsn5, hsn6, hsn7⟩ := id hsn
                 obtain ⟨o8, hup, hset⟩ := hsn3.add hTa Tryz.underlying9 s
                 have hgu := setO_grown wn f.m o8
                 have F0 := hide (hrn.kept hgu (fun e => by injection e with e; omega) (fun e => by injection e with e; have := HX5.out.size; omega))
                 have F1 := hide ((hsn.more hgu hset).congr (N' := fun t => ((f.N t ∨ t ∈ tnIs (l.take k)) ∨ 1 ≤ 1 ∧ t ∈ tnIs x.l ∨ 2 ≤ 1 ∧ t ∈ tnIs x.els) ∨ D t ∨ t = s) (fun t => or_assoc))
                 have F2 := hide (gr_trans (gr_beyond hgz hgn (Nat.le_refl _)) hgu)
                 have F3 := hide (rangeLeft_eq F0.out)
                 obtain rfl : p = some ⟨f.b, 0, none⟩ := hsn1
                 clear hrz hsz hgz hrn hgn hsn hsn2 hsn3 hsn4 hsn7 hset hgu
                 go_wp2_with fail
                 go_roundw
                 case rel => exact ⟨_, kk - 1, F0.out, F1.out, F2.out⟩
                 case measure => rw [F3.out, hlz]; omega
           · have FINs := hide (hsy.congr (N' := fun t => f.N t ∨ t ∈ tnIs (l.take (k + 1))) (fun s => by
               rw [tn.out, List.mem_append, memA_all]
               simp [or_assoc]))
             have FINg := hide (gr_trans (gr_trans HG9.out (gr_none HX5.out)) hgy)
             clear hsy hgy hcb p0 p1
             go_wp2_with fail
             go_roundw
             case rel => exact ⟨k + 1, by omega, by go_num, FINs.out, FINg.out, OK.out⟩
             case measure => simp [intOf]; omega
       · obtain ⟨tk, tx⟩ := TR.out hd h8
         have tn := hide (TN.out.trans (by rw [tx, List.append_nil]))
         have TK := hide tk
         unfold isDecl at hd
         have e1 : (x.op == 1) = false := by simp; omega
         have e2 : (x.op == 2) = false := by simp; omega
         have e3 : (x.op == 3) = false := by simp; omega
         have e7 : (x.op == 7) = false := by simp; omega
         have e10 : (x.op == 10) = false := by simp; omega
         have e9 : (x.op == 9) = false := by simp; omega
         have e8 : (x.op == 8) = false := by simpa using h8
         clear TD TI TR TN TE hd h8 tk tx IHk HL5 HL6
         generalize x.op = op at *
         go_wp2_with fail
         go_roundw
         case rel => exact ⟨k + 1, by omega, by go_num, by rw [tn.out]; exact HSC.out, gr_trans HG9.out (gr_none HXC.out), TK.out⟩
         case measure => simp [intOf]; omega
   · have hkl : k = l.length := by omega
     subst hkl
     rw [List.take_length] at hs htk
     have FIN := hide (And.intro htk (And.intro hs hg))
     clear hs htk hg hst0
     go_wp2_with fail
     go_end0
     exact .inl ⟨FIN.out.1, rfl, FIN.out.2.1, FIN.out.2.2⟩
theorem toldN_any (B : Nat) : ∀ (n : Nat) (l : List Itm), msize sizeI l ≤ n → n ≤ 1000000000 → ToldOk B l := by
 intro n
 induction n with
 | zero =>
   intro l hl hn
   refine told_step B l (by have := length_le_msize sizeI l sizeI_pos; omega) fun x hx => ?_
   have := msize_mem sizeI l x hx
   have := sizeI_pos x
   omega
 | succ n ih =>
   intro l hl hn
   refine told_step B l (by have := length_le_msize sizeI l sizeI_pos; omega) fun x hx => ?_
   have h1 := msize_mem sizeI l x hx
   have h2 := sizeI_eq x
   exact ⟨ih x.l (by omega) (by omega), ih x.els (by omega) (by omega)⟩
end Go.Proofs.YtjoglnjpgkobeaaGreatDoor
