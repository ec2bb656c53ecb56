/-
  THE LAW AstModules: WHAT IT COMPUTES.
-/
import Derived.Laws.Bits128
import Derived.Test.YtmpoheemnjpoeaaDoorLivePk
import Derived.Test.YtmpoheemnjpoeaaDoorLawPPk
import Derived.Test.YtmpoheemnjpoeaaDoorAppPk
namespace Go.Proofs.YtmpoheemnjpoeaaDoor
open Go Go.RowKit
set_option linter.all false
set_option linter.unusedVariables false
set_option linter.unusedSimpArgs false
set_option linter.unusedVariables false
set_option linter.unusedSimpArgs false
attribute [local go_sem] run_store_one

theorem i64_and65535 (n : Int) : bits .and .i64 n 65535 = n % 65536 := by
  have h : (BitVec.ofInt 64 65535).toNat = 2 ^ 16 - 1 := by decide
  have key : (BitVec.ofInt 64 n &&& BitVec.ofInt 64 65535).toNat = (n % ((2 ^ 64 : Nat) : Int)).toNat % 2 ^ 16 := by
    rw [BitVec.toNat_and, BitVec.toNat_ofInt, h, Nat.and_two_pow_sub_one_eq_mod]
  show IntKind.i64.wrap ((BitVec.ofInt 64 n &&& BitVec.ofInt 64 65535).toNat : Nat) = n % 65536
  rw [key, IntKind.wrap_i64]
  omega
theorem run_max2n {P : Program} {w : World} (ts : Array TypeId) (t : TypeId) (a b : Nat) : (Builtin.max_ ts t #[.int .i64 a, .int .i64 b]).run P w = .ok (.int .i64 (max a b : Nat)) w := by
  have h2 : Builtin.max2 (.int .i64 a) (.int .i64 b) = pure (.int .i64 (max a b : Nat)) := by
    simp only [Builtin.max2]
    congr 2
    by_cases h : (b : Int) > a
    · rw [if_pos h]; omega
    · rw [if_neg h]; omega
  simp [Builtin.max_, h2]
attribute [local go_sem high] run_max2n

theorem Sl.sliced {α : Type} {R : α → List Value → Prop} {w : World} {B sz : Nat} {l : List α} {a : Option Addr} {cap lo hi : Nat} (h : Sl R w B sz l (.slice a l.length cap)) (h1 : lo ≤ hi) (h2 : hi ≤ l.length) :
    Sl R w B sz ((l.take hi).drop lo) (Go.sliced a lo hi cap sz) := by
  obtain ⟨a', cap', he, hc, hr⟩ := h
  obtain ⟨rfl, -, rfl⟩ := Value.slice.inj he
  refine ⟨_, cap - lo, by unfold Go.sliced; rw [List.length_drop, List.length_take, Nat.min_eq_left h2], by rw [List.length_drop, List.length_take]; omega, fun i hi => ?_⟩
  rw [List.length_drop, List.length_take, Nat.min_eq_left h2] at hi
  rw [List.getElem_drop, List.getElem_take]
  obtain ⟨b, o, cs, rfl, hb, hl, hC, h3, hR⟩ := hr (lo + i) (by omega)
  rw [if_neg (by omega)]
  exact ⟨b, o + lo * sz, cs, congrArg some (addr_add0 b o (lo * sz)), hb, hl, by rw [show o + lo * sz + i * sz = o + (lo + i) * sz by rw [Nat.add_mul]; omega]; exact hC, h3, hR⟩

theorem checkF_zero {l : List Mdl} : checkF l = 0 ↔ l.length ≤ 64 ∧ msize sizeM l ≤ 65536 ∧ mdeep deepM l ≤ 64 ∧ ∀ m, m ∈ l → MayM m := by
  unfold checkF
  by_cases h : 64 < l.length
  · rw [if_pos h]; constructor
    · intro h'; cases h'
    · rintro ⟨h1, -⟩; omega
  · rw [if_neg h, told_zero, yes_iff]
    constructor
    · rintro ⟨h1, h2, h3⟩; exact ⟨by omega, h1, h2, h3⟩
    · rintro ⟨h0, h1, h2, h3⟩; exact ⟨h1, h2, h3⟩
/-- A FILE MAY BE JUST IF BOTH PARTS MAY BE. -/
theorem parts_may (l : List Mdl) (k : Nat) (h : l.length ≤ 64) (hs : msize sizeM l ≤ 65536) : checkF l = 0 ↔ checkF (l.take k) = 0 ∧ checkF (l.drop k) = 0 := by
  have e1 := msize_append sizeM (l.take k) (l.drop k)
  have e2 := mdeep_append deepM (l.take k) (l.drop k)
  have e3 : ∀ m, m ∈ l ↔ m ∈ l.take k ∨ m ∈ l.drop k := fun m => by rw [← List.mem_append, List.take_append_drop]
  rw [List.take_append_drop] at e1 e2
  rw [checkF_zero, checkF_zero, checkF_zero, List.length_take, List.length_drop]
  constructor
  · rintro ⟨h0, h1, h2, h3⟩
    exact ⟨⟨by omega, by omega, by omega, fun m hm => h3 m ((e3 m).2 (.inl hm))⟩, by omega, by omega, by omega, fun m hm => h3 m ((e3 m).2 (.inr hm))⟩
  · rintro ⟨⟨h0, h1, h2, h3⟩, h4, h5, h6, h7⟩
    exact ⟨by omega, by omega, by omega, fun m hm => ((e3 m).1 hm).elim (h3 m) (h7 m)⟩

set_option maxRecDepth 20000 in
set_option maxHeartbeats 8000000 in
theorem lawModules_any (B : Nat) (f : List Mdl) (k : Int) (w : World) (vf : Value) (hT : Tabs w) (hB : B ≤ w.heap.size) (hf : Sl (RM w B) w B 4 f vf)
    (zf : msize sizeM f ≤ 1000000000) (Vf : ∀ m, m ∈ f → VM m) :
    Calls Tryd.prog 7 #[.agg #[vf], .int .i64 k] w fun e w' => e = .returned (.bool true) ∧ Ext w w' := by
  have HF := hide hf
  have HTab := hide hT
  obtain ⟨fa, cap, rfl, hcap, -⟩ := hf
  have hlen := length_le_msize sizeM f sizeM_pos
  have hK : ∃ m : Nat, m ≤ 65535 ∧ bits .and .i64 k 65535 = m := ⟨(k % 65536).toNat, by omega, by rw [i64_and65535]; omega⟩
  obtain ⟨m, hm, hkm⟩ := hK
  obtain ⟨at_, hat⟩ : ∃ at_, at_ = m % (f.length + 1) := ⟨_, rfl⟩
  have hatl : at_ ≤ f.length := by rw [hat]; exact Nat.le_of_lt_succ (Nat.mod_lt _ (Nat.succ_pos _))
  have hrem : Int.tmod (m : Int) ((f.length : Int) + 1) = (at_ : Int) := by rw [hat, Int.tmod_eq_emod_of_nonneg (by omega)]; push_cast; rfl
  have sz4 : ∀ w : World, (sizeOf (Tryd.prog.elem 39)).run Tryd.prog w = .ok 4 w := fun _ => by kernel_rfl
  have ut : Tryd.prog.underlying 39 = some (.slice (Tryd.prog.elem 39)) := by kernel_rfl
  obtain ⟨va, hva⟩ : ∃ va, va = Go.sliced fa 0 at_ cap 4 := ⟨_, rfl⟩
  obtain ⟨vb, hvb⟩ : ∃ vb, vb = Go.sliced fa at_ f.length cap 4 := ⟨_, rfl⟩
  have HA0 : ∀ w : World, (Instr.slice 39 (.slice fa f.length cap) none (some (.int .i64 at_)) none).run Tryd.prog w = .ok va w := fun w => by
    rw [run_slice_h (ht := ut) (h := (at_ : Int)) (h0 := by omega) (h2 := by omega), sz4, hva]; rfl
  have HB0 : ∀ w : World, (Instr.slice 39 (.slice fa f.length cap) (some (.int .i64 at_)) none none).run Tryd.prog w = .ok vb w := fun w => by
    rw [run_slice_l (ht := ut) (l := (at_ : Int)) (h0 := by omega) (h1 := by omega), sz4, hvb]; rfl
  have SA : Sl (RM w B) w B 4 (f.take at_) va := by have := HF.out.sliced (Nat.zero_le at_) hatl; rw [List.drop_zero] at this; rw [hva]; exact this
  have SB : Sl (RM w B) w B 4 (f.drop at_) vb := by have := HF.out.sliced hatl (Nat.le_refl _); rw [List.take_length] at this; rw [hvb]; exact this
  have oa := SA.oneCell
  have ob := SB.oneCell
  clear hva hvb sz4 ut
  obtain ⟨aa, capa, rfl, -, -⟩ := id SA
  obtain ⟨ab, capb, rfl, -, -⟩ := id SB
  have e1 := msize_append sizeM (f.take at_) (f.drop at_)
  have e2 := mdeep_append deepM (f.take at_) (f.drop at_)
  have e3 : ∀ m, m ∈ f.take at_ → m ∈ f := fun m hm => List.mem_of_mem_take hm
  have e4 : ∀ m, m ∈ f.drop at_ → m ∈ f := fun m hm => List.mem_of_mem_drop hm
  rw [List.take_append_drop] at e1 e2
  have hpm := parts_may f at_
  have za : msize sizeM (f.take at_) ≤ 1000000000 := by omega
  have zb : msize sizeM (f.drop at_) ≤ 1000000000 := by omega
  have hn : f.length ≤ 1000000000 := by omega
  obtain ⟨W1, x1, hV1, hx1, -, a0⟩ := boxL1 w (.slice fa f.length cap) 41
  have hB1 : B ≤ W1.heap.size := Nat.le_trans hB hx1.size
  have GL := hide (show ECalls Tryd.prog 11 #[] W1 (.bool true) from fun w' hw => live_any w' (HTab.out.ext (hx1.trans hw)))
  have GF := hide (show ECalls Tryd.prog 21 #[.agg #[.slice fa f.length cap]] W1 (.bool (yes (fewP (msize sizeM f) (mdeep deepM f)))) from fun w' hw => few_any B f w' _ (HF.out.extRM (hx1.trans hw) hB) (Nat.le_trans hB1 hw.size) zf)
  have CF := hide (show ECalls Tryd.prog 31 #[.agg #[.slice fa f.length cap]] W1 (.int .i64 (checkF f)) from fun w' hw => Check_any B f w' _ (HTab.out.ext (hx1.trans hw)) (HF.out.extRM (hx1.trans hw) hB) (Nat.le_trans hB1 hw.size) zf Vf)
  have CA := hide (show ECalls Tryd.prog 31 #[.agg #[.slice aa (f.take at_).length capa]] W1 (.int .i64 (checkF (f.take at_))) from fun w' hw => Check_any B _ w' _ (HTab.out.ext (hx1.trans hw)) (SA.extRM (hx1.trans hw) hB) (Nat.le_trans hB1 hw.size) za (fun m hm => Vf m (e3 m hm)))
  have CB := hide (show ECalls Tryd.prog 31 #[.agg #[.slice ab (f.drop at_).length capb]] W1 (.int .i64 (checkF (f.drop at_))) from fun w' hw => Check_any B _ w' _ (HTab.out.ext (hx1.trans hw)) (SB.extRM (hx1.trans hw) hB) (Nat.le_trans hB1 hw.size) zb (fun m hm => Vf m (e4 m hm)))
  have SF := hide (show ECalls Tryd.prog 29 #[.agg #[.slice fa f.length cap]] W1 (.int .i64 ((msize sizeM (f.take at_) : Nat) + (msize sizeM (f.drop at_) : Nat) : Int)) from ECalls.eq (v := .int .i64 (msize sizeM f : Nat)) (fun w' hw => astSize_any B f w' _ (HF.out.extRM (hx1.trans hw) hB) (Nat.le_trans hB1 hw.size) zf) (by rw [e1]; simp))
  have SSA := hide (show ECalls Tryd.prog 29 #[.agg #[.slice aa (f.take at_).length capa]] W1 (.int .i64 (msize sizeM (f.take at_) : Nat)) from fun w' hw => astSize_any B _ w' _ (SA.extRM (hx1.trans hw) hB) (Nat.le_trans hB1 hw.size) za)
  have SSB := hide (show ECalls Tryd.prog 29 #[.agg #[.slice ab (f.drop at_).length capb]] W1 (.int .i64 (msize sizeM (f.drop at_) : Nat)) from fun w' hw => astSize_any B _ w' _ (SB.extRM (hx1.trans hw) hB) (Nat.le_trans hB1 hw.size) zb)
  have DF := hide (show ECalls Tryd.prog 30 #[.agg #[.slice fa f.length cap]] W1 (.int .i64 (max (mdeep deepM (f.take at_)) (mdeep deepM (f.drop at_)) : Nat)) from ECalls.eq (v := .int .i64 (mdeep deepM f : Nat)) (fun w' hw => astDeep_any B f w' _ (HF.out.extRM (hx1.trans hw) hB) (Nat.le_trans hB1 hw.size) zf) (by rw [e2]))
  have DA := hide (show ECalls Tryd.prog 30 #[.agg #[.slice aa (f.take at_).length capa]] W1 (.int .i64 (mdeep deepM (f.take at_) : Nat)) from fun w' hw => astDeep_any B _ w' _ (SA.extRM (hx1.trans hw) hB) (Nat.le_trans hB1 hw.size) za)
  have DB := hide (show ECalls Tryd.prog 30 #[.agg #[.slice ab (f.drop at_).length capb]] W1 (.int .i64 (mdeep deepM (f.drop at_) : Nat)) from fun w' hw => astDeep_any B _ w' _ (SB.extRM (hx1.trans hw) hB) (Nat.le_trans hB1 hw.size) zb)
  have Q01 := hide hx1
  have PM := hide (fun (hfew : yes (fewP (msize sizeM f) (mdeep deepM f)) = true) (h64 : ¬ 64 < f.length) => hpm (by omega) (by have := (yes_iff.1 hfew).1; omega))
  clear HF HTab hx1 SA SB e1 e2 e3 e4 hpm zf Vf hat
  generalize (f.take at_).length = na at *
  generalize (f.drop at_).length = nb at *
  generalize checkF f = cf at *
  generalize checkF (f.take at_) = ca at *
  generalize checkF (f.drop at_) = cb at *
  generalize msize sizeM (f.take at_) = sa at *
  generalize msize sizeM (f.drop at_) = sb at *
  generalize mdeep deepM (f.take at_) = da at *
  generalize mdeep deepM (f.drop at_) = db at *
  generalize yes (fewP (msize sizeM f) (mdeep deepM f)) = b1 at *
  clear hlen hcap
  generalize f.length = n at *
  have HKM := hide hkm
  have HREM := hide hrem
  clear hrem hkm
  cases hb1 : b1 with
  | false =>
    subst hb1
    go_enter Tryd.func7, Tryd.ntmps7
    go_wp2_with (first
      | (go_at_call 11; refine (GL.out.at_ _).mono ?_; rintro _ _ ⟨rfl, e, rfl⟩)
      | (go_at_call 21; with_reducible refine (GF.out.at_ _).mono ?_; rintro _ _ ⟨rfl, e, rfl⟩))
    go_ret
    exact ⟨rfl, Q01.out.trans (Later.ext _)⟩
  | true =>
    have PM := hide (PM.out hb1)
    subst hb1
    have hkm := HKM.out
    have hrem := HREM.out
    go_enter Tryd.func7, Tryd.ntmps7
    go_wp2_with (go_at_call 11; refine (GL.out.at_ _).mono ?_; rintro _ _ ⟨rfl, e, rfl⟩)
    refine (GF.out.at_ _).mono ?_
    rintro _ _ ⟨rfl, e, rfl⟩
    obtain ⟨Wa, ea, hVa, hxa, -, b0⟩ := boxL1 e.w (.slice aa na capa) 41
    obtain ⟨Wb, eb, hVb, hxb, -, d0⟩ := boxL1 ea.w (.slice ab nb capb) 41
    have q1b := (e.ext.trans hxa).trans (ea.ext.trans hxb)
    have a0a := cellL a0 (e.ext.trans hxa)
    have b0 := cellL b0 (ea.ext.trans hxb)
    have a0 := cellL a0 q1b
    have CF := hide (CF.out.later q1b)
    have CA := hide (CA.out.later q1b)
    have CB := hide (CB.out.later q1b)
    have SF := hide (SF.out.later q1b)
    have SSA := hide (SSA.out.later q1b)
    have SSB := hide (SSB.out.later q1b)
    have DF := hide (DF.out.later q1b)
    have DA := hide (DA.out.later q1b)
    have DB := hide (DB.out.later q1b)
    have Q0b := hide (Q01.out.trans q1b)
    clear q1b hxa hxb Q01 GL GF
    go_wp2_with fail
    refine wp_region_later (W := Wb) (by kernel_rfl) (by kernel_rfl) (Later.ext _) ?_
    repeat (go_big_quiet_step (first
           | (go_at_call 29; with_reducible exact SF.out.at_ _) | (go_at_call 29; with_reducible exact SSA.out.at_ _) | (go_at_call 29; with_reducible exact SSB.out.at_ _)
           | (go_at_call 30; with_reducible exact DF.out.at_ _) | (go_at_call 30; with_reducible exact DA.out.at_ _) | (go_at_call 30; with_reducible exact DB.out.at_ _)))
    refine wpQuiet_nil ?_
    rintro _ ⟨e9, rfl⟩
    by_cases h64 : 64 < n
    · clear PM
      by_cases hA : ca = 0
      · subst hA
        by_cases hBz : cb = 0
        · subst hBz
          go_wp2_with (first
            | (go_at_call 31; with_reducible refine (CA.out.at_ _).mono ?_; rintro _ _ ⟨rfl, e, rfl⟩)
            | (go_at_call 31; with_reducible refine (CB.out.at_ _).mono ?_; rintro _ _ ⟨rfl, e, rfl⟩)
            | (go_at_call 31; with_reducible refine (CF.out.at_ _).mono ?_; rintro _ _ ⟨rfl, e, rfl⟩))
          all_goals
            go_ret
            exact ⟨rfl, Q0b.out.trans (Later.ext _)⟩
        · have hb' : ((cb : Int) == 0) = false := by simpa using hBz
          clear hBz
          go_wp2_with (first
            | (go_at_call 31; with_reducible refine (CA.out.at_ _).mono ?_; rintro _ _ ⟨rfl, e, rfl⟩)
            | (go_at_call 31; with_reducible refine (CB.out.at_ _).mono ?_; rintro _ _ ⟨rfl, e, rfl⟩)
            | (go_at_call 31; with_reducible refine (CF.out.at_ _).mono ?_; rintro _ _ ⟨rfl, e, rfl⟩))
          all_goals
            go_ret
            exact ⟨rfl, Q0b.out.trans (Later.ext _)⟩
      · have ha' : ((ca : Int) == 0) = false := by simpa using hA
        clear hA
        · go_wp2_with (first
            | (go_at_call 31; with_reducible refine (CA.out.at_ _).mono ?_; rintro _ _ ⟨rfl, e, rfl⟩)
            | (go_at_call 31; with_reducible refine (CB.out.at_ _).mono ?_; rintro _ _ ⟨rfl, e, rfl⟩)
            | (go_at_call 31; with_reducible refine (CF.out.at_ _).mono ?_; rintro _ _ ⟨rfl, e, rfl⟩))
          all_goals
            go_ret
            exact ⟨rfl, Q0b.out.trans (Later.ext _)⟩
    · have hcab := hide (show cf = 0 ↔ ca = 0 ∧ cb = 0 from by first | exact PM.out h64 | exact PM.out trivial h64 | exact PM.out rfl h64)
      clear PM
      by_cases hA : ca = 0
      · by_cases hBz : cb = 0
        · obtain rfl : cf = 0 := hcab.out.2 ⟨hA, hBz⟩
          clear hcab
          subst hA hBz
          go_wp2_with (first
            | (go_at_call 31; with_reducible refine (CA.out.at_ _).mono ?_; rintro _ _ ⟨rfl, e, rfl⟩)
            | (go_at_call 31; with_reducible refine (CB.out.at_ _).mono ?_; rintro _ _ ⟨rfl, e, rfl⟩)
            | (go_at_call 31; with_reducible refine (CF.out.at_ _).mono ?_; rintro _ _ ⟨rfl, e, rfl⟩))
          all_goals
            go_ret
            exact ⟨rfl, Q0b.out.trans (Later.ext _)⟩
        · have hb' : ((cb : Int) == 0) = false := by simpa using hBz
          have hf' : ((cf : Int) == 0) = false := by simpa using (fun h => hBz (hcab.out.1 h).2)
          clear hBz hcab
          subst hA
          go_wp2_with (first
            | (go_at_call 31; with_reducible refine (CA.out.at_ _).mono ?_; rintro _ _ ⟨rfl, e, rfl⟩)
            | (go_at_call 31; with_reducible refine (CB.out.at_ _).mono ?_; rintro _ _ ⟨rfl, e, rfl⟩)
            | (go_at_call 31; with_reducible refine (CF.out.at_ _).mono ?_; rintro _ _ ⟨rfl, e, rfl⟩))
          all_goals
            go_ret
            exact ⟨rfl, Q0b.out.trans (Later.ext _)⟩
      · have ha' : ((ca : Int) == 0) = false := by simpa using hA
        have hf' : ((cf : Int) == 0) = false := by simpa using (fun h => hA (hcab.out.1 h).1)
        clear hA hcab
        · go_wp2_with (first
            | (go_at_call 31; with_reducible refine (CA.out.at_ _).mono ?_; rintro _ _ ⟨rfl, e, rfl⟩)
            | (go_at_call 31; with_reducible refine (CB.out.at_ _).mono ?_; rintro _ _ ⟨rfl, e, rfl⟩)
            | (go_at_call 31; with_reducible refine (CF.out.at_ _).mono ?_; rintro _ _ ⟨rfl, e, rfl⟩))
          all_goals
            go_ret
            exact ⟨rfl, Q0b.out.trans (Later.ext _)⟩

end Go.Proofs.YtmpoheemnjpoeaaDoor
