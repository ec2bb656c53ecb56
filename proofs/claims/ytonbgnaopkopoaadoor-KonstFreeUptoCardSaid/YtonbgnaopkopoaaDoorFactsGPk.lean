/-
  A REGION THAT DRAWS ITS ORDER, BY WHAT IS KNOWN OF EACH OPERATION's VALUE, WITH GUARDS: what is known of a guard's value says that the guarded operation is done.
-/
import Derived.Test.YtonbgnaopkopoaaDoorFactsPk
namespace Go.Proofs.YtonbgnaopkopoaaDoor
open Go Go.RowKit
set_option linter.all false
set_option linter.unusedVariables false
set_option linter.unusedSimpArgs false

/-- The temporaries that are written are all different, and lie in the frame; no operation waits for a later one; a guarded one waits for its guard. -/
def factsOkG (l : List Oper) (n : Nat) : Bool :=
  l.all (fun o => match o.dst with | some d => decide (d < n) | none => true) && (List.range l.length).all fun i => match l[i]? with
    | some x => x.after.all (fun e => !Region.binds .any e || decide (e.on < i)) && (match x.dst with
      | some d => (List.range i).all fun j => ((l[j]?).bind Oper.dst) != some d
      | none => true) && (match x.guard with
      | some (j, _) => x.after.any (fun e => Region.binds .any e && e.on == j) && ((l[j]?).bind Oper.dst).isSome
      | none => true)
    | none => true

structure FactsOkG (l : List Oper) (n : Nat) : Prop where
  lt : ∀ (i : Nat) (d : Tmp), (l[i]?).bind Oper.dst = some d → d < n
  apart : ∀ (i j : Nat) (d : Tmp), (l[i]?).bind Oper.dst = some d → (l[j]?).bind Oper.dst = some d → i = j
  order : ∀ i x, l[i]? = some x → ∀ e ∈ x.after, Region.binds .any e = true → e.on < i
  guard : ∀ (i : Nat) (x : Oper) (j : Nat) (b : Bool), l[i]? = some x → x.guard = some (j, b) → (∃ e ∈ x.after, Region.binds .any e = true ∧ e.on = j) ∧ ∃ d, (l[j]?).bind Oper.dst = some d

theorem factsOkG_spec {l : List Oper} {n : Nat} (h : factsOkG l n = true) : FactsOkG l n := by
  simp only [factsOkG, Bool.and_eq_true, List.all_eq_true, List.mem_range] at h
  obtain ⟨h1, h2⟩ := h
  have lt : ∀ {i : Nat} {d : Tmp}, (l[i]?).bind Oper.dst = some d → ∃ o, l[i]? = some o ∧ o.dst = some d ∧ i < l.length := by
    intro i d hi
    obtain ⟨o, ho, hd⟩ := Option.bind_eq_some_iff.1 hi
    exact ⟨o, ho, hd, (List.getElem?_eq_some_iff.1 ho).1⟩
  have ap : ∀ (i j : Nat) (d : Tmp), j < i → (l[i]?).bind Oper.dst = some d → (l[j]?).bind Oper.dst = some d → False := by
    intro i j d hji hi hj
    obtain ⟨o, ho, hd, hl⟩ := lt hi
    have := h2 i hl
    simp only [ho, hd, Bool.and_eq_true, List.all_eq_true, List.mem_range, bne_iff_ne, ne_eq] at this
    exact this.1.2 j hji hj
  refine ⟨fun i d hi => ?_, fun i j d hi hj => ?_, fun i x hx e he hb => ?_, fun i x j b hx hg => ?_⟩
  · obtain ⟨o, ho, hd, _⟩ := lt hi
    have := h1 o (List.mem_of_getElem? ho)
    simpa [hd] using this
  · rcases Nat.lt_trichotomy i j with h | h | h
    · exact (ap j i d h hj hi).elim
    · exact h
    · exact (ap i j d h hi hj).elim
  · have := h2 i (List.getElem?_eq_some_iff.1 hx).1
    simp only [hx, Bool.and_eq_true, Array.all_eq_true_iff_forall_mem, Bool.or_eq_true, Bool.not_eq_true', decide_eq_true_eq] at this
    rcases this.1.1 e he with h | h
    · rw [h] at hb; cases hb
    · exact h
  · have := h2 i (List.getElem?_eq_some_iff.1 hx).1
    simp only [hx, hg, Bool.and_eq_true] at this
    obtain ⟨e, he, hb⟩ := Array.any_eq_true'.1 this.2.1
    simp only [Bool.and_eq_true, beq_iff_eq] at hb
    exact ⟨⟨e, he, hb.1, hb.2⟩, Option.isSome_iff_exists.1 this.2.2⟩

section
variable {P : Program} {W : World} {a0 : Act} {F : Nat → Value → World → Prop} {l : List Oper}

theorem Known.stepG (hst : ∀ i v w w', F i v w → Ext w w' → F i v w') (T : FactsOkG l a0.tmps.size) {listed : Array Bool} {A : Act} {w : World} (h : Known W a0 F l (fun j => listed.getD j false) A w)
    {i : Nat} {o : Oper} (ho : l[i]? = some o) {v : Value} {w' : World} (hx : Ext w w') (hF : F i v w') : Known W a0 F l (fun j => (listed.setIfInBounds i true).getD j false) (A.put o.dst v) w' := by
  have hd0 : (l[i]?).bind Oper.dst = o.dst := by rw [ho]; rfl
  have hsz : (A.put o.dst v).tmps.size = a0.tmps.size := by
    cases hdd : o.dst <;> simp [Act.put, h.size]
  have hdf : (A.put o.dst v).defers = a0.defers := by
    cases hdd : o.dst <;> simp [Act.put, h.defers]
  have hother : ∀ t, o.dst ≠ some t → (A.put o.dst v).tmps.getD t undef = A.tmps.getD t undef := by
    intro t ht
    cases hdd : o.dst with
    | none => rfl
    | some d => rw [put_getD, if_neg (fun hh => ht (by rw [hdd, hh.1]))]
  refine ⟨h.ext.trans hx, hsz, hdf, fun j d hj hl => ?_, fun t ht => ?_⟩
  · by_cases hij : i = j
    · subst hij
      rw [hd0] at hj
      rw [hj, put_getD, if_pos ⟨rfl, by rw [h.size]; exact T.lt i d (by rw [hd0]; exact hj)⟩]
      exact hF
    · rw [getD_set_ne false hij] at hl
      rw [hother d (fun hh => hij (T.apart i j d (by rw [hd0]; exact hh) hj))]
      exact hst _ _ _ _ (h.done j d hj hl) hx
  · rw [hother t (fun hh => ht i (by rw [hd0]; exact hh))]
    exact h.rest t ht

/-- What is known of each guard's value: it is what its operations ask. -/
def GuardsMet (F : Nat → Value → World → Prop) : List Oper → Prop
  | [] => True
  | o :: r => (match o.guard with | some (j, b) => ∀ v w, F j v w → v = .bool b | none => True) ∧ GuardsMet F r
theorem GuardsMet.get {F : Nat → Value → World → Prop} : ∀ {l : List Oper}, GuardsMet F l → ∀ {i : Nat} {o : Oper}, l[i]? = some o → ∀ {j b}, o.guard = some (j, b) → ∀ v w, F j v w → v = .bool b
  | [], _, _, _, ho, _, _, _ => by simp at ho
  | x :: r, h, 0, o, ho, j, b, hg => by
    simp at ho
    subst ho
    have := h.1
    rw [hg] at this
    exact this
  | x :: r, h, i + 1, o, ho, j, b, hg => GuardsMet.get h.2 (by simpa using ho) hg

theorem wanted_of {A : Act} {w : World} {listed : Nat → Bool} {o : Oper} {i n : Nat} (T : FactsOkG l n) (hg : GuardsMet F l) (ho : l[i]? = some o) (hn : A.tmps.size = n)
    (h : ∀ (j : Nat) (d : Tmp), (l[j]?).bind Oper.dst = some d → listed j = true → F j (A.tmps.getD d undef) w) (he : ∀ e ∈ o.after, Region.binds .any e = true → listed e.on = true) :
    Region.wanted o (yielded l.toArray A.tmps) = true := by
  unfold Region.wanted
  cases hgd : o.guard with
  | none => rfl
  | some g =>
    obtain ⟨j, b⟩ := g
    obtain ⟨⟨e, hm, hb, rfl⟩, d, hd⟩ := T.guard i o j b ho hgd
    have hv := hg.get ho hgd _ _ (h e.on d hd (he e hm hb))
    have hlt := T.lt e.on d hd
    have hy : yielded l.toArray A.tmps e.on = some b := by
      unfold yielded
      simp only [List.getElem?_toArray]
      rw [hd]
      have h1 : d < A.tmps.size := by rw [hn]; exact hlt
      have h2 : A.tmps[d]? = some (.bool b) := by
        rw [Array.getElem?_eq_getElem h1]
        have := hv
        rw [Array.getD_eq_getD_getElem?, Array.getElem?_eq_getElem h1] at this
        exact congrArg some this
      simp [h2]
    simp [hy]

theorem wpAny_factsG {Q : Exit → Act → World → Prop} (hst : ∀ i v w w', F i v w → Ext w w' → F i v w') (T : FactsOkG l a0.tmps.size) (hg : GuardsMet F l) (hS : StepsOk P W a0 F l l 0)
    (hE : ∀ A w, Known W a0 F l (fun j => decide (j < l.length)) A w → Q .normal A w) :
    ∀ (fuel : Nat) (listed : Array Bool) (A : Act) (w : World), listed.size = l.length → (fuel = 0 → Region.ready .any l.toArray listed = []) → left listed.toList ≤ fuel → Known W a0 F l (fun j => listed.getD j false) A w →
      wpAny P .any l.toArray Q fuel listed A w := by
  have hO := T.order
  have fin : ∀ (listed : Array Bool) (A : Act) (w : World), listed.size = l.length → Region.ready .any l.toArray listed = [] → Known W a0 F l (fun j => listed.getD j false) A w → Q .normal A w := by
    intro listed A w hs hr hk
    have all : ∀ n i, i < n → i < l.length → listed.getD i true = true := by
      intro n
      induction n with
      | zero => intro i hi; omega
      | succ n ih =>
        intro i hin hi
        cases hl : listed.getD i true with
        | true => rfl
        | false =>
          have : i ∈ Region.ready .any l.toArray listed := mem_ready.2 ⟨hl, l[i], by simp [List.getElem?_eq_getElem hi], fun e he hb => by
            have hlt := hO i l[i] (List.getElem?_eq_getElem hi) e he hb
            have := ih e.on (by omega) (by omega)
            have hz : e.on < listed.size := by omega
            simpa [hz] using this⟩
          rw [hr] at this; cases this
    refine hE A w ⟨hk.ext, hk.size, hk.defers, fun j d hj hl => hk.done j d hj ?_, hk.rest⟩
    have hjl : j < l.length := by simpa using hl
    have := all (j + 1) j (by omega) hjl
    have hz : j < listed.size := by omega
    simpa [hz] using this
  intro fuel
  induction fuel with
  | zero =>
    intro listed A w hs h0 _ hk
    exact ⟨h0 rfl, fin listed A w hs (h0 rfl) hk⟩
  | succ fuel ih =>
    intro listed A w hs _ hc hk
    refine ⟨fun hr => fin listed A w hs hr hk, fun i hi => ?_⟩
    obtain ⟨h0, o, ho, hall⟩ := mem_ready.1 hi
    have ho' : l[i]? = some o := by simpa using ho
    have hil : i < l.length := (List.getElem?_eq_some_iff.1 ho').1
    have hcount : left (listed.setIfInBounds i true).toList ≤ fuel := by
      have hz : i < listed.size := by omega
      have hget : listed.toList[i]? = some false := by
        simp [hz] at h0
        simp [hz, h0]
      have := left_set listed.toList i hget
      rw [show (listed.setIfInBounds i true).toList = listed.toList.set i true by simp]
      omega
    unfold wpOp
    simp only [List.getElem?_toArray, ho']
    rw [if_pos (wanted_of T hg ho' hk.size hk.done hall)]
    have hstep := StepsOk.get l 0 hS i o ho'
    rw [Nat.zero_add] at hstep
    refine .inl (Oper.wp_mono ?_ (Oper.wp_noWay (hstep A w hk.ext (depFacts_of hk.done o.after.toList (fun e he hb => hall e (by simpa using he) hb)) hk.rest)))
    rintro A' w' ⟨v, rfl, hx, hF⟩
    refine ih _ _ _ (by simpa using hs) (fun hf => ?_) hcount (hk.stepG hst T ho' hx hF)
    subst hf
    rw [List.eq_nil_iff_forall_not_mem]
    intro j hj
    obtain ⟨hj0, y, hy, _⟩ := mem_ready.1 hj
    have hjl : j < l.length := by
      have := (Array.getElem?_eq_some_iff.1 hy).1
      simpa using this
    have hz : j < (listed.setIfInBounds i true).size := by simpa [hs] using hjl
    have : false ∈ (listed.setIfInBounds i true).toList := by
      simp only [Array.getD_eq_getD_getElem?, Array.getElem?_eq_getElem hz, Option.getD_some] at hj0
      rw [← hj0]
      exact Array.mem_toList_iff.2 (Array.getElem_mem _)
    have := left_pos _ this
    omega

/-- What is known of one value for which an operation waits, wherever it stands in the list. -/
theorem depOn {A : Act} {w : World} : ∀ {es : List Edge}, depFacts F l A w es → ∀ (j : Nat) (d : Tmp), (es.any fun e => Region.binds .any e && e.on == j) = true → (l[j]?).bind Oper.dst = some d → F j (A.tmps.getD d undef) w
  | [], _, _, _, h, _ => by simp at h
  | e :: r, hd, j, d, h, hl => by
    rw [List.any_cons, Bool.or_eq_true] at h
    rcases h with h | h
    · simp only [Bool.and_eq_true, beq_iff_eq] at h
      obtain ⟨h1, rfl⟩ := h
      exact dep1 hd h1 hl
    · exact depOn hd.2 j d h hl

/-- THE REGION, BY WHAT IS KNOWN OF EACH VALUE, ITS GUARDS' TOO. -/
theorem wp_region_facts_g {id : Nat} {Q : Exit → Act → World → Prop} {w : World} (F : Nat → Value → World → Prop) (hm : P.follows .mixedOrders = true) (hB : factsOkG l a0.tmps.size = true) (hg : GuardsMet F l) (hw : Ext W w) (hst : ∀ i v w w', F i v w → Ext w w' → F i v w')
    (hS : StepsOk P W a0 F l l 0) (hE : ∀ A w, Known W a0 F l (fun j => decide (j < l.length)) A w → Q .normal A w) : (Code.region id l.toArray true).wp P Q a0 w := by
  refine wp_region_any hm ?_
  simp only [List.size_toArray]
  refine wpAny_factsG hst (factsOkG_spec hB) hg hS hE l.length _ a0 _ (by simp) (fun h => ?_) ?_ ⟨hw.drew, rfl, rfl, fun j d _ hl => ?_, fun t _ => rfl⟩
  · have : l = [] := List.eq_nil_of_length_eq_zero h
    subst this
    rfl
  · rw [Array.toList_replicate, left_replicate]; exact Nat.le_refl _
  · rw [none_listed] at hl; cases hl
end

end Go.Proofs.YtonbgnaopkopoaaDoor
