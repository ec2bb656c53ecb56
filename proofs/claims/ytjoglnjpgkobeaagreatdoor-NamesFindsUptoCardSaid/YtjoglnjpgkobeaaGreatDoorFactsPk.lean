/-
  A REGION THAT DRAWS ITS ORDER, BY WHAT IS KNOWN OF EACH OPERATION's VALUE: each operation is walked alone, knowing only what it waits for; what is known lasts while memory grows.
-/
import Derived.Test.YtjoglnjpgkobeaaGreatDoorWordPk
namespace Go.Proofs.YtjoglnjpgkobeaaGreatDoor
open Go Go.RowKit
set_option linter.all false
set_option linter.unusedVariables false
set_option linter.unusedSimpArgs false

/-- What is known of the values for which an operation waits. -/
def depFacts (F : Nat → Value → World → Prop) (l : List Oper) (A : Act) (w : World) : List Edge → Prop
  | [] => True
  | e :: r => (if Region.binds .any e = true then (match (l[e.on]?).bind Oper.dst with | some d => F e.on (A.tmps.getD d undef) w | none => True) else True) ∧ depFacts F l A w r

/-- No guard; the temporaries that are written are all different, and lie in the frame; no operation waits for a later one. -/
def factsOk (l : List Oper) (n : Nat) : Bool :=
  l.all (fun o => o.guard.isNone && (match o.dst with | some d => decide (d < n) | none => true)) && (List.range l.length).all fun i => match l[i]? with
    | some x => x.after.all (fun e => !Region.binds .any e || decide (e.on < i)) && (match x.dst with
      | some d => (List.range i).all fun j => ((l[j]?).bind Oper.dst) != some d
      | none => true)
    | none => true

structure Known (W : World) (a0 : Act) (F : Nat → Value → World → Prop) (l : List Oper) (listed : Nat → Bool) (A : Act) (w : World) : Prop where
  ext : Ext W w
  size : A.tmps.size = a0.tmps.size
  defers : A.defers = a0.defers
  done : ∀ (j : Nat) (d : Tmp), (l[j]?).bind Oper.dst = some d → listed j = true → F j (A.tmps.getD d undef) w
  rest : ∀ t : Tmp, (∀ j : Nat, (l[j]?).bind Oper.dst ≠ some t) → A.tmps.getD t undef = a0.tmps.getD t undef

def NoWay : Exit → Act → World → Prop := fun _ _ _ => False

theorem Oper.wp_noWay {P : Program} {o : Oper} {a : Act} {w : World} {K : Act → World → Prop} {Q : Exit → Act → World → Prop} (h : o.wp P a w K NoWay) : o.wp P a w K Q := by
  unfold Oper.wp at *
  generalize (execOp a.eval o).run P w = r at *
  cases r with
  | ok n w' =>
    cases n <;> simp only [Oper.upon] at h ⊢ <;>
      first
        | exact h
        | exact Calls.mono h (fun e w'' he => by cases e <;> first | exact he | exact he.elim | (obtain ⟨_, _, hh⟩ := he; exact hh.elim))
        | exact h.elim
  | halt y w' => cases y <;> simp only [Oper.upon] at h ⊢ <;> first | exact h | exact h.elim

/-- What is owed of operation i. -/
def StepOk (P : Program) (W : World) (a0 : Act) (F : Nat → Value → World → Prop) (l : List Oper) (i : Nat) (o : Oper) : Prop :=
  ∀ (A : Act) (w : World), Ext W w → depFacts F l A w o.after.toList → (∀ t : Tmp, (∀ j : Nat, (l[j]?).bind Oper.dst ≠ some t) → A.tmps.getD t undef = a0.tmps.getD t undef) →
    o.wp P A w (fun A' w' => ∃ v, A' = A.put o.dst v ∧ Ext w w' ∧ F i v w') NoWay
def StepsOk (P : Program) (W : World) (a0 : Act) (F : Nat → Value → World → Prop) (l : List Oper) : List Oper → Nat → Prop
  | [], _ => True
  | o :: r, i => StepOk P W a0 F l i o ∧ StepsOk P W a0 F l r (i + 1)
theorem StepsOk.get {P : Program} {W : World} {a0 : Act} {F : Nat → Value → World → Prop} {l : List Oper} : ∀ (r : List Oper) (k : Nat), StepsOk P W a0 F l r k → ∀ (j : Nat) (o : Oper), r[j]? = some o → StepOk P W a0 F l (k + j) o
  | [], _, _, _, _, hj => by simp at hj
  | x :: r, k, h, 0, o, hj => by simp at hj; subst hj; exact h.1
  | x :: r, k, h, j + 1, o, hj => by
    have := StepsOk.get r (k + 1) h.2 j o (by simpa using hj)
    rwa [show k + 1 + j = k + (j + 1) by omega] at this

structure FactsOk (l : List Oper) (n : Nat) : Prop where
  guard : ∀ (i : Nat) (o : Oper), l[i]? = some o → o.guard = none
  lt : ∀ (i : Nat) (d : Tmp), (l[i]?).bind Oper.dst = some d → d < n
  apart : ∀ (i j : Nat) (d : Tmp), (l[i]?).bind Oper.dst = some d → (l[j]?).bind Oper.dst = some d → i = j

theorem factsOk_spec {l : List Oper} {n : Nat} (h : factsOk l n = true) : FactsOk l n := by
  simp only [factsOk, Bool.and_eq_true, List.all_eq_true, List.mem_range] at h
  obtain ⟨h1, h2⟩ := h
  have lt : ∀ {i : Nat} {d : Tmp}, (l[i]?).bind Oper.dst = some d → ∃ o, l[i]? = some o ∧ o.dst = some d ∧ i < l.length := by
    intro i d hi
    obtain ⟨o, ho, hd⟩ := Option.bind_eq_some_iff.1 hi
    exact ⟨o, ho, hd, (List.getElem?_eq_some_iff.1 ho).1⟩
  have ap : ∀ (i j : Nat) (d : Tmp), j < i → (l[i]?).bind Oper.dst = some d → (l[j]?).bind Oper.dst = some d → False := by
    intro i j d hji hi hj
    obtain ⟨o, ho, hd, hl⟩ := lt hi
    have := h2 i hl
    simp only [ho, hd, Bool.and_eq_true, List.all_eq_true, List.mem_range, bne_iff_ne, ne_eq] at this
    exact this.2 j hji hj
  refine ⟨fun i o ho => ?_, fun i d hi => ?_, fun i j d hi hj => ?_⟩
  · have := (h1 o (List.mem_of_getElem? ho)).1
    simpa using this
  · obtain ⟨o, ho, hd, _⟩ := lt hi
    have := (h1 o (List.mem_of_getElem? ho)).2
    simpa [hd] using this
  · rcases Nat.lt_trichotomy i j with h | h | h
    · exact (ap j i d h hj hi).elim
    · exact h
    · exact (ap i j d h hi hj).elim

theorem put_getD {a : Act} {d t : Tmp} {v : Value} : (a.put (some d) v).tmps.getD t undef = if t = d ∧ d < a.tmps.size then v else a.tmps.getD t undef := by
  simp only [Act.put, Array.getD_eq_getD_getElem?, Array.getElem?_setIfInBounds]
  by_cases h : d = t
  · subst h
    by_cases hl : d < a.tmps.size
    · simp [hl]
    · simp [hl]
  · rw [if_neg h, if_neg (fun hh => h hh.1.symm)]

section
variable {P : Program} {W : World} {a0 : Act} {F : Nat → Value → World → Prop} {l : List Oper}

theorem Known.step (hst : ∀ i v w w', F i v w → Ext w w' → F i v w') (T : FactsOk l a0.tmps.size) {listed : Array Bool} {A : Act} {w : World} (h : Known W a0 F l (fun j => listed.getD j false) A w)
    {i : Nat} {o : Oper} (ho : l[i]? = some o) {v : Value} {w' : World} (hx : Ext w w') (hF : F i v w') : Known W a0 F l (fun j => (listed.setIfInBounds i true).getD j false) (A.put o.dst v) w' := by
  have hd0 : (l[i]?).bind Oper.dst = o.dst := by rw [ho]; rfl
  have hsz : (A.put o.dst v).tmps.size = a0.tmps.size := by
    cases hdd : o.dst <;> simp [Act.put, h.size]
  have hdf : (A.put o.dst v).defers = a0.defers := by
    cases hdd : o.dst <;> simp [Act.put, h.defers]
  have hother : ∀ t, o.dst ≠ some t → (A.put o.dst v).tmps.getD t undef = A.tmps.getD t undef := by
    intro t ht
    cases hdd : o.dst with
    | none => rfl
    | some d => rw [put_getD, if_neg (fun hh => ht (by rw [hdd, hh.1]))]
  refine ⟨h.ext.trans hx, hsz, hdf, fun j d hj hl => ?_, fun t ht => ?_⟩
  · by_cases hij : i = j
    · subst hij
      rw [hd0] at hj
      rw [hj, put_getD, if_pos ⟨rfl, by rw [h.size]; exact T.lt i d (by rw [hd0]; exact hj)⟩]
      exact hF
    · rw [getD_set_ne false hij] at hl
      rw [hother d (fun hh => hij (T.apart i j d (by rw [hd0]; exact hh) hj))]
      exact hst _ _ _ _ (h.done j d hj hl) hx
  · rw [hother t (fun hh => ht i (by rw [hd0]; exact hh))]
    exact h.rest t ht

theorem depFacts_of {A : Act} {w : World} {listed : Nat → Bool} (h : ∀ (j : Nat) (d : Tmp), (l[j]?).bind Oper.dst = some d → listed j = true → F j (A.tmps.getD d undef) w) :
    ∀ es : List Edge, (∀ e ∈ es, Region.binds .any e = true → listed e.on = true) → depFacts F l A w es
  | [], _ => trivial
  | e :: r, he => by
    refine ⟨?_, depFacts_of h r fun e' he' => he e' (List.mem_cons_of_mem _ he')⟩
    split
    · rename_i hb
      split
      · rename_i d hd
        exact h e.on d hd (he e (List.mem_cons_self ..) hb)
      · trivial
    · trivial

theorem dep1 {F : Nat → Value → World → Prop} {l : List Oper} {A : Act} {w : World} {e : Edge} {r : List Edge} {d : Tmp} (hd : depFacts F l A w (e :: r)) (hb : Region.binds .any e = true) (hl : (l[e.on]?).bind Oper.dst = some d) : F e.on (A.tmps.getD d undef) w := by
  have := hd.1
  rw [if_pos hb, hl] at this
  exact this

/-- How many have not come up. -/
def left : List Bool → Nat
  | [] => 0
  | b :: r => (if b then 0 else 1) + left r
theorem left_set : ∀ (L : List Bool) (i : Nat), L[i]? = some false → left (L.set i true) + 1 = left L
  | [], i, h => by simp at h
  | b :: r, 0, h => by simp at h; subst h; simp [left]; omega
  | b :: r, i + 1, h => by
    have := left_set r i (by simpa using h)
    simp only [List.set_cons_succ, left]; omega
theorem left_pos : ∀ (L : List Bool), false ∈ L → 0 < left L
  | [], h => by cases h
  | b :: r, h => by
    cases h with
    | head => simp [left]; omega
    | tail _ ht => have := left_pos r ht; simp only [left]; omega
theorem left_replicate (n : Nat) : left (List.replicate n false) = n := by
  induction n with
  | zero => rfl
  | succ n ih => simp only [List.replicate_succ, left, ih]; simp; omega

theorem wpAny_facts {Q : Exit → Act → World → Prop} (hst : ∀ i v w w', F i v w → Ext w w' → F i v w') (T : FactsOk l a0.tmps.size) (hS : StepsOk P W a0 F l l 0)
    (hE : ∀ A w, Known W a0 F l (fun j => decide (j < l.length)) A w → Q .normal A w)
    (hO : ∀ i x, l[i]? = some x → ∀ e ∈ x.after, Region.binds .any e = true → e.on < i) :
    ∀ (fuel : Nat) (listed : Array Bool) (A : Act) (w : World), listed.size = l.length → (fuel = 0 → Region.ready .any l.toArray listed = []) → left listed.toList ≤ fuel → Known W a0 F l (fun j => listed.getD j false) A w →
      wpAny P .any l.toArray Q fuel listed A w := by
  have fin : ∀ (listed : Array Bool) (A : Act) (w : World), listed.size = l.length → Region.ready .any l.toArray listed = [] → Known W a0 F l (fun j => listed.getD j false) A w → Q .normal A w := by
    intro listed A w hs hr hk
    have all : ∀ n i, i < n → i < l.length → listed.getD i true = true := by
      intro n
      induction n with
      | zero => intro i hi; omega
      | succ n ih =>
        intro i hin hi
        cases hl : listed.getD i true with
        | true => rfl
        | false =>
          have : i ∈ Region.ready .any l.toArray listed := mem_ready.2 ⟨hl, l[i], by simp [List.getElem?_eq_getElem hi], fun e he hb => by
            have hlt := hO i l[i] (List.getElem?_eq_getElem hi) e he hb
            have := ih e.on (by omega) (by omega)
            have hz : e.on < listed.size := by omega
            simpa [hz] using this⟩
          rw [hr] at this; cases this
    refine hE A w ⟨hk.ext, hk.size, hk.defers, fun j d hj hl => hk.done j d hj ?_, hk.rest⟩
    have hjl : j < l.length := by simpa using hl
    have := all (j + 1) j (by omega) hjl
    have hz : j < listed.size := by omega
    simpa [hz] using this
  intro fuel
  induction fuel with
  | zero =>
    intro listed A w hs h0 _ hk
    exact ⟨h0 rfl, fin listed A w hs (h0 rfl) hk⟩
  | succ fuel ih =>
    intro listed A w hs _ hc hk
    refine ⟨fun hr => fin listed A w hs hr hk, fun i hi => ?_⟩
    obtain ⟨h0, o, ho, hall⟩ := mem_ready.1 hi
    have ho' : l[i]? = some o := by simpa using ho
    have hil : i < l.length := (List.getElem?_eq_some_iff.1 ho').1
    have hcount : left (listed.setIfInBounds i true).toList ≤ fuel := by
      have hz : i < listed.size := by omega
      have hget : listed.toList[i]? = some false := by
        simp [hz] at h0
        simp [hz, h0]
      have := left_set listed.toList i hget
      rw [show (listed.setIfInBounds i true).toList = listed.toList.set i true by simp]
      omega
    unfold wpOp
    simp only [List.getElem?_toArray, ho']
    rw [if_pos (by simp [Region.wanted, T.guard i o ho'])]
    have hstep := StepsOk.get l 0 hS i o ho'
    rw [Nat.zero_add] at hstep
    refine .inl (Oper.wp_mono ?_ (Oper.wp_noWay (hstep A w hk.ext (depFacts_of hk.done o.after.toList (fun e he hb => hall e (by simpa using he) hb)) hk.rest)))
    rintro A' w' ⟨v, rfl, hx, hF⟩
    refine ih _ _ _ (by simpa using hs) (fun hf => ?_) hcount (hk.step hst T ho' hx hF)
    subst hf
    rw [List.eq_nil_iff_forall_not_mem]
    intro j hj
    obtain ⟨hj0, y, hy, _⟩ := mem_ready.1 hj
    have hjl : j < l.length := by
      have := (Array.getElem?_eq_some_iff.1 hy).1
      simpa using this
    have hz : j < (listed.setIfInBounds i true).size := by simpa [hs] using hjl
    have : false ∈ (listed.setIfInBounds i true).toList := by
      simp only [Array.getD_eq_getD_getElem?, Array.getElem?_eq_getElem hz, Option.getD_some] at hj0
      rw [← hj0]
      exact Array.mem_toList_iff.2 (Array.getElem_mem _)
    have := left_pos _ this
    omega

theorem order_of_factsOk {n : Nat} (h : factsOk l n = true) : ∀ i x, l[i]? = some x → ∀ e ∈ x.after, Region.binds .any e = true → e.on < i := by
  simp only [factsOk, Bool.and_eq_true, List.all_eq_true, List.mem_range] at h
  intro i x hx e he hb
  have := h.2 i (List.getElem?_eq_some_iff.1 hx).1
  simp only [hx, Bool.and_eq_true, Array.all_eq_true_iff_forall_mem, Bool.or_eq_true, Bool.not_eq_true', decide_eq_true_eq] at this
  rcases this.1 e he with h | h
  · rw [h] at hb; cases hb
  · exact h

theorem none_listed (n j : Nat) : (Array.replicate n false).getD j false = false := by
  rw [Array.getD_eq_getD_getElem?, Array.getElem?_replicate]; split <;> rfl

/-- THE REGION, BY WHAT IS KNOWN OF EACH VALUE. -/
theorem wp_region_facts {id : Nat} {Q : Exit → Act → World → Prop} {w : World} (F : Nat → Value → World → Prop) (hm : P.follows .mixedOrders = true) (hB : factsOk l a0.tmps.size = true) (hw : Ext W w) (hst : ∀ i v w w', F i v w → Ext w w' → F i v w')
    (hS : StepsOk P W a0 F l l 0) (hE : ∀ A w, Known W a0 F l (fun j => decide (j < l.length)) A w → Q .normal A w) : (Code.region id l.toArray true).wp P Q a0 w := by
  refine wp_region_any hm ?_
  simp only [List.size_toArray]
  refine wpAny_facts hst (factsOk_spec hB) hS hE (order_of_factsOk hB) l.length _ a0 _ (by simp) (fun h => ?_) ?_ ⟨hw.drew, rfl, rfl, fun j d _ hl => ?_, fun t _ => rfl⟩
  · have : l = [] := List.eq_nil_of_length_eq_zero h
    subst this
    rfl
  · rw [Array.toList_replicate, left_replicate]; exact Nat.le_refl _
  · rw [none_listed] at hl; cases hl

/-- THE SAME, AND THEN THE LAST OPERATION, WHICH WAITS FOR ALL OTHERS. -/
theorem wp_region_facts_last {id : Nat} {Q : Exit → Act → World → Prop} {w : World} {o : Oper} (F : Nat → Value → World → Prop) (hm : P.follows .mixedOrders = true) (ho : l.reverse.head? = some o) (hB : factsOk l.dropLast a0.tmps.size = true) (hT : tailOk l.dropLast o = true) (hw : Ext W w)
    (hst : ∀ i v w w', F i v w → Ext w w' → F i v w')
    (hS : StepsOk P W a0 F l.dropLast l.dropLast 0) (hE : ∀ A w, Known W a0 F l.dropLast (fun j => decide (j < l.dropLast.length)) A w → o.wp P A w (fun a w => Q .normal a w) Q) : (Code.region id l.toArray true).wp P Q a0 w := by
  have hl : l = l.dropLast ++ [o] := by
    rw [List.head?_reverse, List.getLast?_eq_some_iff] at ho
    obtain ⟨ys, rfl⟩ := ho
    simp
  refine wp_region_any hm ?_
  rw [hl]
  generalize l.dropLast = m at *
  have hx : (Array.replicate (m ++ [o]).toArray.size false) = (Array.replicate m.length false).push false := by
    simp [Array.replicate_succ]
  rw [hx]
  have hsz : (m ++ [o]).toArray.size = m.length + 1 := by simp
  rw [hsz]
  refine wpAny_tail (tailOk_facts hT) m.length _ a0 _ (by simp) ?_
  refine wpAny_facts hst (factsOk_spec hB) hS hE (order_of_factsOk hB) m.length _ a0 _ (by simp) (fun h => ?_) ?_ ⟨hw.drew, rfl, rfl, fun j d _ hl => ?_, fun t _ => rfl⟩
  · have : m = [] := List.eq_nil_of_length_eq_zero h
    subst this
    rfl
  · rw [Array.toList_replicate, left_replicate]; exact Nat.le_refl _
  · rw [none_listed] at hl; cases hl

theorem rest_at {A : Act} {l : List Oper} (h0 : ∀ t : Tmp, (∀ j : Nat, (l[j]?).bind Oper.dst ≠ some t) → A.tmps.getD t undef = a0.tmps.getD t undef) (t : Tmp) (h : (l.all fun o => o.dst != some t) = true) : A.tmps.getD t undef = a0.tmps.getD t undef :=
  h0 t fun j hj => by
    obtain ⟨o, ho, hd⟩ := Option.bind_eq_some_iff.1 hj
    have := List.all_eq_true.1 h o (List.mem_of_getElem? ho)
    simp [hd] at this

theorem act_lit {A : Act} {n : Nat} {d : List Deferred} (hs : A.tmps.size = n) (hd : A.defers = d) : A = { tmps := ((List.range n).map fun t => A.tmps.getD t undef).toArray, defers := d } := by
  obtain ⟨tm, df⟩ := A
  simp only at hs hd
  subst hd
  congr 1
  apply Array.ext
  · simp [hs]
  · intro i h1 h2
    simp [h1]
end

end Go.Proofs.YtjoglnjpgkobeaaGreatDoor

/-
  A REGION THAT DRAWS ITS ORDER, BY WHAT IS KNOWN OF EACH OPERATION's VALUE, WITH GUARDS: what is known of a guard's value says that the guarded operation is done.
-/
namespace Go.Proofs.YtjoglnjpgkobeaaGreatDoor
open Go Go.RowKit
set_option linter.all false
set_option linter.unusedVariables false
set_option linter.unusedSimpArgs false

/-- The temporaries that are written are all different, and lie in the frame; no operation waits for a later one; a guarded one waits for its guard. -/
def factsOkG (l : List Oper) (n : Nat) : Bool :=
  l.all (fun o => match o.dst with | some d => decide (d < n) | none => true) && (List.range l.length).all fun i => match l[i]? with
    | some x => x.after.all (fun e => !Region.binds .any e || decide (e.on < i)) && (match x.dst with
      | some d => (List.range i).all fun j => ((l[j]?).bind Oper.dst) != some d
      | none => true) && (match x.guard with
      | some (j, _) => x.after.any (fun e => Region.binds .any e && e.on == j) && ((l[j]?).bind Oper.dst).isSome
      | none => true)
    | none => true

structure FactsOkG (l : List Oper) (n : Nat) : Prop where
  lt : ∀ (i : Nat) (d : Tmp), (l[i]?).bind Oper.dst = some d → d < n
  apart : ∀ (i j : Nat) (d : Tmp), (l[i]?).bind Oper.dst = some d → (l[j]?).bind Oper.dst = some d → i = j
  order : ∀ i x, l[i]? = some x → ∀ e ∈ x.after, Region.binds .any e = true → e.on < i
  guard : ∀ (i : Nat) (x : Oper) (j : Nat) (b : Bool), l[i]? = some x → x.guard = some (j, b) → (∃ e ∈ x.after, Region.binds .any e = true ∧ e.on = j) ∧ ∃ d, (l[j]?).bind Oper.dst = some d

theorem factsOkG_spec {l : List Oper} {n : Nat} (h : factsOkG l n = true) : FactsOkG l n := by
  simp only [factsOkG, Bool.and_eq_true, List.all_eq_true, List.mem_range] at h
  obtain ⟨h1, h2⟩ := h
  have lt : ∀ {i : Nat} {d : Tmp}, (l[i]?).bind Oper.dst = some d → ∃ o, l[i]? = some o ∧ o.dst = some d ∧ i < l.length := by
    intro i d hi
    obtain ⟨o, ho, hd⟩ := Option.bind_eq_some_iff.1 hi
    exact ⟨o, ho, hd, (List.getElem?_eq_some_iff.1 ho).1⟩
  have ap : ∀ (i j : Nat) (d : Tmp), j < i → (l[i]?).bind Oper.dst = some d → (l[j]?).bind Oper.dst = some d → False := by
    intro i j d hji hi hj
    obtain ⟨o, ho, hd, hl⟩ := lt hi
    have := h2 i hl
    simp only [ho, hd, Bool.and_eq_true, List.all_eq_true, List.mem_range, bne_iff_ne, ne_eq] at this
    exact this.1.2 j hji hj
  refine ⟨fun i d hi => ?_, fun i j d hi hj => ?_, fun i x hx e he hb => ?_, fun i x j b hx hg => ?_⟩
  · obtain ⟨o, ho, hd, _⟩ := lt hi
    have := h1 o (List.mem_of_getElem? ho)
    simpa [hd] using this
  · rcases Nat.lt_trichotomy i j with h | h | h
    · exact (ap j i d h hj hi).elim
    · exact h
    · exact (ap i j d h hi hj).elim
  · have := h2 i (List.getElem?_eq_some_iff.1 hx).1
    simp only [hx, Bool.and_eq_true, Array.all_eq_true_iff_forall_mem, Bool.or_eq_true, Bool.not_eq_true', decide_eq_true_eq] at this
    rcases this.1.1 e he with h | h
    · rw [h] at hb; cases hb
    · exact h
  · have := h2 i (List.getElem?_eq_some_iff.1 hx).1
    simp only [hx, hg, Bool.and_eq_true] at this
    obtain ⟨e, he, hb⟩ := Array.any_eq_true'.1 this.2.1
    simp only [Bool.and_eq_true, beq_iff_eq] at hb
    exact ⟨⟨e, he, hb.1, hb.2⟩, Option.isSome_iff_exists.1 this.2.2⟩

section
variable {P : Program} {W : World} {a0 : Act} {F : Nat → Value → World → Prop} {l : List Oper}

theorem Known.stepG (hst : ∀ i v w w', F i v w → Ext w w' → F i v w') (T : FactsOkG l a0.tmps.size) {listed : Array Bool} {A : Act} {w : World} (h : Known W a0 F l (fun j => listed.getD j false) A w)
    {i : Nat} {o : Oper} (ho : l[i]? = some o) {v : Value} {w' : World} (hx : Ext w w') (hF : F i v w') : Known W a0 F l (fun j => (listed.setIfInBounds i true).getD j false) (A.put o.dst v) w' := by
  have hd0 : (l[i]?).bind Oper.dst = o.dst := by rw [ho]; rfl
  have hsz : (A.put o.dst v).tmps.size = a0.tmps.size := by
    cases hdd : o.dst <;> simp [Act.put, h.size]
  have hdf : (A.put o.dst v).defers = a0.defers := by
    cases hdd : o.dst <;> simp [Act.put, h.defers]
  have hother : ∀ t, o.dst ≠ some t → (A.put o.dst v).tmps.getD t undef = A.tmps.getD t undef := by
    intro t ht
    cases hdd : o.dst with
    | none => rfl
    | some d => rw [put_getD, if_neg (fun hh => ht (by rw [hdd, hh.1]))]
  refine ⟨h.ext.trans hx, hsz, hdf, fun j d hj hl => ?_, fun t ht => ?_⟩
  · by_cases hij : i = j
    · subst hij
      rw [hd0] at hj
      rw [hj, put_getD, if_pos ⟨rfl, by rw [h.size]; exact T.lt i d (by rw [hd0]; exact hj)⟩]
      exact hF
    · rw [getD_set_ne false hij] at hl
      rw [hother d (fun hh => hij (T.apart i j d (by rw [hd0]; exact hh) hj))]
      exact hst _ _ _ _ (h.done j d hj hl) hx
  · rw [hother t (fun hh => ht i (by rw [hd0]; exact hh))]
    exact h.rest t ht

/-- What is known of each guard's value: it is what its operations ask. -/
def GuardsMet (F : Nat → Value → World → Prop) : List Oper → Prop
  | [] => True
  | o :: r => (match o.guard with | some (j, b) => ∀ v w, F j v w → v = .bool b | none => True) ∧ GuardsMet F r
theorem GuardsMet.get {F : Nat → Value → World → Prop} : ∀ {l : List Oper}, GuardsMet F l → ∀ {i : Nat} {o : Oper}, l[i]? = some o → ∀ {j b}, o.guard = some (j, b) → ∀ v w, F j v w → v = .bool b
  | [], _, _, _, ho, _, _, _ => by simp at ho
  | x :: r, h, 0, o, ho, j, b, hg => by
    simp at ho
    subst ho
    have := h.1
    rw [hg] at this
    exact this
  | x :: r, h, i + 1, o, ho, j, b, hg => GuardsMet.get h.2 (by simpa using ho) hg

theorem wanted_of {A : Act} {w : World} {listed : Nat → Bool} {o : Oper} {i n : Nat} (T : FactsOkG l n) (hg : GuardsMet F l) (ho : l[i]? = some o) (hn : A.tmps.size = n)
    (h : ∀ (j : Nat) (d : Tmp), (l[j]?).bind Oper.dst = some d → listed j = true → F j (A.tmps.getD d undef) w) (he : ∀ e ∈ o.after, Region.binds .any e = true → listed e.on = true) :
    Region.wanted o (yielded l.toArray A.tmps) = true := by
  unfold Region.wanted
  cases hgd : o.guard with
  | none => rfl
  | some g =>
    obtain ⟨j, b⟩ := g
    obtain ⟨⟨e, hm, hb, rfl⟩, d, hd⟩ := T.guard i o j b ho hgd
    have hv := hg.get ho hgd _ _ (h e.on d hd (he e hm hb))
    have hlt := T.lt e.on d hd
    have hy : yielded l.toArray A.tmps e.on = some b := by
      unfold yielded
      simp only [List.getElem?_toArray]
      rw [hd]
      have h1 : d < A.tmps.size := by rw [hn]; exact hlt
      have h2 : A.tmps[d]? = some (.bool b) := by
        rw [Array.getElem?_eq_getElem h1]
        have := hv
        rw [Array.getD_eq_getD_getElem?, Array.getElem?_eq_getElem h1] at this
        exact congrArg some this
      simp [h2]
    simp [hy]

theorem wpAny_factsG {Q : Exit → Act → World → Prop} (hst : ∀ i v w w', F i v w → Ext w w' → F i v w') (T : FactsOkG l a0.tmps.size) (hg : GuardsMet F l) (hS : StepsOk P W a0 F l l 0)
    (hE : ∀ A w, Known W a0 F l (fun j => decide (j < l.length)) A w → Q .normal A w) :
    ∀ (fuel : Nat) (listed : Array Bool) (A : Act) (w : World), listed.size = l.length → (fuel = 0 → Region.ready .any l.toArray listed = []) → left listed.toList ≤ fuel → Known W a0 F l (fun j => listed.getD j false) A w →
      wpAny P .any l.toArray Q fuel listed A w := by
  have hO := T.order
  have fin : ∀ (listed : Array Bool) (A : Act) (w : World), listed.size = l.length → Region.ready .any l.toArray listed = [] → Known W a0 F l (fun j => listed.getD j false) A w → Q .normal A w := by
    intro listed A w hs hr hk
    have all : ∀ n i, i < n → i < l.length → listed.getD i true = true := by
      intro n
      induction n with
      | zero => intro i hi; omega
      | succ n ih =>
        intro i hin hi
        cases hl : listed.getD i true with
        | true => rfl
        | false =>
          have : i ∈ Region.ready .any l.toArray listed := mem_ready.2 ⟨hl, l[i], by simp [List.getElem?_eq_getElem hi], fun e he hb => by
            have hlt := hO i l[i] (List.getElem?_eq_getElem hi) e he hb
            have := ih e.on (by omega) (by omega)
            have hz : e.on < listed.size := by omega
            simpa [hz] using this⟩
          rw [hr] at this; cases this
    refine hE A w ⟨hk.ext, hk.size, hk.defers, fun j d hj hl => hk.done j d hj ?_, hk.rest⟩
    have hjl : j < l.length := by simpa using hl
    have := all (j + 1) j (by omega) hjl
    have hz : j < listed.size := by omega
    simpa [hz] using this
  intro fuel
  induction fuel with
  | zero =>
    intro listed A w hs h0 _ hk
    exact ⟨h0 rfl, fin listed A w hs (h0 rfl) hk⟩
  | succ fuel ih =>
    intro listed A w hs _ hc hk
    refine ⟨fun hr => fin listed A w hs hr hk, fun i hi => ?_⟩
    obtain ⟨h0, o, ho, hall⟩ := mem_ready.1 hi
    have ho' : l[i]? = some o := by simpa using ho
    have hil : i < l.length := (List.getElem?_eq_some_iff.1 ho').1
    have hcount : left (listed.setIfInBounds i true).toList ≤ fuel := by
      have hz : i < listed.size := by omega
      have hget : listed.toList[i]? = some false := by
        simp [hz] at h0
        simp [hz, h0]
      have := left_set listed.toList i hget
      rw [show (listed.setIfInBounds i true).toList = listed.toList.set i true by simp]
      omega
    unfold wpOp
    simp only [List.getElem?_toArray, ho']
    rw [if_pos (wanted_of T hg ho' hk.size hk.done hall)]
    have hstep := StepsOk.get l 0 hS i o ho'
    rw [Nat.zero_add] at hstep
    refine .inl (Oper.wp_mono ?_ (Oper.wp_noWay (hstep A w hk.ext (depFacts_of hk.done o.after.toList (fun e he hb => hall e (by simpa using he) hb)) hk.rest)))
    rintro A' w' ⟨v, rfl, hx, hF⟩
    refine ih _ _ _ (by simpa using hs) (fun hf => ?_) hcount (hk.stepG hst T ho' hx hF)
    subst hf
    rw [List.eq_nil_iff_forall_not_mem]
    intro j hj
    obtain ⟨hj0, y, hy, _⟩ := mem_ready.1 hj
    have hjl : j < l.length := by
      have := (Array.getElem?_eq_some_iff.1 hy).1
      simpa using this
    have hz : j < (listed.setIfInBounds i true).size := by simpa [hs] using hjl
    have : false ∈ (listed.setIfInBounds i true).toList := by
      simp only [Array.getD_eq_getD_getElem?, Array.getElem?_eq_getElem hz, Option.getD_some] at hj0
      rw [← hj0]
      exact Array.mem_toList_iff.2 (Array.getElem_mem _)
    have := left_pos _ this
    omega

/-- What is known of one value for which an operation waits, wherever it stands in the list. -/
theorem depOn {A : Act} {w : World} : ∀ {es : List Edge}, depFacts F l A w es → ∀ (j : Nat) (d : Tmp), (es.any fun e => Region.binds .any e && e.on == j) = true → (l[j]?).bind Oper.dst = some d → F j (A.tmps.getD d undef) w
  | [], _, _, _, h, _ => by simp at h
  | e :: r, hd, j, d, h, hl => by
    rw [List.any_cons, Bool.or_eq_true] at h
    rcases h with h | h
    · simp only [Bool.and_eq_true, beq_iff_eq] at h
      obtain ⟨h1, rfl⟩ := h
      exact dep1 hd h1 hl
    · exact depOn hd.2 j d h hl

/-- THE REGION, BY WHAT IS KNOWN OF EACH VALUE, ITS GUARDS' TOO. -/
theorem wp_region_facts_g {id : Nat} {Q : Exit → Act → World → Prop} {w : World} (F : Nat → Value → World → Prop) (hm : P.follows .mixedOrders = true) (hB : factsOkG l a0.tmps.size = true) (hg : GuardsMet F l) (hw : Ext W w) (hst : ∀ i v w w', F i v w → Ext w w' → F i v w')
    (hS : StepsOk P W a0 F l l 0) (hE : ∀ A w, Known W a0 F l (fun j => decide (j < l.length)) A w → Q .normal A w) : (Code.region id l.toArray true).wp P Q a0 w := by
  refine wp_region_any hm ?_
  simp only [List.size_toArray]
  refine wpAny_factsG hst (factsOkG_spec hB) hg hS hE l.length _ a0 _ (by simp) (fun h => ?_) ?_ ⟨hw.drew, rfl, rfl, fun j d _ hl => ?_, fun t _ => rfl⟩
  · have : l = [] := List.eq_nil_of_length_eq_zero h
    subst this
    rfl
  · rw [Array.toList_replicate, left_replicate]; exact Nat.le_refl _
  · rw [none_listed] at hl; cases hl
end

end Go.Proofs.YtjoglnjpgkobeaaGreatDoor

/-
  A REGION THAT DRAWS ITS ORDER, WITH ONE STORE INTO WHAT IT MADE ITSELF: by what is known of each operation's value, and of the world once the store is done.
-/
namespace Go.Proofs.YtjoglnjpgkobeaaGreatDoor
open Go Go.RowKit
set_option linter.all false
set_option linter.unusedVariables false
set_option linter.unusedSimpArgs false

/-- The store (operation s) has no temporary; it waits for operation q, whose temporary is t. -/
def storeOk (l : List Oper) (s q t : Nat) : Bool :=
  (match l[s]? with | some x => x.dst.isNone && x.after.any (fun e => Region.binds .any e && e.on == q) | none => false) && ((l[q]?).bind Oper.dst) == some t
structure StoreOk (l : List Oper) (s q t : Nat) : Prop where
  dst : ∀ x, l[s]? = some x → x.dst = none
  waits : ∀ x, l[s]? = some x → ∃ e ∈ x.after, Region.binds .any e = true ∧ e.on = q
  temp : (l[q]?).bind Oper.dst = some t
theorem storeOk_spec {l : List Oper} {s q t : Nat} (h : storeOk l s q t = true) : StoreOk l s q t := by
  simp only [storeOk, Bool.and_eq_true, beq_iff_eq] at h
  obtain ⟨h1, h2⟩ := h
  refine ⟨fun x hx => ?_, fun x hx => ?_, h2⟩
  · simp only [hx, Bool.and_eq_true, Option.isNone_iff_eq_none] at h1
    exact h1.1
  · simp only [hx, Bool.and_eq_true] at h1
    obtain ⟨e, he, hb⟩ := Array.any_eq_true'.1 h1.2
    simp only [Bool.and_eq_true, beq_iff_eq] at hb
    exact ⟨e, he, hb.1, hb.2⟩

section
variable {P : Program} {W : World} {a0 : Act} {F : Nat → Value → World → Prop} {G : Value → World → Prop} {l : List Oper} {s q t : Nat}

structure KnownS (W : World) (a0 : Act) (F : Nat → Value → World → Prop) (G : Value → World → Prop) (l : List Oper) (s q t : Nat) (listed : Nat → Bool) (A : Act) (w : World) : Prop extends Known W a0 F l listed A w where
  eff : listed s = true → listed q = true ∧ G (A.tmps.getD t undef) w

/-- What is owed of operation i. -/
def StepOkS (P : Program) (W : World) (a0 : Act) (F : Nat → Value → World → Prop) (G : Value → World → Prop) (l : List Oper) (s t : Nat) (i : Nat) (o : Oper) : Prop :=
  ∀ (A : Act) (w : World), Ext W w → depFacts F l A w o.after.toList → (∀ t : Tmp, (∀ j : Nat, (l[j]?).bind Oper.dst ≠ some t) → A.tmps.getD t undef = a0.tmps.getD t undef) →
    o.wp P A w (fun A' w' => if i = s then A' = A ∧ Ext W w' ∧ (∀ j u, F j u w → F j u w') ∧ G (A.tmps.getD t undef) w' else ∃ v, A' = A.put o.dst v ∧ Ext w w' ∧ F i v w') NoWay
def StepsOkS (P : Program) (W : World) (a0 : Act) (F : Nat → Value → World → Prop) (G : Value → World → Prop) (l : List Oper) (s t : Nat) : List Oper → Nat → Prop
  | [], _ => True
  | o :: r, i => StepOkS P W a0 F G l s t i o ∧ StepsOkS P W a0 F G l s t r (i + 1)
theorem StepsOkS.get : ∀ (r : List Oper) (k : Nat), StepsOkS P W a0 F G l s t r k → ∀ (j : Nat) (o : Oper), r[j]? = some o → StepOkS P W a0 F G l s t (k + j) o
  | [], _, _, _, _, hj => by simp at hj
  | x :: r, k, h, 0, o, hj => by simp at hj; subst hj; exact h.1
  | x :: r, k, h, j + 1, o, hj => by
    have := StepsOkS.get r (k + 1) h.2 j o (by simpa using hj)
    rwa [show k + 1 + j = k + (j + 1) by omega] at this

theorem KnownS.step (hst : ∀ i v w w', F i v w → Ext w w' → F i v w') (hgt : ∀ v w w', G v w → Ext w w' → G v w') (T : FactsOkG l a0.tmps.size) (TS : StoreOk l s q t) {listed : Array Bool} {A : Act} {w : World} (hls : listed.size = l.length) (h : KnownS W a0 F G l s q t (fun j => listed.getD j false) A w)
    {i : Nat} {o : Oper} (ho : l[i]? = some o) (his : i ≠ s) (hun : listed.getD i true = false) {v : Value} {w' : World} (hx : Ext w w') (hF : F i v w') : KnownS W a0 F G l s q t (fun j => (listed.setIfInBounds i true).getD j false) (A.put o.dst v) w' := by
  refine ⟨h.toKnown.stepG hst T ho hx hF, fun hs => ?_⟩
  rw [getD_set_ne false his] at hs
  obtain ⟨h1, h2⟩ := h.eff hs
  have hiq : i ≠ q := by
    rintro rfl
    have hz : i < listed.size := by rw [hls]; exact (List.getElem?_eq_some_iff.1 ho).1
    simp [hz] at hun h1
    rw [h1] at hun; cases hun
  refine ⟨by rw [getD_set_ne false hiq]; exact h1, ?_⟩
  have hne : o.dst ≠ some t := fun hh => hiq (T.apart i q t (by rw [ho]; exact hh) TS.temp)
  have : (A.put o.dst v).tmps.getD t undef = A.tmps.getD t undef := by
    cases hdd : o.dst with
    | none => rfl
    | some d => rw [put_getD, if_neg (fun hh => hne (by rw [hdd, hh.1]))]
  rw [this]
  exact hgt _ _ _ h2 hx
theorem KnownS.store (T : FactsOkG l a0.tmps.size) (TS : StoreOk l s q t) (hsq : s ≠ q) {listed : Array Bool} {A : Act} {w : World} (h : KnownS W a0 F G l s q t (fun j => listed.getD j false) A w)
    {o : Oper} (ho : l[s]? = some o) (hq : listed.getD q false = true) {w' : World} (hx : Ext W w') (hF : ∀ j u, F j u w → F j u w') (hG : G (A.tmps.getD t undef) w') : KnownS W a0 F G l s q t (fun j => (listed.setIfInBounds s true).getD j false) A w' := by
  refine ⟨⟨hx, h.size, h.defers, fun j d hj hl => ?_, h.rest⟩, fun _ => ⟨by rw [getD_set_ne false hsq]; exact hq, hG⟩⟩
  by_cases hij : s = j
  · subst hij
    rw [ho, Option.bind_some, TS.dst o ho] at hj
    cases hj
  · rw [getD_set_ne false hij] at hl
    exact hF _ _ (h.done j d hj hl)

theorem wpAny_factsS {Q : Exit → Act → World → Prop} (hst : ∀ i v w w', F i v w → Ext w w' → F i v w') (hgt : ∀ v w w', G v w → Ext w w' → G v w') (T : FactsOkG l a0.tmps.size) (TS : StoreOk l s q t) (hsq : s ≠ q) (hg : GuardsMet F l) (hS : StepsOkS P W a0 F G l s t l 0)
    (hE : ∀ A w, KnownS W a0 F G l s q t (fun j => decide (j < l.length)) A w → Q .normal A w) :
    ∀ (fuel : Nat) (listed : Array Bool) (A : Act) (w : World), listed.size = l.length → (fuel = 0 → Region.ready .any l.toArray listed = []) → left listed.toList ≤ fuel → KnownS W a0 F G l s q t (fun j => listed.getD j false) A w →
      wpAny P .any l.toArray Q fuel listed A w := by
  have hO := T.order
  have fin : ∀ (listed : Array Bool) (A : Act) (w : World), listed.size = l.length → Region.ready .any l.toArray listed = [] → KnownS W a0 F G l s q t (fun j => listed.getD j false) A w → Q .normal A w := by
    intro listed A w hs hr hk
    have all : ∀ n i, i < n → i < l.length → listed.getD i true = true := by
      intro n
      induction n with
      | zero => intro i hi; omega
      | succ n ih =>
        intro i hin hi
        cases hl : listed.getD i true with
        | true => rfl
        | false =>
          have : i ∈ Region.ready .any l.toArray listed := mem_ready.2 ⟨hl, l[i], by simp [List.getElem?_eq_getElem hi], fun e he hb => by
            have hlt := hO i l[i] (List.getElem?_eq_getElem hi) e he hb
            have := ih e.on (by omega) (by omega)
            have hz : e.on < listed.size := by omega
            simpa [hz] using this⟩
          rw [hr] at this; cases this
    have allf : ∀ j, j < l.length → listed.getD j false = true := by
      intro j hjl
      have := all (j + 1) j (by omega) hjl
      have hz : j < listed.size := by omega
      simpa [hz] using this
    refine hE A w ⟨⟨hk.ext, hk.size, hk.defers, fun j d hj hl => hk.done j d hj (allf j (by simpa using hl)), hk.rest⟩, fun hsd => ?_⟩
    have hql : q < l.length := by
      obtain ⟨o, ho, -⟩ := Option.bind_eq_some_iff.1 TS.temp
      exact (List.getElem?_eq_some_iff.1 ho).1
    exact ⟨by simpa using hql, (hk.eff (allf s (by simpa using hsd))).2⟩
  intro fuel
  induction fuel with
  | zero =>
    intro listed A w hs h0 _ hk
    exact ⟨h0 rfl, fin listed A w hs (h0 rfl) hk⟩
  | succ fuel ih =>
    intro listed A w hs _ hc hk
    refine ⟨fun hr => fin listed A w hs hr hk, fun i hi => ?_⟩
    obtain ⟨h0, o, ho, hall⟩ := mem_ready.1 hi
    have ho' : l[i]? = some o := by simpa using ho
    have hil : i < l.length := (List.getElem?_eq_some_iff.1 ho').1
    have hcount : left (listed.setIfInBounds i true).toList ≤ fuel := by
      have hz : i < listed.size := by omega
      have hget : listed.toList[i]? = some false := by
        simp [hz] at h0
        simp [hz, h0]
      have := left_set listed.toList i hget
      rw [show (listed.setIfInBounds i true).toList = listed.toList.set i true by simp]
      omega
    have hfuel : fuel = 0 → Region.ready .any l.toArray (listed.setIfInBounds i true) = [] := by
      intro hf
      subst hf
      rw [List.eq_nil_iff_forall_not_mem]
      intro j hj
      obtain ⟨hj0, y, hy, _⟩ := mem_ready.1 hj
      have hjl : j < l.length := by
        have := (Array.getElem?_eq_some_iff.1 hy).1
        simpa using this
      have hz : j < (listed.setIfInBounds i true).size := by simpa [hs] using hjl
      have : false ∈ (listed.setIfInBounds i true).toList := by
        simp only [Array.getD_eq_getD_getElem?, Array.getElem?_eq_getElem hz, Option.getD_some] at hj0
        rw [← hj0]
        exact Array.mem_toList_iff.2 (Array.getElem_mem _)
      have := left_pos _ this
      omega
    unfold wpOp
    simp only [List.getElem?_toArray, ho']
    rw [if_pos (wanted_of T hg ho' hk.size hk.done hall)]
    have hstep := StepsOkS.get l 0 hS i o ho'
    rw [Nat.zero_add] at hstep
    refine .inl (Oper.wp_mono ?_ (Oper.wp_noWay (hstep A w hk.ext (depFacts_of hk.done o.after.toList (fun e he hb => hall e (by simpa using he) hb)) hk.rest)))
    intro A' w' hpost
    by_cases his : i = s
    · subst his
      rw [if_pos rfl] at hpost
      obtain ⟨rfl, hx, hF, hG⟩ := hpost
      obtain ⟨e, he, hb, rfl⟩ := TS.waits o ho'
      exact ih _ _ _ (by simpa using hs) hfuel hcount (hk.store T TS hsq ho' (hall e he hb) hx hF hG)
    · rw [if_neg his] at hpost
      obtain ⟨v, rfl, hx, hF⟩ := hpost
      exact ih _ _ _ (by simpa using hs) hfuel hcount (hk.step hst hgt T TS hs ho' his h0 hx hF)

/-- THE REGION, BY WHAT IS KNOWN OF EACH VALUE, AND OF THE WORLD BEHIND THE STORE. -/
theorem wp_region_facts_s {id : Nat} {Q : Exit → Act → World → Prop} {w : World} (F : Nat → Value → World → Prop) (G : Value → World → Prop) (s q t : Nat) (hm : P.follows .mixedOrders = true) (hB : factsOkG l a0.tmps.size = true) (hB2 : storeOk l s q t = true) (hsq : s ≠ q) (hsl : s < l.length) (hg : GuardsMet F l) (hw : Ext W w)
    (hst : ∀ i v w w', F i v w → Ext w w' → F i v w') (hgt : ∀ v w w', G v w → Ext w w' → G v w')
    (hS : StepsOkS P W a0 F G l s t l 0) (hE : ∀ A w, Known W a0 F l (fun j => decide (j < l.length)) A w → G (A.tmps.getD t undef) w → Q .normal A w) : (Code.region id l.toArray true).wp P Q a0 w := by
  refine wp_region_any hm ?_
  simp only [List.size_toArray]
  refine wpAny_factsS hst hgt (factsOkG_spec hB) (storeOk_spec hB2) hsq hg hS (fun A w hk => hE A w hk.toKnown (hk.eff (by simpa using hsl)).2) l.length _ a0 _ (by simp) (fun h => ?_) ?_ ⟨⟨hw.drew, rfl, rfl, fun j d _ hl => ?_, fun t _ => rfl⟩, fun hl => ?_⟩
  · have : l = [] := List.eq_nil_of_length_eq_zero h
    subst this
    rfl
  · rw [Array.toList_replicate, left_replicate]; exact Nat.le_refl _
  · rw [none_listed] at hl; cases hl
  · rw [none_listed] at hl; cases hl
end

end Go.Proofs.YtjoglnjpgkobeaaGreatDoor

/-
  A REGION THAT DRAWS ITS ORDER, WITH STORES: by what is known of each operation's value, and by one claim on what is done, the temporaries and the world, which every operation keeps.
-/
namespace Go.Proofs.YtjoglnjpgkobeaaGreatDoor
open Go Go.RowKit
set_option linter.all false
set_option linter.unusedVariables false
set_option linter.unusedSimpArgs false

section
variable {P : Program} {W : World} {a0 : Act} {F : Nat → Value → World → Prop} {J : (Nat → Bool) → (Tmp → Value) → World → Prop} {l : List Oper}

/-- The temporaries of a state. -/
def tau (A : Act) : Tmp → Value := fun t => A.tmps.getD t undef
/-- What is owed of operation i. -/
def StepJ (P : Program) (W : World) (a0 : Act) (F : Nat → Value → World → Prop) (J : (Nat → Bool) → (Tmp → Value) → World → Prop) (l : List Oper) (i : Nat) (o : Oper) : Prop :=
  ∀ (L : Nat → Bool) (A : Act) (w : World), Ext W w → L i = false → (∀ e ∈ o.after, Region.binds .any e = true → L e.on = true) → A.tmps.size = a0.tmps.size → depFacts F l A w o.after.toList → (∀ t : Tmp, (∀ j : Nat, (l[j]?).bind Oper.dst ≠ some t) → A.tmps.getD t undef = a0.tmps.getD t undef) → J L (tau A) w →
    o.wp P A w (fun A' w' => ∃ v, A' = A.put o.dst v ∧ Ext W w' ∧ (∀ j u, F j u w → F j u w') ∧ F i v w' ∧ J (fun j => L j || j == i) (tau A') w') NoWay
def StepsJ (P : Program) (W : World) (a0 : Act) (F : Nat → Value → World → Prop) (J : (Nat → Bool) → (Tmp → Value) → World → Prop) (l : List Oper) : List Oper → Nat → Prop
  | [], _ => True
  | o :: r, i => StepJ P W a0 F J l i o ∧ StepsJ P W a0 F J l r (i + 1)
theorem StepsJ.get : ∀ (r : List Oper) (k : Nat), StepsJ P W a0 F J l r k → ∀ (j : Nat) (o : Oper), r[j]? = some o → StepJ P W a0 F J l (k + j) o
  | [], _, _, _, _, hj => by simp at hj
  | x :: r, k, h, 0, o, hj => by simp at hj; subst hj; exact h.1
  | x :: r, k, h, j + 1, o, hj => by
    have := StepsJ.get r (k + 1) h.2 j o (by simpa using hj)
    rwa [show k + 1 + j = k + (j + 1) by omega] at this

/-- What the claim looks at. -/
def Looks (J : (Nat → Bool) → (Tmp → Value) → World → Prop) (S : List Nat) (T : List Tmp) : Prop :=
  ∀ (L L' : Nat → Bool) (τ τ' : Tmp → Value) (w w' : World), (∀ s, s ∈ S → L' s = L s) → (∀ t, t ∈ T → τ' t = τ t) → Ext w w' → J L τ w → J L' τ' w'
theorem tau_put {A : Act} {d : Option Tmp} {v : Value} {t : Tmp} (h : d ≠ some t) : tau (A.put d v) t = tau A t := by
  unfold tau
  cases d with
  | none => rfl
  | some d => rw [put_getD, if_neg (fun hh => h (by rw [hh.1]))]
theorem tau_here {A : Act} {d : Tmp} {v : Value} (h : d < A.tmps.size) : tau (A.put (some d) v) d = v := by
  unfold tau
  rw [put_getD, if_pos ⟨rfl, h⟩]
/-- An operation at which the claim does not look. -/
theorem StepJ.plain {S : List Nat} {T : List Tmp} {i : Nat} {o : Oper} (hl : Looks J S T) (hst : ∀ i v w w', F i v w → Ext w w' → F i v w') (hi : decide (i ∈ S) = false) (hd : (match o.dst with | some d => decide (d ∈ T) | none => false) = false) (h : StepOk P W a0 F l i o) : StepJ P W a0 F J l i o := by
  intro L A w hx hli haf hsz hdep hrest hJ
  refine Oper.wp_mono ?_ (h A w hx hdep hrest)
  rintro A' w' ⟨v, rfl, hx', hF⟩
  refine ⟨v, rfl, hx.trans hx', fun j u hj => hst _ _ _ _ hj hx', hF, hl _ _ _ _ _ _ (fun s hs => ?_) (fun t ht => tau_put (fun e => ?_)) hx' hJ⟩
  · have : s ≠ i := by rintro rfl; exact absurd hs (of_decide_eq_false hi)
    simp [this]
  · rw [e] at hd
    exact absurd ht (of_decide_eq_false hd)

structure KnownJ (W : World) (a0 : Act) (F : Nat → Value → World → Prop) (J : (Nat → Bool) → (Tmp → Value) → World → Prop) (l : List Oper) (listed : Nat → Bool) (A : Act) (w : World) : Prop extends Known W a0 F l listed A w where
  claim : J listed (tau A) w

theorem listed_set {listed : Array Bool} {i : Nat} (hi : i < listed.size) : (fun j => (listed.setIfInBounds i true).getD j false) = fun j => (fun j => listed.getD j false) j || j == i := by
  funext j
  by_cases h : i = j
  · subst h
    simp [hi]
  · rw [getD_set_ne false h]
    have : (j == i) = false := by simpa using fun e : j = i => h e.symm
    simp only [this, Bool.or_false]

theorem KnownJ.step (T : FactsOkG l a0.tmps.size) {listed : Array Bool} {A : Act} {w : World} (hls : listed.size = l.length) (h : KnownJ W a0 F J l (fun j => listed.getD j false) A w)
    {i : Nat} {o : Oper} (ho : l[i]? = some o) {v : Value} {w' : World} (hx : Ext W w') (hst : ∀ j u, F j u w → F j u w') (hF : F i v w') (hJ : J (fun j => listed.getD j false || j == i) (tau (A.put o.dst v)) w') : KnownJ W a0 F J l (fun j => (listed.setIfInBounds i true).getD j false) (A.put o.dst v) w' := by
  have hd0 : (l[i]?).bind Oper.dst = o.dst := by rw [ho]; rfl
  have hil : i < listed.size := by rw [hls]; exact (List.getElem?_eq_some_iff.1 ho).1
  have hsz : (A.put o.dst v).tmps.size = a0.tmps.size := by
    cases hdd : o.dst <;> simp [Act.put, h.size]
  have hdf : (A.put o.dst v).defers = a0.defers := by
    cases hdd : o.dst <;> simp [Act.put, h.defers]
  have hother : ∀ t, o.dst ≠ some t → (A.put o.dst v).tmps.getD t undef = A.tmps.getD t undef := fun t ht => tau_put ht
  refine ⟨⟨hx, hsz, hdf, fun j d hj hl => ?_, fun t ht => ?_⟩, ?_⟩
  · by_cases hij : i = j
    · subst hij
      rw [hd0] at hj
      rw [hj, put_getD, if_pos ⟨rfl, by rw [h.size]; exact T.lt i d (by rw [hd0]; exact hj)⟩]
      exact hF
    · rw [getD_set_ne false hij] at hl
      rw [hother d (fun hh => hij (T.apart i j d (by rw [hd0]; exact hh) hj))]
      exact hst _ _ (h.done j d hj hl)
  · rw [hother t (fun hh => ht i (by rw [hd0]; exact hh))]
    exact h.rest t ht
  · rw [listed_set hil]
    exact hJ

theorem wpAny_factsJ {Q : Exit → Act → World → Prop} (T : FactsOkG l a0.tmps.size) (hg : GuardsMet F l) (hS : StepsJ P W a0 F J l l 0)
    (hE : ∀ A w, KnownJ W a0 F J l (fun j => decide (j < l.length)) A w → Q .normal A w) :
    ∀ (fuel : Nat) (listed : Array Bool) (A : Act) (w : World), listed.size = l.length → (fuel = 0 → Region.ready .any l.toArray listed = []) → left listed.toList ≤ fuel → KnownJ W a0 F J l (fun j => listed.getD j false) A w →
      wpAny P .any l.toArray Q fuel listed A w := by
  have hO := T.order
  have fin : ∀ (listed : Array Bool) (A : Act) (w : World), listed.size = l.length → Region.ready .any l.toArray listed = [] → KnownJ W a0 F J l (fun j => listed.getD j false) A w → Q .normal A w := by
    intro listed A w hs hr hk
    have all : ∀ n i, i < n → i < l.length → listed.getD i true = true := by
      intro n
      induction n with
      | zero => intro i hi; omega
      | succ n ih =>
        intro i hin hi
        cases hl : listed.getD i true with
        | true => rfl
        | false =>
          have : i ∈ Region.ready .any l.toArray listed := mem_ready.2 ⟨hl, l[i], by simp [List.getElem?_eq_getElem hi], fun e he hb => by
            have hlt := hO i l[i] (List.getElem?_eq_getElem hi) e he hb
            have := ih e.on (by omega) (by omega)
            have hz : e.on < listed.size := by omega
            simpa [hz] using this⟩
          rw [hr] at this; cases this
    have allf : (fun j => listed.getD j false) = fun j => decide (j < l.length) := by
      funext j
      rcases Nat.lt_or_ge j l.length with hjl | hjl
      · have := all (j + 1) j (by omega) hjl
        have hz : j < listed.size := by omega
        simpa [hz, hjl] using this
      · have hz : ¬ j < listed.size := by omega
        have : ¬ j < l.length := by omega
        simp [Array.getElem?_eq_none (by omega : listed.size ≤ j), this]
    rw [allf] at hk
    exact hE A w hk
  intro fuel
  induction fuel with
  | zero =>
    intro listed A w hs h0 _ hk
    exact ⟨h0 rfl, fin listed A w hs (h0 rfl) hk⟩
  | succ fuel ih =>
    intro listed A w hs _ hc hk
    refine ⟨fun hr => fin listed A w hs hr hk, fun i hi => ?_⟩
    obtain ⟨h0, o, ho, hall⟩ := mem_ready.1 hi
    have ho' : l[i]? = some o := by simpa using ho
    have hil : i < l.length := (List.getElem?_eq_some_iff.1 ho').1
    have hzi : i < listed.size := by omega
    have hli : listed.getD i false = false := by
      simp [hzi] at h0
      simp [hzi, h0]
    have hcount : left (listed.setIfInBounds i true).toList ≤ fuel := by
      have hget : listed.toList[i]? = some false := by
        simp [hzi] at h0
        simp [hzi, h0]
      have := left_set listed.toList i hget
      rw [show (listed.setIfInBounds i true).toList = listed.toList.set i true by simp]
      omega
    have hfuel : fuel = 0 → Region.ready .any l.toArray (listed.setIfInBounds i true) = [] := by
      intro hf
      subst hf
      rw [List.eq_nil_iff_forall_not_mem]
      intro j hj
      obtain ⟨hj0, y, hy, _⟩ := mem_ready.1 hj
      have hjl : j < l.length := by
        have := (Array.getElem?_eq_some_iff.1 hy).1
        simpa using this
      have hz : j < (listed.setIfInBounds i true).size := by simpa [hs] using hjl
      have : false ∈ (listed.setIfInBounds i true).toList := by
        simp only [Array.getD_eq_getD_getElem?, Array.getElem?_eq_getElem hz, Option.getD_some] at hj0
        rw [← hj0]
        exact Array.mem_toList_iff.2 (Array.getElem_mem _)
      have := left_pos _ this
      omega
    unfold wpOp
    simp only [List.getElem?_toArray, ho']
    rw [if_pos (wanted_of T hg ho' hk.size hk.done hall)]
    have hstep := StepsJ.get l 0 hS i o ho'
    rw [Nat.zero_add] at hstep
    refine .inl (Oper.wp_mono ?_ (Oper.wp_noWay (hstep (fun j => listed.getD j false) A w hk.ext hli hall hk.size (depFacts_of hk.done o.after.toList (fun e he hb => hall e (by simpa using he) hb)) hk.rest hk.claim)))
    rintro A' w' ⟨v, rfl, hx, hst, hF, hJ⟩
    exact ih _ _ _ (by simpa using hs) hfuel hcount (hk.step T hs ho' hx hst hF hJ)

/-- THE REGION, BY WHAT IS KNOWN OF EACH VALUE, AND BY A CLAIM THAT EVERY OPERATION KEEPS. -/
theorem wp_region_facts_j {id : Nat} {Q : Exit → Act → World → Prop} {w : World} (F : Nat → Value → World → Prop) (J : (Nat → Bool) → (Tmp → Value) → World → Prop) (hm : P.follows .mixedOrders = true) (hB : factsOkG l a0.tmps.size = true) (hg : GuardsMet F l) (hw : Ext W w)
    (h0 : J (fun _ => false) (tau a0) w.drew)
    (hS : StepsJ P W a0 F J l l 0) (hE : ∀ A w, Known W a0 F l (fun j => decide (j < l.length)) A w → J (fun j => decide (j < l.length)) (tau A) w → Q .normal A w) : (Code.region id l.toArray true).wp P Q a0 w := by
  refine wp_region_any hm ?_
  simp only [List.size_toArray]
  have hf : (fun j => (Array.replicate l.length false).getD j false) = fun _ => false := by
    funext j
    exact none_listed ..
  refine wpAny_factsJ (factsOkG_spec hB) hg hS (fun A w hk => hE A w hk.toKnown hk.claim) l.length _ a0 _ (by simp) (fun h => ?_) ?_ ⟨⟨hw.drew, rfl, rfl, fun j d _ hl => ?_, fun t _ => rfl⟩, ?_⟩
  · have : l = [] := List.eq_nil_of_length_eq_zero h
    subst this
    rfl
  · rw [Array.toList_replicate, left_replicate]; exact Nat.le_refl _
  · rw [none_listed] at hl; cases hl
  · rw [hf]; exact h0
end

end Go.Proofs.YtjoglnjpgkobeaaGreatDoor
