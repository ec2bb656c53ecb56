/-
  A REGION THAT DRAWS ITS ORDER, WHOSE LAST OPERATION WAITS FOR ALL OTHERS: those others by one walk, then the last one.
-/
import Derived.Lib.IndexMore
import Derived.Deep.Slices
import Derived.ChangeReads
import Derived.DataShut
import Derived.Test.YtjoglnjpgkobeaaGreatDoorRows
import Derived.Test.YtjoglnjpgkobeaaGreatDoorProg
import Derived.Test.YtjoglnjpgkobeaaGreatDoorS1
namespace Go.Proofs.YtjoglnjpgkobeaaGreatDoor
open Go Go.RowKit
set_option linter.all false
set_option linter.unusedVariables false
set_option linter.unusedSimpArgs false
/-- Does 'o' wait for all of 'l', and is 'l' in order, and does it look at itself alone? -/
def tailOk (l : List Oper) (o : Oper) : Bool :=
  o.guard.isNone && (List.range l.length).all (fun i => o.after.any fun e => Region.binds .any e && e.on == i) && o.after.all (fun e => !Region.binds .any e || decide (e.on < l.length)) &&
    (List.range l.length).all (fun i => match l[i]? with
      | some x => x.after.all (fun e => !Region.binds .any e || decide (e.on < i)) && (match x.guard with | none => true | some (j, _) => decide (j < l.length))
      | none => true)
section
variable {P : Program} {l : List Oper} {o : Oper}
structure TailFacts (l : List Oper) (o : Oper) : Prop where
  guard : o.guard = none
  waits : ∀ i, i < l.length → ∃ e ∈ o.after, Region.binds .any e = true ∧ e.on = i
  last : ∀ e ∈ o.after, Region.binds .any e = true → e.on < l.length
  order : ∀ (i : Nat) (x : Oper), l[i]? = some x → ∀ e ∈ x.after, Region.binds .any e = true → e.on < i
  guards : ∀ (i : Nat) (x : Oper), l[i]? = some x → ∀ j b, x.guard = some (j, b) → j < l.length
theorem tailOk_facts (h : tailOk l o = true) : TailFacts l o := by
  simp only [tailOk, Bool.and_eq_true, List.all_eq_true, List.mem_range, Array.all_eq_true_iff_forall_mem, Bool.or_eq_true, Bool.not_eq_true', decide_eq_true_eq] at h
  obtain ⟨⟨⟨h1, h2⟩, h3⟩, h4⟩ := h
  have lt : ∀ {i : Nat} {x : Oper}, l[i]? = some x → i < l.length := fun hi => (List.getElem?_eq_some_iff.1 hi).1
  refine ⟨by simpa using h1, fun i hi => ?_, fun e he hb => ?_, fun i x hx e he hb => ?_, fun i x hx j b hg => ?_⟩
  · obtain ⟨e, he, hb⟩ := Array.any_eq_true'.1 (h2 i hi)
    simp only [Bool.and_eq_true, beq_iff_eq] at hb
    exact ⟨e, he, hb.1, hb.2⟩
  · rcases h3 e he with h | h
    · rw [h] at hb; cases hb
    · exact h
  · have := h4 i (lt hx)
    simp only [hx, Bool.and_eq_true, Array.all_eq_true_iff_forall_mem, Bool.or_eq_true, Bool.not_eq_true', decide_eq_true_eq] at this
    rcases this.1 e he with h | h
    · rw [h] at hb; cases hb
    · exact h
  · have := h4 i (lt hx)
    simp only [hx, Bool.and_eq_true, hg, decide_eq_true_eq] at this
    exact this.2
theorem push_getD {listed : Array Bool} {j : Nat} (d : Bool) (h : j < listed.size) : (listed.push false).getD j d = listed.getD j d := by
  simp [Array.getElem?_push_lt h, h]
theorem full_at {i : Nat} (h : i < l.length) : (l ++ [o]).toArray[i]? = l.toArray[i]? := by
  simp [List.getElem?_append_left h]
theorem ready_before (T : TailFacts l o) {listed : Array Bool} (hs : listed.size = l.length) {i : Nat} (hi : i < l.length) :
    i ∈ Region.ready .any (l ++ [o]).toArray (listed.push false) ↔ i ∈ Region.ready .any l.toArray listed := by
  rw [mem_ready, mem_ready, push_getD true (by omega), full_at hi]
  constructor
  · rintro ⟨h0, x, hx, hall⟩
    refine ⟨h0, x, hx, fun e he hb => ?_⟩
    have := T.order i x (by simpa using hx) e he hb
    rw [← push_getD false (by omega)]; exact hall e he hb
  · rintro ⟨h0, x, hx, hall⟩
    refine ⟨h0, x, hx, fun e he hb => ?_⟩
    have := T.order i x (by simpa using hx) e he hb
    rw [push_getD false (by omega)]; exact hall e he hb
theorem all_listed (T : TailFacts l o) {listed : Array Bool} (hs : listed.size = l.length) (h : Region.ready .any l.toArray listed = []) : ∀ n i, i < n → i < l.length → listed.getD i true = true := by
  intro n
  induction n with
  | zero => intro i hi; omega
  | succ n ih =>
    intro i hin hi
    cases hl : listed.getD i true with
    | true => rfl
    | false =>
      have : i ∈ Region.ready .any l.toArray listed := mem_ready.2 ⟨hl, l[i], by simp [List.getElem?_eq_getElem hi], fun e he hb => by
        have hlt := T.order i l[i] (List.getElem?_eq_getElem hi) e he hb
        have := ih e.on (by omega) (by omega)
        have hz : e.on < listed.size := by omega
        simpa [hz] using this⟩
      rw [h] at this; cases this
theorem last_ready (T : TailFacts l o) {listed : Array Bool} (hs : listed.size = l.length) :
    l.length ∈ Region.ready .any (l ++ [o]).toArray (listed.push false) ↔ Region.ready .any l.toArray listed = [] := by
  constructor
  · intro h
    obtain ⟨_, x, hx, hall⟩ := mem_ready.1 h
    have hxo : x = o := by simpa using hx.symm
    subst hxo
    rw [List.eq_nil_iff_forall_not_mem]
    intro i hi
    obtain ⟨h0, y, hy, _⟩ := mem_ready.1 hi
    have hlt : i < l.length := by
      have := (Array.getElem?_eq_some_iff.1 hy).1
      simpa using this
    obtain ⟨e, he, hb, heq⟩ := T.waits i hlt
    have := hall e he hb
    rw [heq, push_getD false (by omega)] at this
    have hz : i < listed.size := by omega
    simp [hz] at h0 this
    rw [h0] at this; cases this
  · intro h
    refine mem_ready.2 ⟨?_, o, by simp, fun e he hb => ?_⟩
    · rw [← hs]; simp
    · have hlt := T.last e he hb
      have := all_listed T hs h (e.on + 1) e.on (by omega) hlt
      rw [push_getD false (by omega)]
      have hz : e.on < listed.size := by omega
      simpa [hz] using this
theorem ready_lt {ops : Array Oper} {listed : Array Bool} {i : Nat} (h : i ∈ Region.ready .any ops listed) : i < ops.size := by
  obtain ⟨_, y, hy, _⟩ := mem_ready.1 h
  exact (Array.getElem?_eq_some_iff.1 hy).1
/-- What stands behind all but the last. -/
def TailPost (P : Program) (o : Oper) (Q : Exit → Act → World → Prop) : Exit → Act → World → Prop
  | .normal, a, w => o.wp P a w (fun a w => Q .normal a w) Q
  | e, a, w => Q e a w
theorem Oper.wp_tail {x : Oper} {a : Act} {w : World} {K : Act → World → Prop} {Q : Exit → Act → World → Prop} (h : x.wp P a w K (TailPost P o Q)) : x.wp P a w K Q := by
  unfold Oper.wp at *
  generalize (execOp a.eval x).run P w = r at *
  cases r with
  | ok n w' =>
    cases n <;> simp only [Oper.upon] at h ⊢ <;>
      first
        | exact h
        | exact Calls.mono h (fun e w'' he => by cases e <;> exact he)
        | exact h.elim
  | halt y w' => cases y <;> simp only [Oper.upon] at h ⊢ <;> exact h
theorem wpAny_tail (T : TailFacts l o) {Q : Exit → Act → World → Prop} : ∀ (fuel : Nat) (listed : Array Bool) (a : Act) (w : World), listed.size = l.length →
    wpAny P .any l.toArray (TailPost P o Q) fuel listed a w → wpAny P .any (l ++ [o]).toArray Q (fuel + 1) (listed.push false) a w := by
  -- the last one, when all others have come up
  have done : ∀ (fuel : Nat) (listed : Array Bool) (a : Act) (w : World), listed.size = l.length → Region.ready .any l.toArray listed = [] → o.wp P a w (fun a w => Q .normal a w) Q →
      wpOp P (l ++ [o]).toArray Q l.length (wpAny P .any (l ++ [o]).toArray Q fuel ((listed.push false).setIfInBounds l.length true)) a w := by
    intro fuel listed a w hs hr h
    have hnil : Region.ready .any (l ++ [o]).toArray ((listed.push false).setIfInBounds l.length true) = [] := by
      rw [List.eq_nil_iff_forall_not_mem]
      intro i hi
      obtain ⟨h0, y, hy, hall⟩ := mem_ready.1 hi
      have hlt := ready_lt hi
      simp only [List.size_toArray, List.length_append, List.length_cons, List.length_nil] at hlt
      by_cases hin : i = l.length
      · subst hin
        simp [hs] at h0
      · rw [getD_set_ne true (Ne.symm hin), push_getD true (by omega)] at h0
        have := all_listed T hs hr (i + 1) i (by omega) (by omega)
        rw [h0] at this; cases this
    unfold wpOp
    simp only [List.getElem?_toArray, List.getElem?_append_right (Nat.le_refl _), Nat.sub_self, List.getElem?_cons_zero]
    rw [if_pos (by simp [Region.wanted, T.guard])]
    refine .inl (Oper.wp_mono (fun a' w' hq => ?_) h)
    cases fuel with
    | zero => exact ⟨hnil, hq⟩
    | succ fuel => exact ⟨fun _ => hq, fun i hi => by rw [hnil] at hi; cases hi⟩
  intro fuel
  induction fuel with
  | zero =>
    intro listed a w hs h
    refine ⟨fun h0 => ?_, fun i hi => ?_⟩
    · have := (last_ready T hs).2 h.1
      rw [h0] at this; cases this
    · have hlt := ready_lt hi
      simp only [List.size_toArray, List.length_append, List.length_cons, List.length_nil] at hlt
      by_cases hin : i = l.length
      · subst hin; exact done 0 listed a w hs h.1 h.2
      · have := (ready_before T hs (by omega)).1 hi
        rw [h.1] at this; cases this
  | succ fuel ih =>
    intro listed a w hs h
    refine ⟨fun h0 => ?_, fun i hi => ?_⟩
    · have hr : Region.ready .any l.toArray listed = [] := by
        rw [List.eq_nil_iff_forall_not_mem]
        intro i hi
        have hlt := ready_lt hi
        have := (ready_before T hs (by simpa using hlt)).2 hi
        rw [h0] at this; cases this
      have := (last_ready T hs).2 hr
      rw [h0] at this; cases this
    · have hlt := ready_lt hi
      simp only [List.size_toArray, List.length_append, List.length_cons, List.length_nil] at hlt
      by_cases hin : i = l.length
      · subst hin
        have hr := (last_ready T hs).1 hi
        exact done (fuel + 1) listed a w hs hr (h.1 hr)
      · have hil : i < l.length := by omega
        have hi' := (ready_before T hs hil).1 hi
        have h1 := h.2 i hi'
        have hset : (listed.push false).setIfInBounds i true = (listed.setIfInBounds i true).push false := by
          apply Array.ext_getElem?
          intro j
          simp only [Array.getElem?_setIfInBounds, Array.getElem?_push, Array.size_setIfInBounds, Array.size_push]
          by_cases h1 : i = j
          · subst h1
            rw [if_pos rfl, if_pos (by omega), if_neg (by omega), if_pos rfl, if_pos (by omega)]
          · rw [if_neg h1, if_neg h1]
        rw [hset]
        unfold wpOp at h1 ⊢
        rw [full_at hil]
        simp only [List.getElem?_toArray, List.getElem?_eq_getElem hil] at h1 ⊢
        have hy : Region.wanted l[i] (yielded (l ++ [o]).toArray a.tmps) = Region.wanted l[i] (yielded l.toArray a.tmps) := by
          unfold Region.wanted
          cases hg : l[i].guard with
          | none => rfl
          | some g =>
            obtain ⟨j, b⟩ := g
            have hj := T.guards i l[i] (List.getElem?_eq_getElem hil) j b hg
            simp only [yielded, full_at hj]
        rw [hy]
        split
        · rename_i hw
          rw [if_pos hw] at h1
          rcases h1 with h1 | ⟨h1, a0, w0, hq⟩
          · exact .inl (Oper.wp_mono (fun a' w' hk => ih _ a' w' (by simpa using hs) hk) (Oper.wp_tail h1))
          · exact .inr ⟨h1, a0, w0, hq⟩
        · rename_i hw
          rw [if_neg hw] at h1
          exact ih _ _ _ (by simpa using hs) h1
theorem wpQuiet_mono {ops : Array Oper} {C : World → Prop} {Q Q' : Act → Prop} (hq : ∀ a, Q a → Q' a) : ∀ (l : List Oper) (a : Act), wpQuiet P ops C Q l a → wpQuiet P ops C Q' l a
  | [], _, h => hq _ h
  | x :: r, a, h => by
    unfold wpQuiet at h ⊢
    split
    · rename_i hw; rw [if_pos hw] at h
      exact Oper.quiet_mono (fun a' => wpQuiet_mono hq r a') h
    · rename_i hw; rw [if_neg hw] at h
      exact wpQuiet_mono hq r _ h
/-- ONE WALK, AND THEN THE LAST OPERATION. -/
theorem wp_region_later_tail {id : Nat} {Q : Exit → Act → World → Prop} {a : Act} {w W : World} (l : List Oper) (o : Oper) (hm : P.follows .mixedOrders = true) (hB : Region.lexB .any l.toArray = true) (hT : tailOk l o = true) (hw : Ext W w)
    (h : wpQuiet P l.toArray (fun w' => ∃ e : Later W, w' = e.w) (fun a' => ∀ w', (∃ e : Later W, w' = e.w) → o.wp P a' w' (fun a w => Q .normal a w) Q) l a) : (Code.region id (l ++ [o]).toArray true).wp P Q a w := by
  refine wp_region_any hm ?_
  have hx : (Array.replicate (l ++ [o]).toArray.size false) = (Array.replicate l.length false).push false := by
    simp [Array.replicate_succ]
  rw [hx]
  have hsz : (l ++ [o]).toArray.size = l.length + 1 := by simp
  rw [hsz]
  refine wpAny_tail (tailOk_facts hT) l.length _ a _ (by simp) ?_
  simp only [Region.lexB, Bool.and_eq_true] at hB
  refine wpAny_of_quiet (C := fun w' => ∃ e : Later W, w' = e.w) (Q := fun a' => ∀ w', (∃ e : Later W, w' = e.w) → o.wp P a' w' (fun a w => Q .normal a w) Q) (fun _ w' hw' h => h w' hw') _ _ _ _ (Later.mk_ex hw.drew) ?_
  exact wpAnyQ_lex (C := fun w' => ∃ e : Later W, w' = e.w) (md := .any) hB.1 l 0 (Array.replicate l.length false) a (by simp) (by simpa using hB.2) h
theorem wp_region_later_last {id : Nat} {Q : Exit → Act → World → Prop} {a : Act} {w W : World} {l : List Oper} {o : Oper} (hm : P.follows .mixedOrders = true) (ho : l.reverse.head? = some o) (hB : Region.lexB .any l.dropLast.toArray = true) (hT : tailOk l.dropLast o = true) (hw : Ext W w)
    (h : wpQuiet P l.dropLast.toArray (fun w' => ∃ e : Later W, w' = e.w) (fun a' => ∀ e : Later W, o.wp P a' e.w (fun a w => Q .normal a w) Q) l.dropLast a) : (Code.region id l.toArray true).wp P Q a w := by
  have hl : l = l.dropLast ++ [o] := by
    rw [List.head?_reverse, List.getLast?_eq_some_iff] at ho
    obtain ⟨ys, rfl⟩ := ho
    simp
  have := wp_region_later_tail (id := id) (Q := Q) (a := a) (w := w) (W := W) l.dropLast o hm hB hT hw ?_
  · rwa [← hl] at this
  · refine wpQuiet_mono (fun a' h w' hw' => ?_) _ _ h
    obtain ⟨e, rfl⟩ := hw'
    exact h e
end
end Go.Proofs.YtjoglnjpgkobeaaGreatDoor

/-
  WHAT A NAME IS, as plain laws: letters, digits, underscores; no word of the language; 1 to 64 bytes.
-/
namespace Go.Proofs.YtjoglnjpgkobeaaGreatDoor
open Go
set_option linter.all false
set_option linter.unusedVariables false
set_option linter.unusedSimpArgs false
/-- The words of the language. -/
def wordsL : List (List UInt8) := [[109, 111, 100, 117, 108, 101], [105, 110], [111, 117, 116], [119, 105, 114, 101], [114, 101, 103], [99, 111, 110, 115, 116], [97, 115, 115, 105, 103, 110], [99, 111, 109, 98], [111, 110], [116, 105, 99, 107], [105, 110, 115, 116], [105, 102], [101, 108, 115, 101], [102, 111, 114], [99, 104, 101, 99, 107], [99, 97, 115, 101], [122, 101, 120, 116], [115, 101, 120, 116], [116, 114, 117, 110, 99]]
/-- They stand one behind the other, a blank around each. -/
def enc : List (List UInt8) → List UInt8
  | [] => [32]
  | a :: r => 32 :: (a ++ enc r)
theorem contains_cons (b : UInt8) (l sub : List UInt8) : Lib.contains (b :: l) sub = (sub.isPrefixOf (b :: l) || Lib.contains l sub) := by
  have hg := Lib.index_ge l sub
  unfold Lib.contains
  conv => lhs; unfold Lib.index
  by_cases h : sub.isPrefixOf (b :: l) = true
  · simp [h]
  · by_cases h1 : Lib.index l sub = -1
    · simp [h, h1]
    · have : (Lib.index l sub == -1) = false := by simpa using h1
      simp only [h, this]
      have h2 : (0 ≤ Lib.index l sub + 1) ↔ (0 ≤ Lib.index l sub) := by omega
      simp [h2]
theorem contains_nil (c : UInt8) (r : List UInt8) : Lib.contains [] (c :: r) = false := by simp [Lib.contains, Lib.index]
theorem contains_skip (a r t : List UInt8) (h : (32 : UInt8) ∉ a) : Lib.contains (a ++ r) (32 :: t) = Lib.contains r (32 :: t) := by
  induction a with
  | nil => rfl
  | cons c a ih =>
    have h1 : ¬ (32 : UInt8) = c := fun e => h (by simp [e])
    have h2 : (32 : UInt8) ∉ a := fun e => h (by simp [e])
    rw [List.cons_append, contains_cons, ih h2]
    simp [List.isPrefixOf, h1]
theorem pre_word : ∀ (s a : List UInt8) (t : List UInt8), (32 : UInt8) ∉ s → (32 : UInt8) ∉ a → (s ++ [32]).isPrefixOf (a ++ 32 :: t) = (s == a)
  | [], [], t, _, _ => by simp [List.isPrefixOf]
  | [], c :: a, t, _, ha => by
    have h1 : ¬ (32 : UInt8) = c := fun e => ha (by simp [e])
    simp [List.isPrefixOf, h1]
  | b :: s, [], t, hs, _ => by
    have h1 : ¬ b = (32 : UInt8) := fun e => hs (by simp [e])
    simp [List.isPrefixOf, h1]
  | b :: s, c :: a, t, hs, ha => by
    have ih := pre_word s a t (fun e => hs (by simp [e])) (fun e => ha (by simp [e]))
    simp only [List.cons_append, List.isPrefixOf, ih]
    by_cases h : b = c <;> simp [h]
theorem enc_head (ws : List (List UInt8)) : ∃ t, enc ws = 32 :: t := by
  cases ws with
  | nil => exact ⟨_, rfl⟩
  | cons a r => exact ⟨_, rfl⟩
theorem contains_enc (s : List UInt8) (hs : (32 : UInt8) ∉ s) : ∀ ws : List (List UInt8), (∀ a ∈ ws, (32 : UInt8) ∉ a) → Lib.contains (enc ws) (32 :: (s ++ [32])) = ws.contains s
  | [], _ => by
    rw [enc, contains_cons, contains_nil]
    cases s <;> simp [List.isPrefixOf]
  | a :: ws, h => by
    have ih := contains_enc s hs ws (fun x hx => h x (by simp [hx]))
    have ha := h a (by simp)
    obtain ⟨t, ht⟩ := enc_head ws
    rw [enc, contains_cons, contains_skip _ _ _ ha, ih]
    rw [ht, List.isPrefixOf, pre_word s a t hs ha]
    rw [List.contains_cons]
    simp
theorem contains_blank : ∀ s : List UInt8, Lib.contains s [32] = s.contains 32
  | [] => by simp [Lib.contains, Lib.index]
  | b :: s => by
    rw [contains_cons, contains_blank s, List.contains_cons]
    simp [List.isPrefixOf]
theorem words_plain : ∀ a ∈ wordsL, (32 : UInt8) ∉ a := by decide
/-- Is a text a word? -/
def isWord (s : ByteArray) : Bool := wordsL.contains s.data.toList
theorem word_iff (s : List UInt8) : (s != [] && (!Lib.contains s [32] && Lib.contains (enc wordsL) (32 :: (s ++ [32])))) = wordsL.contains s := by
  rw [contains_blank]
  by_cases h : s = []
  · subst h; decide
  · by_cases hb : (32 : UInt8) ∈ s
    · have hc : s.contains 32 = true := by simpa using hb
      have : wordsL.contains s = false := by
        cases hw : wordsL.contains s with
        | false => rfl
        | true => exact (words_plain s (by simpa using hw) hb).elim
      rw [this, hc]; simp
    · have hc : s.contains 32 = false := by simpa using hb
      rw [hc, contains_enc s hb wordsL words_plain]
      have : (s != []) = true := by simpa using h
      rw [this]; simp
/-- May a byte stand at a place of a name? -/
def letter (c : UInt8) : Bool := decide (97 ≤ c.toNat ∧ c.toNat ≤ 122 ∨ 65 ≤ c.toNat ∧ c.toNat ≤ 90 ∨ c.toNat = 95)
def okAt (i : Nat) (c : UInt8) : Bool := letter c || (decide (i ≠ 0) && decide (48 ≤ c.toNat ∧ c.toNat ≤ 57))
theorem okAt_iff {i : Nat} {c : UInt8} : okAt i c = true ↔ ((97 ≤ c.toNat ∧ c.toNat ≤ 122 ∨ 65 ≤ c.toNat ∧ c.toNat ≤ 90 ∨ c.toNat = 95) ∨ i ≠ 0 ∧ 48 ≤ c.toNat ∧ c.toNat ≤ 57) := by
  simp [okAt, letter]
theorem okAt_no {i : Nat} {c : UInt8} (h : ¬ ((97 ≤ c.toNat ∧ c.toNat ≤ 122 ∨ 65 ≤ c.toNat ∧ c.toNat ≤ 90 ∨ c.toNat = 95) ∨ i ≠ 0 ∧ 48 ≤ c.toNat ∧ c.toNat ≤ 57)) : okAt i c = false := by
  cases e : okAt i c with
  | false => rfl
  | true => exact (h (okAt_iff.1 e)).elim
/-- Is a text a name? -/
def nameP (s : ByteArray) : Prop := 1 ≤ s.size ∧ s.size ≤ 64 ∧ (∀ (i : Nat) (h : i < s.size), okAt i s.data[i] = true) ∧ isWord s = false
noncomputable def nameOk (s : ByteArray) : Bool := @decide (nameP s) (Classical.propDecidable _)
theorem nameOk_iff {s : ByteArray} : nameOk s = true ↔ nameP s := by simp [nameOk]
theorem nameOk_no {s : ByteArray} (h : ¬ nameP s) : nameOk s = false := by simp [nameOk, h]
end Go.Proofs.YtjoglnjpgkobeaaGreatDoor

/-
  HOW MANY NODES A TREE HAS, AND HOW DEEP IT IS, AS PLAIN FUNCTIONS.
-/
namespace Go.Proofs.YtjoglnjpgkobeaaGreatDoor
open Go Go.RowKit
set_option linter.all false
set_option linter.unusedVariables false
set_option linter.unusedSimpArgs false
def msize {α : Type} (sz : α → Nat) : List α → Nat
  | [] => 0
  | x :: r => sz x + msize sz r
def mdeep {α : Type} (dp : α → Nat) : List α → Nat
  | [] => 0
  | x :: r => max (dp x) (mdeep dp r)
theorem msize_append {α : Type} (sz : α → Nat) (a b : List α) : msize sz (a ++ b) = msize sz a + msize sz b := by
  induction a with
  | nil => simp [msize]
  | cons x r ih => simp only [List.cons_append, msize, ih]; omega
theorem mdeep_append {α : Type} (dp : α → Nat) (a b : List α) : mdeep dp (a ++ b) = max (mdeep dp a) (mdeep dp b) := by
  induction a with
  | nil => simp [mdeep]
  | cons x r ih => simp only [List.cons_append, mdeep, ih]; omega
theorem msize_take_succ {α : Type} (sz : α → Nat) (l : List α) (k : Nat) (h : k < l.length) : msize sz (l.take (k + 1)) = msize sz (l.take k) + sz l[k] := by
  rw [List.take_succ_eq_append_getElem h, msize_append]; simp [msize]
theorem mdeep_take_succ {α : Type} (dp : α → Nat) (l : List α) (k : Nat) (h : k < l.length) : mdeep dp (l.take (k + 1)) = max (mdeep dp (l.take k)) (dp l[k]) := by
  rw [List.take_succ_eq_append_getElem h, mdeep_append]; simp [mdeep]
theorem msize_take_le {α : Type} (sz : α → Nat) (l : List α) (k : Nat) : msize sz (l.take k) ≤ msize sz l := by
  have := msize_append sz (l.take k) (l.drop k); rw [List.take_append_drop] at this; omega
theorem msize_mem {α : Type} (sz : α → Nat) (l : List α) (x : α) (h : x ∈ l) : sz x ≤ msize sz l := by
  induction l with
  | nil => cases h
  | cons y r ih =>
    simp only [msize]
    cases h with
    | head => omega
    | tail _ ht => have := ih ht; omega
theorem mdeep_le_msize {α : Type} (dp sz : α → Nat) (l : List α) (h : ∀ x, x ∈ l → dp x ≤ sz x) : mdeep dp l ≤ msize sz l := by
  induction l with
  | nil => simp [mdeep]
  | cons y r ih =>
    have := h y (List.mem_cons_self ..)
    have := ih fun x hx => h x (List.mem_cons_of_mem _ hx)
    simp only [mdeep, msize]; omega
theorem length_le_msize {α : Type} (sz : α → Nat) (l : List α) (h : ∀ x, 1 ≤ sz x) : l.length ≤ msize sz l := by
  induction l with
  | nil => simp
  | cons y r ih => have := h y; simp only [msize, List.length_cons]; omega
mutual
def sizeX : X → Nat
  | .mk _ _ _ _ _ l => 1 + sizeXs l
def sizeXs : List X → Nat
  | [] => 0
  | x :: r => sizeX x + sizeXs r
 end
mutual
def deepX : X → Nat
  | .mk _ _ _ _ _ l => 1 + deepXs l
def deepXs : List X → Nat
  | [] => 0
  | x :: r => max (deepX x) (deepXs r)
 end
theorem sizeXs_eq (l : List X) : sizeXs l = msize sizeX l := by induction l with | nil => rfl | cons x r ih => simp [sizeXs, msize, ih]
theorem deepXs_eq (l : List X) : deepXs l = mdeep deepX l := by induction l with | nil => rfl | cons x r ih => simp [deepXs, mdeep, ih]
theorem sizeX_eq (x : X) : sizeX x = 1 + msize sizeX x.l := by cases x; rw [sizeX, sizeXs_eq]; rfl
theorem deepX_eq (x : X) : deepX x = 1 + mdeep deepX x.l := by cases x; rw [deepX, deepXs_eq]; rfl
mutual
def sizeS : S → Nat
  | .mk _ _ x l => 1 + msize sizeX x + sizeSs l
def sizeSs : List S → Nat
  | [] => 0
  | x :: r => sizeS x + sizeSs r
 end
mutual
def deepS : S → Nat
  | .mk _ _ x l => 1 + max (mdeep deepX x) (deepSs l)
def deepSs : List S → Nat
  | [] => 0
  | x :: r => max (deepS x) (deepSs r)
 end
theorem sizeSs_eq (l : List S) : sizeSs l = msize sizeS l := by induction l with | nil => rfl | cons x r ih => simp [sizeSs, msize, ih]
theorem deepSs_eq (l : List S) : deepSs l = mdeep deepS l := by induction l with | nil => rfl | cons x r ih => simp [deepSs, mdeep, ih]
theorem sizeS_eq (x : S) : sizeS x = 1 + msize sizeX x.x + msize sizeS x.l := by cases x; rw [sizeS, sizeSs_eq]; rfl
theorem deepS_eq (x : S) : deepS x = 1 + max (mdeep deepX x.x) (mdeep deepS x.l) := by cases x; rw [deepS, deepSs_eq]; rfl
def sizeB (b : Bnd) : Nat := 1 + sizeX b.x
def deepB (b : Bnd) : Nat := 1 + deepX b.x
def sizeP (b : Prt) : Nat := 1 + sizeX b.w
def deepP (b : Prt) : Nat := 1 + deepX b.w
mutual
def sizeI : Itm → Nat
  | .mk _ _ _ x s l els ps bs => 1 + msize sizeX x + msize sizeS s + sizeIs l + sizeIs els + msize sizeB ps + msize sizeB bs
def sizeIs : List Itm → Nat
  | [] => 0
  | x :: r => sizeI x + sizeIs r
 end
mutual
def deepI : Itm → Nat
  | .mk _ _ _ x s l els ps bs => 1 + max (max (max (max (max (mdeep deepX x) (mdeep deepS s)) (deepIs l)) (deepIs els)) (mdeep deepB ps)) (mdeep deepB bs)
def deepIs : List Itm → Nat
  | [] => 0
  | x :: r => max (deepI x) (deepIs r)
 end
theorem sizeIs_eq (l : List Itm) : sizeIs l = msize sizeI l := by induction l with | nil => rfl | cons x r ih => simp [sizeIs, msize, ih]
theorem deepIs_eq (l : List Itm) : deepIs l = mdeep deepI l := by induction l with | nil => rfl | cons x r ih => simp [deepIs, mdeep, ih]
theorem sizeI_eq (x : Itm) : sizeI x = 1 + msize sizeX x.x + msize sizeS x.s + msize sizeI x.l + msize sizeI x.els + msize sizeB x.params + msize sizeB x.binds := by cases x; rw [sizeI, sizeIs_eq, sizeIs_eq]; rfl
theorem deepI_eq (x : Itm) : deepI x = 1 + max (max (max (max (max (mdeep deepX x.x) (mdeep deepS x.s)) (mdeep deepI x.l)) (mdeep deepI x.els)) (mdeep deepB x.params)) (mdeep deepB x.binds) := by cases x; rw [deepI, deepIs_eq, deepIs_eq]; rfl
def sizeM (m : Mdl) : Nat := 1 + msize sizeB m.params + msize sizeP m.ports + msize sizeI m.items
def deepM (m : Mdl) : Nat := 1 + max (max (mdeep deepB m.params) (mdeep deepP m.ports)) (mdeep deepI m.items)
theorem sizeX_pos (x : X) : 1 ≤ sizeX x := by rw [sizeX_eq]; omega
theorem sizeS_pos (x : S) : 1 ≤ sizeS x := by rw [sizeS_eq]; omega
theorem sizeB_pos (x : Bnd) : 1 ≤ sizeB x := by unfold sizeB; omega
theorem sizeP_pos (x : Prt) : 1 ≤ sizeP x := by unfold sizeP; omega
theorem sizeI_pos (x : Itm) : 1 ≤ sizeI x := by rw [sizeI_eq]; omega
theorem sizeM_pos (x : Mdl) : 1 ≤ sizeM x := by unfold sizeM; omega
theorem deepX_le (x : X) : deepX x ≤ sizeX x := by
  induction x using X.ind with
  | h x ih => have := mdeep_le_msize deepX sizeX x.l ih; rw [deepX_eq, sizeX_eq]; omega
theorem deepXL_le (l : List X) : mdeep deepX l ≤ msize sizeX l := mdeep_le_msize _ _ _ fun x _ => deepX_le x
theorem deepS_le (x : S) : deepS x ≤ sizeS x := by
  induction x using S.ind with
  | h x ih => have := mdeep_le_msize deepS sizeS x.l ih; have := deepXL_le x.x; rw [deepS_eq, sizeS_eq]; omega
theorem deepSL_le (l : List S) : mdeep deepS l ≤ msize sizeS l := mdeep_le_msize _ _ _ fun x _ => deepS_le x
theorem deepB_le (x : Bnd) : deepB x ≤ sizeB x := by have := deepX_le x.x; unfold deepB sizeB; omega
theorem deepBL_le (l : List Bnd) : mdeep deepB l ≤ msize sizeB l := mdeep_le_msize _ _ _ fun x _ => deepB_le x
theorem deepP_le (x : Prt) : deepP x ≤ sizeP x := by have := deepX_le x.w; unfold deepP sizeP; omega
theorem deepPL_le (l : List Prt) : mdeep deepP l ≤ msize sizeP l := mdeep_le_msize _ _ _ fun x _ => deepP_le x
theorem deepI_le (x : Itm) : deepI x ≤ sizeI x := by
  induction x using Itm.ind with
  | h x ih1 ih2 =>
    have := mdeep_le_msize deepI sizeI x.l ih1; have := mdeep_le_msize deepI sizeI x.els ih2; have := deepXL_le x.x; have := deepSL_le x.s; have := deepBL_le x.params; have := deepBL_le x.binds
    rw [deepI_eq, sizeI_eq]; omega
theorem deepIL_le (l : List Itm) : mdeep deepI l ≤ msize sizeI l := mdeep_le_msize _ _ _ fun x _ => deepI_le x
theorem deepM_le (x : Mdl) : deepM x ≤ sizeM x := by
  have := deepBL_le x.params; have := deepPL_le x.ports; have := deepIL_le x.items
  unfold deepM sizeM; omega
theorem deepML_le (l : List Mdl) : mdeep deepM l ≤ msize sizeM l := mdeep_le_msize _ _ _ fun x _ => deepM_le x
end Go.Proofs.YtjoglnjpgkobeaaGreatDoor

/-
  WHICH TREES MAY BE, as plain laws.
-/
namespace Go.Proofs.YtjoglnjpgkobeaaGreatDoor
open Go
set_option linter.all false
set_option linter.unusedVariables false
set_option linter.unusedSimpArgs false
/-- A truth as a Bool. -/
noncomputable def yes (p : Prop) : Bool := @decide p (Classical.propDecidable _)
theorem yes_iff {p : Prop} : yes p = true ↔ p := by simp [yes]
theorem yes_no {p : Prop} : yes p = false ↔ ¬ p := by simp [yes]
theorem yes_congr {p q : Prop} (h : p ↔ q) : yes p = yes q := by
  rw [Bool.eq_iff_iff, yes_iff, yes_iff, h]
def isNamed (op : Int) : Prop := op = 2 ∨ op = 3 ∨ op = 4
def partsOk (op : Int) (n : Int) : Prop := (op = 1 ∨ op = 2) ∧ n = 0 ∨ (op = 4 ∨ op = 5) ∧ n = 1 ∨ (op = 3 ∨ op = 6 ∨ op = 9 ∨ op = 10) ∧ n = 2 ∨ op = 7 ∧ n = 3 ∨ op = 8 ∧ 1 ≤ n
def numOk (op n : Int) : Prop := op = 5 ∧ 1 ≤ n ∧ n ≤ 6 ∨ op = 6 ∧ 11 ≤ n ∧ n ≤ 26 ∨ op = 10 ∧ 31 ≤ n ∧ n ≤ 33 ∨ (op ≠ 5 ∧ op ≠ 6 ∧ op ≠ 10) ∧ n = 0
def valOk (op w v : Int) : Prop := op ≠ 1 ∧ w = 0 ∧ v = 0 ∨ op = 1 ∧ 0 ≤ w ∧ w ≤ 64 ∧ (w = 0 ∨ w = 64 ∨ v < 2 ^ w.toNat)
def nmOk (op : Int) (s : ByteArray) : Prop := isNamed op ∧ nameP s ∨ ¬ isNamed op ∧ s.size = 0
/-- May an expression's own fields be? -/
def ownX (x : X) : Prop := partsOk x.op x.l.length ∧ numOk x.op x.n ∧ valOk x.op x.w x.v ∧ nmOk x.op x.name
/-- May an expression be? -/
inductive MayX : X → Prop
  | mk (x : X) (h : ownX x) (hl : ∀ y, y ∈ x.l → MayX y) : MayX x
theorem MayX_iff {x : X} : MayX x ↔ ownX x ∧ ∀ y, y ∈ x.l → MayX y :=
  ⟨fun h => by cases h with | mk _ h hl => exact ⟨h, hl⟩, fun h => .mk x h.1 h.2⟩
/-- The bounds that every value of Go's keeps, and no text too long. -/
inductive VX : X → Prop
  | mk (x : X) (h : 0 ≤ x.v) (h2 : x.v < 18446744073709551616) (hs : x.name.size < 4294967281) (hl : ∀ y, y ∈ x.l → VX y) : VX x
theorem VX_iff {x : X} : VX x ↔ 0 ≤ x.v ∧ x.v < 18446744073709551616 ∧ x.name.size < 4294967281 ∧ ∀ y, y ∈ x.l → VX y :=
  ⟨fun h => by cases h with | mk _ h h2 hs hl => exact ⟨h, h2, hs, hl⟩, fun ⟨h, h2, hs, hl⟩ => .mk x h h2 hs hl⟩
inductive VS : S → Prop
  | mk (x : S) (hs : x.name.size < 4294967281) (hx : ∀ y, y ∈ x.x → VX y) (hl : ∀ y, y ∈ x.l → VS y) : VS x
theorem VS_iff {x : S} : VS x ↔ x.name.size < 4294967281 ∧ (∀ y, y ∈ x.x → VX y) ∧ ∀ y, y ∈ x.l → VS y :=
  ⟨fun h => by cases h with | mk _ hs hx hl => exact ⟨hs, hx, hl⟩, fun ⟨hs, hx, hl⟩ => .mk x hs hx hl⟩
/-- Is an expression a target? -/
def isTarget (x : X) : Prop := isNamed x.op
/-- Is the first of some a target? -/
def isTargets : List X → Prop
  | [] => False
  | x :: _ => isTarget x
def opAt (l : List S) (k : Nat) : Int := match l[k]? with | some s => s.op | none => 0
mutual
/-- May a statement be, that is no arm? -/
inductive MayS : S → Prop
  | assign (s : S) (h : s.op = 1) (hx : ∀ y, y ∈ s.x → MayX y) (hn : s.name.size = 0) (h2 : s.x.length = 2) (ht : isTargets s.x) (hl : s.l.length = 0) : MayS s
  | if_ (s : S) (h : s.op = 2) (hx : ∀ y, y ∈ s.x → MayX y) (hn : s.name.size = 0) (h1 : s.x.length = 1) (h2 : s.l.length = 2) (h3 : opAt s.l 0 = 5) (h4 : opAt s.l 1 = 5 ∨ opAt s.l 1 = 2) (hl : ∀ y, y ∈ s.l → MayS y) : MayS s
  | case_ (s : S) (h : s.op = 3) (hx : ∀ y, y ∈ s.x → MayX y) (hn : s.name.size = 0) (h1 : s.x.length = 1) (h2 : 1 ≤ s.l.length) (hl : ∀ (i : Nat) (hi : i < s.l.length), MayArm (i + 1 = s.l.length) s.l[i]) : MayS s
  | block (s : S) (h : s.op = 5) (hn : s.name.size = 0) (h0 : s.x.length = 0) (hl : ∀ y, y ∈ s.l → MayS y) : MayS s
  | for_ (s : S) (h : s.op = 6) (hx : ∀ y, y ∈ s.x → MayX y) (hn : nameP s.name) (h2 : s.x.length = 2) (hl : ∀ y, y ∈ s.l → MayS y) : MayS s
/-- May an arm be, the last one or not? -/
inductive MayArm : Prop → S → Prop
  | mk (p : Prop) (s : S) (h : s.op = 4) (hn : s.name.size = 0) (he : s.x.length = 0 ↔ p) (hx : ∀ y, y ∈ s.x → MayX y) (hl : ∀ y, y ∈ s.l → MayS y) : MayArm p s
end
theorem MayArm_iff {p : Prop} {s : S} : MayArm p s ↔ s.op = 4 ∧ s.name.size = 0 ∧ (s.x.length = 0 ↔ p) ∧ (∀ y, y ∈ s.x → MayX y) ∧ (∀ y, y ∈ s.l → MayS y) :=
  ⟨fun h => by cases h with | mk _ _ h hn he hx hl => exact ⟨h, hn, he, hx, hl⟩, fun ⟨h, hn, he, hx, hl⟩ => .mk p s h hn he hx hl⟩
/-- All arms may be a case's. -/
def MayArms (l : List S) : Prop := 1 ≤ l.length ∧ ∀ (i : Nat) (hi : i < l.length), MayArm (i + 1 = l.length) l[i]
def MayAll (l : List S) : Prop := ∀ y, y ∈ l → MayS y
def MayXs (l : List X) : Prop := ∀ y, y ∈ l → MayX y
theorem MayS_iff {s : S} : MayS s ↔ MayXs s.x ∧ (s.op ≠ 6 ∧ s.name.size = 0 ∨ s.op = 6 ∧ nameP s.name) ∧
    (s.op = 1 ∧ s.x.length = 2 ∧ isTargets s.x ∧ s.l.length = 0 ∨ s.op = 2 ∧ s.x.length = 1 ∧ s.l.length = 2 ∧ opAt s.l 0 = 5 ∧ (opAt s.l 1 = 5 ∨ opAt s.l 1 = 2) ∧ MayAll s.l ∨
      s.op = 3 ∧ s.x.length = 1 ∧ MayArms s.l ∨ s.op = 5 ∧ s.x.length = 0 ∧ MayAll s.l ∨ s.op = 6 ∧ s.x.length = 2 ∧ MayAll s.l) := by
  constructor
  · intro h
    cases h with
    | assign _ h hx hn h2 ht hl => exact ⟨hx, .inl ⟨by omega, hn⟩, .inl ⟨h, h2, ht, hl⟩⟩
    | if_ _ h hx hn h1 h2 h3 h4 hl => exact ⟨hx, .inl ⟨by omega, hn⟩, .inr (.inl ⟨h, h1, h2, h3, h4, hl⟩)⟩
    | case_ _ h hx hn h1 h2 hl => exact ⟨hx, .inl ⟨by omega, hn⟩, .inr (.inr (.inl ⟨h, h1, h2, hl⟩))⟩
    | block _ h hn h0 hl => exact ⟨fun y hy => (by rw [List.eq_nil_of_length_eq_zero h0] at hy; cases hy), .inl ⟨by omega, hn⟩, .inr (.inr (.inr (.inl ⟨h, h0, hl⟩)))⟩
    | for_ _ h hx hn h2 hl => exact ⟨hx, .inr ⟨h, hn⟩, .inr (.inr (.inr (.inr ⟨h, h2, hl⟩)))⟩
  · rintro ⟨hx, hn, h⟩
    rcases h with ⟨h, h2, ht, hl⟩ | ⟨h, h1, h2, h3, h4, hl⟩ | ⟨h, h1, h2, hl⟩ | ⟨h, h0, hl⟩ | ⟨h, h2, hl⟩
    · exact .assign s h hx (by omega) h2 ht hl
    · exact .if_ s h hx (by omega) h1 h2 h3 h4 hl
    · exact .case_ s h hx (by omega) h1 h2 hl
    · exact .block s h (by omega) h0 hl
    · exact .for_ s h hx (by rcases hn with hn | hn; exact (hn.1 h).elim; exact hn.2) h2 hl
/-- May binds be? -/
def MayB (b : Bnd) : Prop := nameP b.name ∧ MayX b.x
def MayP (p : Prt) : Prop := nameP p.name ∧ MayX p.w
/-- Is there a name just where there is to be one? -/
def fitsP (p : Prop) (s : ByteArray) : Prop := p ∧ nameP s ∨ ¬ p ∧ s.size = 0
def countX (op : Int) : Nat := if op = 3 ∨ op = 4 ∨ op = 9 then 2 else if op = 5 ∨ op = 6 ∨ op = 7 then 0 else 1
/-- May an item's own fields be? -/
def ownI (x : Itm) : Prop := 1 ≤ x.op ∧ x.op ≤ 10 ∧ fitsP (x.op ≠ 4 ∧ x.op ≠ 5 ∧ x.op ≠ 6 ∧ x.op ≠ 8) x.name ∧ fitsP (x.op = 7 ∨ x.op = 9) x.of ∧ x.x.length = countX x.op ∧ (x.op = 4 → isTargets x.x) ∧
  (x.op = 5 ∨ x.op = 6 ∨ x.s.length = 0) ∧ (x.op = 8 ∨ x.op = 9 ∨ x.l.length = 0) ∧ (x.op = 8 ∨ x.els.length = 0) ∧ (x.op = 7 ∨ x.params.length = 0 ∧ x.binds.length = 0)
inductive MayI : Itm → Prop
  | mk (x : Itm) (h : ownI x) (hx : MayXs x.x) (hs : MayAll x.s) (hl : ∀ y, y ∈ x.l → MayI y) (he : ∀ y, y ∈ x.els → MayI y) (hp : ∀ y, y ∈ x.params → MayB y) (hb : ∀ y, y ∈ x.binds → MayB y) : MayI x
theorem MayI_iff {x : Itm} : MayI x ↔ ownI x ∧ MayXs x.x ∧ MayAll x.s ∧ (∀ y, y ∈ x.l → MayI y) ∧ (∀ y, y ∈ x.els → MayI y) ∧ (∀ y, y ∈ x.params → MayB y) ∧ (∀ y, y ∈ x.binds → MayB y) :=
  ⟨fun h => by cases h with | mk _ h hx hs hl he hp hb => exact ⟨h, hx, hs, hl, he, hp, hb⟩, fun ⟨h, hx, hs, hl, he, hp, hb⟩ => .mk x h hx hs hl he hp hb⟩
def MayM (m : Mdl) : Prop := nameP m.name ∧ (∀ y, y ∈ m.params → MayB y) ∧ (∀ y, y ∈ m.ports → MayP y) ∧ (∀ y, y ∈ m.items → MayI y)
end Go.Proofs.YtjoglnjpgkobeaaGreatDoor

/-
  BOXES: the world behind an allocation, by name, and what lies in it ever after. CONTRACTS MET LATER. BOUNDS of binds, ports, items, modules.
-/
namespace Go.Proofs.YtjoglnjpgkobeaaGreatDoor
open Go Go.RowKit
set_option linter.all false
set_option linter.unusedVariables false
set_option linter.unusedSimpArgs false
set_option linter.unusedVariables false
theorem boxL1 (w : World) (v0 : Value) (t : TypeId) : ∃ (W1 : World) (e0 : Later W1), w.alloc (.cells #[v0] t) = e0.w ∧ Ext w W1 ∧ W1.heap.size = w.heap.size + 1 ∧ (∀ e : Later W1, e.w.cell? ⟨w.heap.size, 0, none⟩ = some v0) :=
  ⟨w.alloc (.cells #[v0] t), ⟨_, Ext.refl _⟩, rfl, Ext.new _ _, by simp, fun e => ((Blk.new w t [v0]).ext e.ext).cell 0⟩
theorem boxL2 (w : World) (v0 v1 : Value) (t : TypeId) : ∃ (W1 : World) (e0 : Later W1), w.alloc (.cells #[v0, v1] t) = e0.w ∧ Ext w W1 ∧ W1.heap.size = w.heap.size + 1 ∧ (∀ e : Later W1, e.w.cell? ⟨w.heap.size, 0, none⟩ = some v0) ∧ (∀ e : Later W1, e.w.cell? ⟨w.heap.size, 1, none⟩ = some v1) :=
  ⟨w.alloc (.cells #[v0, v1] t), ⟨_, Ext.refl _⟩, rfl, Ext.new _ _, by simp, fun e => ((Blk.new w t [v0, v1]).ext e.ext).cell 0, fun e => ((Blk.new w t [v0, v1]).ext e.ext).cell 1⟩
theorem boxL4 (w : World) (v0 v1 v2 v3 : Value) (t : TypeId) : ∃ (W1 : World) (e0 : Later W1), w.alloc (.cells #[v0, v1, v2, v3] t) = e0.w ∧ Ext w W1 ∧ W1.heap.size = w.heap.size + 1 ∧ (∀ e : Later W1, e.w.cell? ⟨w.heap.size, 0, none⟩ = some v0) ∧ (∀ e : Later W1, e.w.cell? ⟨w.heap.size, 1, none⟩ = some v1) ∧ (∀ e : Later W1, e.w.cell? ⟨w.heap.size, 2, none⟩ = some v2) ∧ (∀ e : Later W1, e.w.cell? ⟨w.heap.size, 3, none⟩ = some v3) :=
  ⟨w.alloc (.cells #[v0, v1, v2, v3] t), ⟨_, Ext.refl _⟩, rfl, Ext.new _ _, by simp, fun e => ((Blk.new w t [v0, v1, v2, v3]).ext e.ext).cell 0, fun e => ((Blk.new w t [v0, v1, v2, v3]).ext e.ext).cell 1, fun e => ((Blk.new w t [v0, v1, v2, v3]).ext e.ext).cell 2, fun e => ((Blk.new w t [v0, v1, v2, v3]).ext e.ext).cell 3⟩
theorem boxL5 (w : World) (v0 v1 v2 v3 v4 : Value) (t : TypeId) : ∃ (W1 : World) (e0 : Later W1), w.alloc (.cells #[v0, v1, v2, v3, v4] t) = e0.w ∧ Ext w W1 ∧ W1.heap.size = w.heap.size + 1 ∧ (∀ e : Later W1, e.w.cell? ⟨w.heap.size, 0, none⟩ = some v0) ∧ (∀ e : Later W1, e.w.cell? ⟨w.heap.size, 1, none⟩ = some v1) ∧ (∀ e : Later W1, e.w.cell? ⟨w.heap.size, 2, none⟩ = some v2) ∧ (∀ e : Later W1, e.w.cell? ⟨w.heap.size, 3, none⟩ = some v3) ∧ (∀ e : Later W1, e.w.cell? ⟨w.heap.size, 4, none⟩ = some v4) :=
  ⟨w.alloc (.cells #[v0, v1, v2, v3, v4] t), ⟨_, Ext.refl _⟩, rfl, Ext.new _ _, by simp, fun e => ((Blk.new w t [v0, v1, v2, v3, v4]).ext e.ext).cell 0, fun e => ((Blk.new w t [v0, v1, v2, v3, v4]).ext e.ext).cell 1, fun e => ((Blk.new w t [v0, v1, v2, v3, v4]).ext e.ext).cell 2, fun e => ((Blk.new w t [v0, v1, v2, v3, v4]).ext e.ext).cell 3, fun e => ((Blk.new w t [v0, v1, v2, v3, v4]).ext e.ext).cell 4⟩
theorem boxL6 (w : World) (v0 v1 v2 v3 v4 v5 : Value) (t : TypeId) : ∃ (W1 : World) (e0 : Later W1), w.alloc (.cells #[v0, v1, v2, v3, v4, v5] t) = e0.w ∧ Ext w W1 ∧ W1.heap.size = w.heap.size + 1 ∧ (∀ e : Later W1, e.w.cell? ⟨w.heap.size, 0, none⟩ = some v0) ∧ (∀ e : Later W1, e.w.cell? ⟨w.heap.size, 1, none⟩ = some v1) ∧ (∀ e : Later W1, e.w.cell? ⟨w.heap.size, 2, none⟩ = some v2) ∧ (∀ e : Later W1, e.w.cell? ⟨w.heap.size, 3, none⟩ = some v3) ∧ (∀ e : Later W1, e.w.cell? ⟨w.heap.size, 4, none⟩ = some v4) ∧ (∀ e : Later W1, e.w.cell? ⟨w.heap.size, 5, none⟩ = some v5) :=
  ⟨w.alloc (.cells #[v0, v1, v2, v3, v4, v5] t), ⟨_, Ext.refl _⟩, rfl, Ext.new _ _, by simp, fun e => ((Blk.new w t [v0, v1, v2, v3, v4, v5]).ext e.ext).cell 0, fun e => ((Blk.new w t [v0, v1, v2, v3, v4, v5]).ext e.ext).cell 1, fun e => ((Blk.new w t [v0, v1, v2, v3, v4, v5]).ext e.ext).cell 2, fun e => ((Blk.new w t [v0, v1, v2, v3, v4, v5]).ext e.ext).cell 3, fun e => ((Blk.new w t [v0, v1, v2, v3, v4, v5]).ext e.ext).cell 4, fun e => ((Blk.new w t [v0, v1, v2, v3, v4, v5]).ext e.ext).cell 5⟩
theorem boxL7 (w : World) (v0 v1 v2 v3 v4 v5 v6 : Value) (t : TypeId) : ∃ (W1 : World) (e0 : Later W1), w.alloc (.cells #[v0, v1, v2, v3, v4, v5, v6] t) = e0.w ∧ Ext w W1 ∧ W1.heap.size = w.heap.size + 1 ∧ (∀ e : Later W1, e.w.cell? ⟨w.heap.size, 0, none⟩ = some v0) ∧ (∀ e : Later W1, e.w.cell? ⟨w.heap.size, 1, none⟩ = some v1) ∧ (∀ e : Later W1, e.w.cell? ⟨w.heap.size, 2, none⟩ = some v2) ∧ (∀ e : Later W1, e.w.cell? ⟨w.heap.size, 3, none⟩ = some v3) ∧ (∀ e : Later W1, e.w.cell? ⟨w.heap.size, 4, none⟩ = some v4) ∧ (∀ e : Later W1, e.w.cell? ⟨w.heap.size, 5, none⟩ = some v5) ∧ (∀ e : Later W1, e.w.cell? ⟨w.heap.size, 6, none⟩ = some v6) :=
  ⟨w.alloc (.cells #[v0, v1, v2, v3, v4, v5, v6] t), ⟨_, Ext.refl _⟩, rfl, Ext.new _ _, by simp, fun e => ((Blk.new w t [v0, v1, v2, v3, v4, v5, v6]).ext e.ext).cell 0, fun e => ((Blk.new w t [v0, v1, v2, v3, v4, v5, v6]).ext e.ext).cell 1, fun e => ((Blk.new w t [v0, v1, v2, v3, v4, v5, v6]).ext e.ext).cell 2, fun e => ((Blk.new w t [v0, v1, v2, v3, v4, v5, v6]).ext e.ext).cell 3, fun e => ((Blk.new w t [v0, v1, v2, v3, v4, v5, v6]).ext e.ext).cell 4, fun e => ((Blk.new w t [v0, v1, v2, v3, v4, v5, v6]).ext e.ext).cell 5, fun e => ((Blk.new w t [v0, v1, v2, v3, v4, v5, v6]).ext e.ext).cell 6⟩
theorem boxL8 (w : World) (v0 v1 v2 v3 v4 v5 v6 v7 : Value) (t : TypeId) : ∃ (W1 : World) (e0 : Later W1), w.alloc (.cells #[v0, v1, v2, v3, v4, v5, v6, v7] t) = e0.w ∧ Ext w W1 ∧ W1.heap.size = w.heap.size + 1 ∧ (∀ e : Later W1, e.w.cell? ⟨w.heap.size, 0, none⟩ = some v0) ∧ (∀ e : Later W1, e.w.cell? ⟨w.heap.size, 1, none⟩ = some v1) ∧ (∀ e : Later W1, e.w.cell? ⟨w.heap.size, 2, none⟩ = some v2) ∧ (∀ e : Later W1, e.w.cell? ⟨w.heap.size, 3, none⟩ = some v3) ∧ (∀ e : Later W1, e.w.cell? ⟨w.heap.size, 4, none⟩ = some v4) ∧ (∀ e : Later W1, e.w.cell? ⟨w.heap.size, 5, none⟩ = some v5) ∧ (∀ e : Later W1, e.w.cell? ⟨w.heap.size, 6, none⟩ = some v6) ∧ (∀ e : Later W1, e.w.cell? ⟨w.heap.size, 7, none⟩ = some v7) :=
  ⟨w.alloc (.cells #[v0, v1, v2, v3, v4, v5, v6, v7] t), ⟨_, Ext.refl _⟩, rfl, Ext.new _ _, by simp, fun e => ((Blk.new w t [v0, v1, v2, v3, v4, v5, v6, v7]).ext e.ext).cell 0, fun e => ((Blk.new w t [v0, v1, v2, v3, v4, v5, v6, v7]).ext e.ext).cell 1, fun e => ((Blk.new w t [v0, v1, v2, v3, v4, v5, v6, v7]).ext e.ext).cell 2, fun e => ((Blk.new w t [v0, v1, v2, v3, v4, v5, v6, v7]).ext e.ext).cell 3, fun e => ((Blk.new w t [v0, v1, v2, v3, v4, v5, v6, v7]).ext e.ext).cell 4, fun e => ((Blk.new w t [v0, v1, v2, v3, v4, v5, v6, v7]).ext e.ext).cell 5, fun e => ((Blk.new w t [v0, v1, v2, v3, v4, v5, v6, v7]).ext e.ext).cell 6, fun e => ((Blk.new w t [v0, v1, v2, v3, v4, v5, v6, v7]).ext e.ext).cell 7⟩
theorem boxL9 (w : World) (v0 v1 v2 v3 v4 v5 v6 v7 v8 : Value) (t : TypeId) : ∃ (W1 : World) (e0 : Later W1), w.alloc (.cells #[v0, v1, v2, v3, v4, v5, v6, v7, v8] t) = e0.w ∧ Ext w W1 ∧ W1.heap.size = w.heap.size + 1 ∧ (∀ e : Later W1, e.w.cell? ⟨w.heap.size, 0, none⟩ = some v0) ∧ (∀ e : Later W1, e.w.cell? ⟨w.heap.size, 1, none⟩ = some v1) ∧ (∀ e : Later W1, e.w.cell? ⟨w.heap.size, 2, none⟩ = some v2) ∧ (∀ e : Later W1, e.w.cell? ⟨w.heap.size, 3, none⟩ = some v3) ∧ (∀ e : Later W1, e.w.cell? ⟨w.heap.size, 4, none⟩ = some v4) ∧ (∀ e : Later W1, e.w.cell? ⟨w.heap.size, 5, none⟩ = some v5) ∧ (∀ e : Later W1, e.w.cell? ⟨w.heap.size, 6, none⟩ = some v6) ∧ (∀ e : Later W1, e.w.cell? ⟨w.heap.size, 7, none⟩ = some v7) ∧ (∀ e : Later W1, e.w.cell? ⟨w.heap.size, 8, none⟩ = some v8) :=
  ⟨w.alloc (.cells #[v0, v1, v2, v3, v4, v5, v6, v7, v8] t), ⟨_, Ext.refl _⟩, rfl, Ext.new _ _, by simp, fun e => ((Blk.new w t [v0, v1, v2, v3, v4, v5, v6, v7, v8]).ext e.ext).cell 0, fun e => ((Blk.new w t [v0, v1, v2, v3, v4, v5, v6, v7, v8]).ext e.ext).cell 1, fun e => ((Blk.new w t [v0, v1, v2, v3, v4, v5, v6, v7, v8]).ext e.ext).cell 2, fun e => ((Blk.new w t [v0, v1, v2, v3, v4, v5, v6, v7, v8]).ext e.ext).cell 3, fun e => ((Blk.new w t [v0, v1, v2, v3, v4, v5, v6, v7, v8]).ext e.ext).cell 4, fun e => ((Blk.new w t [v0, v1, v2, v3, v4, v5, v6, v7, v8]).ext e.ext).cell 5, fun e => ((Blk.new w t [v0, v1, v2, v3, v4, v5, v6, v7, v8]).ext e.ext).cell 6, fun e => ((Blk.new w t [v0, v1, v2, v3, v4, v5, v6, v7, v8]).ext e.ext).cell 7, fun e => ((Blk.new w t [v0, v1, v2, v3, v4, v5, v6, v7, v8]).ext e.ext).cell 8⟩
/-- A later world seen from an earlier one. -/
def Later.under {W W1 : World} (e : Later W1) (h : Ext W W1) : Later W := ⟨e.w, h.trans e.ext⟩
/-- A contract that holds in every later world, and only adds to memory. -/
def ECalls (P : Program) (f : FuncId) (args : Array Value) (W : World) (v : Value) : Prop := ∀ w, Ext W w → Calls P f args w fun x w' => x = .returned v ∧ Ext w w'
theorem ECalls.still {P : Program} {f : FuncId} {args : Array Value} {W : World} {v : Value} (h : ∀ w, Ext W w → Calls P f args w fun x w' => x = .returned v ∧ w' = w) : ECalls P f args W v :=
  fun w hw => (h w hw).mono fun x w'' ⟨h1, h2⟩ => ⟨h1, by rw [h2]; exact Ext.refl _⟩
theorem ECalls.later {P : Program} {f : FuncId} {args : Array Value} {W W1 : World} {v : Value} (h : ECalls P f args W v) (hx : Ext W W1) : ECalls P f args W1 v :=
  fun w hw => h w (hx.trans hw)
theorem ECalls.at_ {P : Program} {f : FuncId} {args : Array Value} {W : World} {v : Value} (h : ECalls P f args W v) (e : Later W) : Calls P f args e.w fun x w'' => x = .returned v ∧ ∃ e' : Later W, w'' = e'.w :=
  Later.calls (h e.w e.ext)
theorem ECalls.here {P : Program} {f : FuncId} {args : Array Value} {W : World} {v : Value} (h : ECalls P f args W v) : Calls P f args W fun x w' => x = .returned v ∧ Ext W w' := h W (Ext.refl _)
/-- A fact of cells, seen from a later world. -/
theorem cellL {W W1 : World} {p : Addr} {v : Value} (h : ∀ e : Later W, e.w.cell? p = some v) (hx : Ext W W1) : ∀ e : Later W1, e.w.cell? p = some v := fun e => h (e.under hx)
theorem cellAt {W : World} {p : Addr} {v : Value} (h : W.cell? p = some v) : ∀ e : Later W, e.w.cell? p = some v := fun e => e.ext.at_ h
theorem yes_true : yes True = true := yes_iff.2 trivial
theorem yes_false : yes False = false := yes_no.2 id
theorem yes_and (p q : Prop) : yes (p ∧ q) = (yes p && yes q) := by rw [Bool.eq_iff_iff, yes_iff, Bool.and_eq_true, yes_iff, yes_iff]
theorem yes_nameP (s : ByteArray) : yes (nameP s) = nameOk s := by rw [Bool.eq_iff_iff, yes_iff, nameOk_iff]
/-- The bounds of texts and numbers, of binds, ports, items, modules. -/
def VB (b : Bnd) : Prop := b.name.size < 4294967281 ∧ VX b.x
def VP (b : Prt) : Prop := b.name.size < 4294967281 ∧ VX b.w
inductive VI : Itm → Prop
  | mk (x : Itm) (hn : x.name.size < 4294967281) (ho : x.of.size < 4294967281) (hx : ∀ y, y ∈ x.x → VX y) (hs : ∀ y, y ∈ x.s → VS y) (hl : ∀ y, y ∈ x.l → VI y) (he : ∀ y, y ∈ x.els → VI y) (hp : ∀ y, y ∈ x.params → VB y) (hb : ∀ y, y ∈ x.binds → VB y) : VI x
theorem VI_iff {x : Itm} : VI x ↔ x.name.size < 4294967281 ∧ x.of.size < 4294967281 ∧ (∀ y, y ∈ x.x → VX y) ∧ (∀ y, y ∈ x.s → VS y) ∧ (∀ y, y ∈ x.l → VI y) ∧ (∀ y, y ∈ x.els → VI y) ∧ (∀ y, y ∈ x.params → VB y) ∧ (∀ y, y ∈ x.binds → VB y) :=
  ⟨fun h => by cases h with | mk _ hn ho hx hs hl he hp hb => exact ⟨hn, ho, hx, hs, hl, he, hp, hb⟩, fun ⟨hn, ho, hx, hs, hl, he, hp, hb⟩ => .mk x hn ho hx hs hl he hp hb⟩
def VM (m : Mdl) : Prop := m.name.size < 4294967281 ∧ (∀ y, y ∈ m.params → VB y) ∧ (∀ y, y ∈ m.ports → VP y) ∧ (∀ y, y ∈ m.items → VI y)
end Go.Proofs.YtjoglnjpgkobeaaGreatDoor

/-
  A LOCAL STRUCT THAT IS LAID, AND STORED AT ONCE.
-/
namespace Go.Proofs.YtjoglnjpgkobeaaGreatDoor
open Go Go.RowKit
set_option linter.all false
set_option linter.unusedVariables false
set_option linter.unusedSimpArgs false
set_option linter.unusedVariables false
set_option linter.unusedSimpArgs false
theorem varI (w : World) (v0 v1 v2 v3 v4 v5 v6 v7 v8 : Value) : ∃ Wb Wc : World, w.alloc (.cells #[.int .i64 0, .string ⟨#[]⟩, .string ⟨#[]⟩, .slice none 0 0, .slice none 0 0, .slice none 0 0, .slice none 0 0, .slice none 0 0, .slice none 0 0] 53) = Wb ∧ (Wb.cell? ⟨w.heap.size, 0, none⟩ = some (.int .i64 0) ∧ Wb.cell? ⟨w.heap.size, 1, none⟩ = some (.string ⟨#[]⟩) ∧ Wb.cell? ⟨w.heap.size, 2, none⟩ = some (.string ⟨#[]⟩) ∧ Wb.cell? ⟨w.heap.size, 3, none⟩ = some (.slice none 0 0) ∧ Wb.cell? ⟨w.heap.size, 4, none⟩ = some (.slice none 0 0) ∧ Wb.cell? ⟨w.heap.size, 5, none⟩ = some (.slice none 0 0) ∧ Wb.cell? ⟨w.heap.size, 6, none⟩ = some (.slice none 0 0) ∧ Wb.cell? ⟨w.heap.size, 7, none⟩ = some (.slice none 0 0) ∧ Wb.cell? ⟨w.heap.size, 8, none⟩ = some (.slice none 0 0)) ∧ (Wb.frozen? ⟨w.heap.size, 0, none⟩ = false ∧ Wb.frozen? ⟨w.heap.size, 1, none⟩ = false ∧ Wb.frozen? ⟨w.heap.size, 2, none⟩ = false ∧ Wb.frozen? ⟨w.heap.size, 3, none⟩ = false ∧ Wb.frozen? ⟨w.heap.size, 4, none⟩ = false ∧ Wb.frozen? ⟨w.heap.size, 5, none⟩ = false ∧ Wb.frozen? ⟨w.heap.size, 6, none⟩ = false ∧ Wb.frozen? ⟨w.heap.size, 7, none⟩ = false ∧ Wb.frozen? ⟨w.heap.size, 8, none⟩ = false) ∧ (((((((((Wb.setCell ⟨w.heap.size, 0, none⟩ v0).setCell ⟨w.heap.size, 1, none⟩ v1).setCell ⟨w.heap.size, 2, none⟩ v2).setCell ⟨w.heap.size, 3, none⟩ v3).setCell ⟨w.heap.size, 4, none⟩ v4).setCell ⟨w.heap.size, 5, none⟩ v5).setCell ⟨w.heap.size, 6, none⟩ v6).setCell ⟨w.heap.size, 7, none⟩ v7).setCell ⟨w.heap.size, 8, none⟩ v8) = Wc ∧ Blk Wc w.heap.size 53 [v0, v1, v2, v3, v4, v5, v6, v7, v8] ∧ Ext w Wc ∧ Wc.heap.size = w.heap.size + 1 := by
  obtain ⟨Wb, hWb, hxb, hbb⟩ := box9 w (.int .i64 0) (.string ⟨#[]⟩) (.string ⟨#[]⟩) (.slice none 0 0) (.slice none 0 0) (.slice none 0 0) (.slice none 0 0) (.slice none 0 0) (.slice none 0 0) 53
  obtain ⟨Wc, hWc⟩ : ∃ Wc, Wc = (((((((((Wb.setCell ⟨w.heap.size, 0, none⟩ v0).setCell ⟨w.heap.size, 1, none⟩ v1).setCell ⟨w.heap.size, 2, none⟩ v2).setCell ⟨w.heap.size, 3, none⟩ v3).setCell ⟨w.heap.size, 4, none⟩ v4).setCell ⟨w.heap.size, 5, none⟩ v5).setCell ⟨w.heap.size, 6, none⟩ v6).setCell ⟨w.heap.size, 7, none⟩ v7).setCell ⟨w.heap.size, 8, none⟩ v8) := ⟨_, rfl⟩
  have hbc := hbb.store9 v0 v1 v2 v3 v4 v5 v6 v7 v8
  rw [← hWc] at hbc
  refine ⟨Wb, Wc, hWb.symm, hbb.get9, hbb.free9, hWc.symm, hbc, ?_, ?_⟩
  · rw [hWc]; exact (((((((((hxb.setCell (Nat.le_refl _) _).setCell (Nat.le_refl _) _).setCell (Nat.le_refl _) _).setCell (Nat.le_refl _) _).setCell (Nat.le_refl _) _).setCell (Nat.le_refl _) _).setCell (Nat.le_refl _) _).setCell (Nat.le_refl _) _).setCell (Nat.le_refl _) _)
  · rw [hWc, hWb]; simp
theorem varS (w : World) (v0 v1 v2 v3 : Value) : ∃ Wb Wc : World, w.alloc (.cells #[.int .i64 0, .string ⟨#[]⟩, .slice none 0 0, .slice none 0 0] 140) = Wb ∧ (Wb.cell? ⟨w.heap.size, 0, none⟩ = some (.int .i64 0) ∧ Wb.cell? ⟨w.heap.size, 1, none⟩ = some (.string ⟨#[]⟩) ∧ Wb.cell? ⟨w.heap.size, 2, none⟩ = some (.slice none 0 0) ∧ Wb.cell? ⟨w.heap.size, 3, none⟩ = some (.slice none 0 0)) ∧ (Wb.frozen? ⟨w.heap.size, 0, none⟩ = false ∧ Wb.frozen? ⟨w.heap.size, 1, none⟩ = false ∧ Wb.frozen? ⟨w.heap.size, 2, none⟩ = false ∧ Wb.frozen? ⟨w.heap.size, 3, none⟩ = false) ∧ ((((Wb.setCell ⟨w.heap.size, 0, none⟩ v0).setCell ⟨w.heap.size, 1, none⟩ v1).setCell ⟨w.heap.size, 2, none⟩ v2).setCell ⟨w.heap.size, 3, none⟩ v3) = Wc ∧ Blk Wc w.heap.size 140 [v0, v1, v2, v3] ∧ Ext w Wc ∧ Wc.heap.size = w.heap.size + 1 := by
  obtain ⟨Wb, hWb, hxb, hbb⟩ := box4 w (.int .i64 0) (.string ⟨#[]⟩) (.slice none 0 0) (.slice none 0 0) 140
  obtain ⟨Wc, hWc⟩ : ∃ Wc, Wc = ((((Wb.setCell ⟨w.heap.size, 0, none⟩ v0).setCell ⟨w.heap.size, 1, none⟩ v1).setCell ⟨w.heap.size, 2, none⟩ v2).setCell ⟨w.heap.size, 3, none⟩ v3) := ⟨_, rfl⟩
  have hbc := hbb.store4 v0 v1 v2 v3
  rw [← hWc] at hbc
  refine ⟨Wb, Wc, hWb.symm, hbb.get4, hbb.free4, hWc.symm, hbc, ?_, ?_⟩
  · rw [hWc]; exact ((((hxb.setCell (Nat.le_refl _) _).setCell (Nat.le_refl _) _).setCell (Nat.le_refl _) _).setCell (Nat.le_refl _) _)
  · rw [hWc, hWb]; simp
theorem varB (w : World) (v0 v1 v2 v3 v4 v5 v6 : Value) : ∃ Wb Wc : World, w.alloc (.cells #[.string ⟨#[]⟩, .int .i64 0, .string ⟨#[]⟩, .int .i64 0, .int .i64 0, .int .u64 0, .slice none 0 0] 85) = Wb ∧ (Wb.cell? ⟨w.heap.size, 0, none⟩ = some (.string ⟨#[]⟩) ∧ Wb.cell? ⟨w.heap.size, 1, none⟩ = some (.int .i64 0) ∧ Wb.cell? ⟨w.heap.size, 2, none⟩ = some (.string ⟨#[]⟩) ∧ Wb.cell? ⟨w.heap.size, 3, none⟩ = some (.int .i64 0) ∧ Wb.cell? ⟨w.heap.size, 4, none⟩ = some (.int .i64 0) ∧ Wb.cell? ⟨w.heap.size, 5, none⟩ = some (.int .u64 0) ∧ Wb.cell? ⟨w.heap.size, 6, none⟩ = some (.slice none 0 0)) ∧ (Wb.frozen? ⟨w.heap.size, 0, none⟩ = false ∧ Wb.frozen? ⟨w.heap.size, 1, none⟩ = false ∧ Wb.frozen? ⟨w.heap.size, 2, none⟩ = false ∧ Wb.frozen? ⟨w.heap.size, 3, none⟩ = false ∧ Wb.frozen? ⟨w.heap.size, 4, none⟩ = false ∧ Wb.frozen? ⟨w.heap.size, 5, none⟩ = false ∧ Wb.frozen? ⟨w.heap.size, 6, none⟩ = false) ∧ (((((((Wb.setCell ⟨w.heap.size, 0, none⟩ v0).setCell ⟨w.heap.size, 1, none⟩ v1).setCell ⟨w.heap.size, 2, none⟩ v2).setCell ⟨w.heap.size, 3, none⟩ v3).setCell ⟨w.heap.size, 4, none⟩ v4).setCell ⟨w.heap.size, 5, none⟩ v5).setCell ⟨w.heap.size, 6, none⟩ v6) = Wc ∧ Blk Wc w.heap.size 85 [v0, v1, v2, v3, v4, v5, v6] ∧ Ext w Wc ∧ Wc.heap.size = w.heap.size + 1 := by
  obtain ⟨Wb, hWb, hxb, hbb⟩ := box7 w (.string ⟨#[]⟩) (.int .i64 0) (.string ⟨#[]⟩) (.int .i64 0) (.int .i64 0) (.int .u64 0) (.slice none 0 0) 85
  obtain ⟨Wc, hWc⟩ : ∃ Wc, Wc = (((((((Wb.setCell ⟨w.heap.size, 0, none⟩ v0).setCell ⟨w.heap.size, 1, none⟩ v1).setCell ⟨w.heap.size, 2, none⟩ v2).setCell ⟨w.heap.size, 3, none⟩ v3).setCell ⟨w.heap.size, 4, none⟩ v4).setCell ⟨w.heap.size, 5, none⟩ v5).setCell ⟨w.heap.size, 6, none⟩ v6) := ⟨_, rfl⟩
  have hbc := hbb.store7 v0 v1 v2 v3 v4 v5 v6
  rw [← hWc] at hbc
  refine ⟨Wb, Wc, hWb.symm, hbb.get7, hbb.free7, hWc.symm, hbc, ?_, ?_⟩
  · rw [hWc]; exact (((((((hxb.setCell (Nat.le_refl _) _).setCell (Nat.le_refl _) _).setCell (Nat.le_refl _) _).setCell (Nat.le_refl _) _).setCell (Nat.le_refl _) _).setCell (Nat.le_refl _) _).setCell (Nat.le_refl _) _)
  · rw [hWc, hWb]; simp
theorem varP (w : World) (v0 v1 v2 v3 v4 v5 v6 v7 : Value) : ∃ Wb Wc : World, w.alloc (.cells #[.string ⟨#[]⟩, .bool false, .int .i64 0, .string ⟨#[]⟩, .int .i64 0, .int .i64 0, .int .u64 0, .slice none 0 0] 83) = Wb ∧ (Wb.cell? ⟨w.heap.size, 0, none⟩ = some (.string ⟨#[]⟩) ∧ Wb.cell? ⟨w.heap.size, 1, none⟩ = some (.bool false) ∧ Wb.cell? ⟨w.heap.size, 2, none⟩ = some (.int .i64 0) ∧ Wb.cell? ⟨w.heap.size, 3, none⟩ = some (.string ⟨#[]⟩) ∧ Wb.cell? ⟨w.heap.size, 4, none⟩ = some (.int .i64 0) ∧ Wb.cell? ⟨w.heap.size, 5, none⟩ = some (.int .i64 0) ∧ Wb.cell? ⟨w.heap.size, 6, none⟩ = some (.int .u64 0) ∧ Wb.cell? ⟨w.heap.size, 7, none⟩ = some (.slice none 0 0)) ∧ (Wb.frozen? ⟨w.heap.size, 0, none⟩ = false ∧ Wb.frozen? ⟨w.heap.size, 1, none⟩ = false ∧ Wb.frozen? ⟨w.heap.size, 2, none⟩ = false ∧ Wb.frozen? ⟨w.heap.size, 3, none⟩ = false ∧ Wb.frozen? ⟨w.heap.size, 4, none⟩ = false ∧ Wb.frozen? ⟨w.heap.size, 5, none⟩ = false ∧ Wb.frozen? ⟨w.heap.size, 6, none⟩ = false ∧ Wb.frozen? ⟨w.heap.size, 7, none⟩ = false) ∧ ((((((((Wb.setCell ⟨w.heap.size, 0, none⟩ v0).setCell ⟨w.heap.size, 1, none⟩ v1).setCell ⟨w.heap.size, 2, none⟩ v2).setCell ⟨w.heap.size, 3, none⟩ v3).setCell ⟨w.heap.size, 4, none⟩ v4).setCell ⟨w.heap.size, 5, none⟩ v5).setCell ⟨w.heap.size, 6, none⟩ v6).setCell ⟨w.heap.size, 7, none⟩ v7) = Wc ∧ Blk Wc w.heap.size 83 [v0, v1, v2, v3, v4, v5, v6, v7] ∧ Ext w Wc ∧ Wc.heap.size = w.heap.size + 1 := by
  obtain ⟨Wb, hWb, hxb, hbb⟩ := box8 w (.string ⟨#[]⟩) (.bool false) (.int .i64 0) (.string ⟨#[]⟩) (.int .i64 0) (.int .i64 0) (.int .u64 0) (.slice none 0 0) 83
  obtain ⟨Wc, hWc⟩ : ∃ Wc, Wc = ((((((((Wb.setCell ⟨w.heap.size, 0, none⟩ v0).setCell ⟨w.heap.size, 1, none⟩ v1).setCell ⟨w.heap.size, 2, none⟩ v2).setCell ⟨w.heap.size, 3, none⟩ v3).setCell ⟨w.heap.size, 4, none⟩ v4).setCell ⟨w.heap.size, 5, none⟩ v5).setCell ⟨w.heap.size, 6, none⟩ v6).setCell ⟨w.heap.size, 7, none⟩ v7) := ⟨_, rfl⟩
  have hbc := hbb.store8 v0 v1 v2 v3 v4 v5 v6 v7
  rw [← hWc] at hbc
  refine ⟨Wb, Wc, hWb.symm, hbb.get8, hbb.free8, hWc.symm, hbc, ?_, ?_⟩
  · rw [hWc]; exact ((((((((hxb.setCell (Nat.le_refl _) _).setCell (Nat.le_refl _) _).setCell (Nat.le_refl _) _).setCell (Nat.le_refl _) _).setCell (Nat.le_refl _) _).setCell (Nat.le_refl _) _).setCell (Nat.le_refl _) _).setCell (Nat.le_refl _) _)
  · rw [hWc, hWb]; simp
theorem varM (w : World) (v0 v1 v2 v3 : Value) : ∃ Wb Wc : World, w.alloc (.cells #[.string ⟨#[]⟩, .slice none 0 0, .slice none 0 0, .slice none 0 0] 33) = Wb ∧ (Wb.cell? ⟨w.heap.size, 0, none⟩ = some (.string ⟨#[]⟩) ∧ Wb.cell? ⟨w.heap.size, 1, none⟩ = some (.slice none 0 0) ∧ Wb.cell? ⟨w.heap.size, 2, none⟩ = some (.slice none 0 0) ∧ Wb.cell? ⟨w.heap.size, 3, none⟩ = some (.slice none 0 0)) ∧ (Wb.frozen? ⟨w.heap.size, 0, none⟩ = false ∧ Wb.frozen? ⟨w.heap.size, 1, none⟩ = false ∧ Wb.frozen? ⟨w.heap.size, 2, none⟩ = false ∧ Wb.frozen? ⟨w.heap.size, 3, none⟩ = false) ∧ ((((Wb.setCell ⟨w.heap.size, 0, none⟩ v0).setCell ⟨w.heap.size, 1, none⟩ v1).setCell ⟨w.heap.size, 2, none⟩ v2).setCell ⟨w.heap.size, 3, none⟩ v3) = Wc ∧ Blk Wc w.heap.size 33 [v0, v1, v2, v3] ∧ Ext w Wc ∧ Wc.heap.size = w.heap.size + 1 := by
  obtain ⟨Wb, hWb, hxb, hbb⟩ := box4 w (.string ⟨#[]⟩) (.slice none 0 0) (.slice none 0 0) (.slice none 0 0) 33
  obtain ⟨Wc, hWc⟩ : ∃ Wc, Wc = ((((Wb.setCell ⟨w.heap.size, 0, none⟩ v0).setCell ⟨w.heap.size, 1, none⟩ v1).setCell ⟨w.heap.size, 2, none⟩ v2).setCell ⟨w.heap.size, 3, none⟩ v3) := ⟨_, rfl⟩
  have hbc := hbb.store4 v0 v1 v2 v3
  rw [← hWc] at hbc
  refine ⟨Wb, Wc, hWb.symm, hbb.get4, hbb.free4, hWc.symm, hbc, ?_, ?_⟩
  · rw [hWc]; exact ((((hxb.setCell (Nat.le_refl _) _).setCell (Nat.le_refl _) _).setCell (Nat.le_refl _) _).setCell (Nat.le_refl _) _)
  · rw [hWc, hWb]; simp
theorem varX (w : World) (v0 v1 v2 v3 v4 v5 : Value) : ∃ Wb Wc : World, w.alloc (.cells #[.int .i64 0, .string ⟨#[]⟩, .int .i64 0, .int .i64 0, .int .u64 0, .slice none 0 0] 49) = Wb ∧ (Wb.cell? ⟨w.heap.size, 0, none⟩ = some (.int .i64 0) ∧ Wb.cell? ⟨w.heap.size, 1, none⟩ = some (.string ⟨#[]⟩) ∧ Wb.cell? ⟨w.heap.size, 2, none⟩ = some (.int .i64 0) ∧ Wb.cell? ⟨w.heap.size, 3, none⟩ = some (.int .i64 0) ∧ Wb.cell? ⟨w.heap.size, 4, none⟩ = some (.int .u64 0) ∧ Wb.cell? ⟨w.heap.size, 5, none⟩ = some (.slice none 0 0)) ∧ (Wb.frozen? ⟨w.heap.size, 0, none⟩ = false ∧ Wb.frozen? ⟨w.heap.size, 1, none⟩ = false ∧ Wb.frozen? ⟨w.heap.size, 2, none⟩ = false ∧ Wb.frozen? ⟨w.heap.size, 3, none⟩ = false ∧ Wb.frozen? ⟨w.heap.size, 4, none⟩ = false ∧ Wb.frozen? ⟨w.heap.size, 5, none⟩ = false) ∧ ((((((Wb.setCell ⟨w.heap.size, 0, none⟩ v0).setCell ⟨w.heap.size, 1, none⟩ v1).setCell ⟨w.heap.size, 2, none⟩ v2).setCell ⟨w.heap.size, 3, none⟩ v3).setCell ⟨w.heap.size, 4, none⟩ v4).setCell ⟨w.heap.size, 5, none⟩ v5) = Wc ∧ Blk Wc w.heap.size 49 [v0, v1, v2, v3, v4, v5] ∧ Ext w Wc ∧ Wc.heap.size = w.heap.size + 1 := by
  obtain ⟨Wb, hWb, hxb, hbb⟩ := box6 w (.int .i64 0) (.string ⟨#[]⟩) (.int .i64 0) (.int .i64 0) (.int .u64 0) (.slice none 0 0) 49
  obtain ⟨Wc, hWc⟩ : ∃ Wc, Wc = ((((((Wb.setCell ⟨w.heap.size, 0, none⟩ v0).setCell ⟨w.heap.size, 1, none⟩ v1).setCell ⟨w.heap.size, 2, none⟩ v2).setCell ⟨w.heap.size, 3, none⟩ v3).setCell ⟨w.heap.size, 4, none⟩ v4).setCell ⟨w.heap.size, 5, none⟩ v5) := ⟨_, rfl⟩
  have hbc := hbb.store6 v0 v1 v2 v3 v4 v5
  rw [← hWc] at hbc
  refine ⟨Wb, Wc, hWb.symm, hbb.get6, hbb.free6, hWc.symm, hbc, ?_, ?_⟩
  · rw [hWc]; exact ((((((hxb.setCell (Nat.le_refl _) _).setCell (Nat.le_refl _) _).setCell (Nat.le_refl _) _).setCell (Nat.le_refl _) _).setCell (Nat.le_refl _) _).setCell (Nat.le_refl _) _)
  · rw [hWc, hWb]; simp
end Go.Proofs.YtjoglnjpgkobeaaGreatDoor

/-
  A REGION THAT DRAWS ITS ORDER, BY WHAT IS KNOWN OF EACH OPERATION's VALUE: each operation is walked alone, knowing only what it waits for; what is known lasts while memory grows.
-/
namespace Go.Proofs.YtjoglnjpgkobeaaGreatDoor
open Go Go.RowKit
set_option linter.all false
set_option linter.unusedVariables false
set_option linter.unusedSimpArgs false
/-- What is known of the values for which an operation waits. -/
def depFacts (F : Nat → Value → World → Prop) (l : List Oper) (A : Act) (w : World) : List Edge → Prop
  | [] => True
  | e :: r => (if Region.binds .any e = true then (match (l[e.on]?).bind Oper.dst with | some d => F e.on (A.tmps.getD d undef) w | none => True) else True) ∧ depFacts F l A w r
/-- No guard; the temporaries that are written are all different, and lie in the frame; no operation waits for a later one. -/
def factsOk (l : List Oper) (n : Nat) : Bool :=
  l.all (fun o => o.guard.isNone && (match o.dst with | some d => decide (d < n) | none => true)) && (List.range l.length).all fun i => match l[i]? with
    | some x => x.after.all (fun e => !Region.binds .any e || decide (e.on < i)) && (match x.dst with
      | some d => (List.range i).all fun j => ((l[j]?).bind Oper.dst) != some d
      | none => true)
    | none => true
structure Known (W : World) (a0 : Act) (F : Nat → Value → World → Prop) (l : List Oper) (listed : Nat → Bool) (A : Act) (w : World) : Prop where
  ext : Ext W w
  size : A.tmps.size = a0.tmps.size
  defers : A.defers = a0.defers
  done : ∀ (j : Nat) (d : Tmp), (l[j]?).bind Oper.dst = some d → listed j = true → F j (A.tmps.getD d undef) w
  rest : ∀ t : Tmp, (∀ j : Nat, (l[j]?).bind Oper.dst ≠ some t) → A.tmps.getD t undef = a0.tmps.getD t undef
def NoWay : Exit → Act → World → Prop := fun _ _ _ => False
theorem Oper.wp_noWay {P : Program} {o : Oper} {a : Act} {w : World} {K : Act → World → Prop} {Q : Exit → Act → World → Prop} (h : o.wp P a w K NoWay) : o.wp P a w K Q := by
  unfold Oper.wp at *
  generalize (execOp a.eval o).run P w = r at *
  cases r with
  | ok n w' =>
    cases n <;> simp only [Oper.upon] at h ⊢ <;>
      first
        | exact h
        | exact Calls.mono h (fun e w'' he => by cases e <;> first | exact he | exact he.elim | (obtain ⟨_, _, hh⟩ := he; exact hh.elim))
        | exact h.elim
  | halt y w' => cases y <;> simp only [Oper.upon] at h ⊢ <;> first | exact h | exact h.elim
/-- What is owed of operation i. -/
def StepOk (P : Program) (W : World) (a0 : Act) (F : Nat → Value → World → Prop) (l : List Oper) (i : Nat) (o : Oper) : Prop :=
  ∀ (A : Act) (w : World), Ext W w → depFacts F l A w o.after.toList → (∀ t : Tmp, (∀ j : Nat, (l[j]?).bind Oper.dst ≠ some t) → A.tmps.getD t undef = a0.tmps.getD t undef) →
    o.wp P A w (fun A' w' => ∃ v, A' = A.put o.dst v ∧ Ext w w' ∧ F i v w') NoWay
def StepsOk (P : Program) (W : World) (a0 : Act) (F : Nat → Value → World → Prop) (l : List Oper) : List Oper → Nat → Prop
  | [], _ => True
  | o :: r, i => StepOk P W a0 F l i o ∧ StepsOk P W a0 F l r (i + 1)
theorem StepsOk.get {P : Program} {W : World} {a0 : Act} {F : Nat → Value → World → Prop} {l : List Oper} : ∀ (r : List Oper) (k : Nat), StepsOk P W a0 F l r k → ∀ (j : Nat) (o : Oper), r[j]? = some o → StepOk P W a0 F l (k + j) o
  | [], _, _, _, _, hj => by simp at hj
  | x :: r, k, h, 0, o, hj => by simp at hj; subst hj; exact h.1
  | x :: r, k, h, j + 1, o, hj => by
    have := StepsOk.get r (k + 1) h.2 j o (by simpa using hj)
    rwa [show k + 1 + j = k + (j + 1) by omega] at this
structure FactsOk (l : List Oper) (n : Nat) : Prop where
  guard : ∀ (i : Nat) (o : Oper), l[i]? = some o → o.guard = none
  lt : ∀ (i : Nat) (d : Tmp), (l[i]?).bind Oper.dst = some d → d < n
  apart : ∀ (i j : Nat) (d : Tmp), (l[i]?).bind Oper.dst = some d → (l[j]?).bind Oper.dst = some d → i = j
theorem factsOk_spec {l : List Oper} {n : Nat} (h : factsOk l n = true) : FactsOk l n := by
  simp only [factsOk, Bool.and_eq_true, List.all_eq_true, List.mem_range] at h
  obtain ⟨h1, h2⟩ := h
  have lt : ∀ {i : Nat} {d : Tmp}, (l[i]?).bind Oper.dst = some d → ∃ o, l[i]? = some o ∧ o.dst = some d ∧ i < l.length := by
    intro i d hi
    obtain ⟨o, ho, hd⟩ := Option.bind_eq_some_iff.1 hi
    exact ⟨o, ho, hd, (List.getElem?_eq_some_iff.1 ho).1⟩
  have ap : ∀ (i j : Nat) (d : Tmp), j < i → (l[i]?).bind Oper.dst = some d → (l[j]?).bind Oper.dst = some d → False := by
    intro i j d hji hi hj
    obtain ⟨o, ho, hd, hl⟩ := lt hi
    have := h2 i hl
    simp only [ho, hd, Bool.and_eq_true, List.all_eq_true, List.mem_range, bne_iff_ne, ne_eq] at this
    exact this.2 j hji hj
  refine ⟨fun i o ho => ?_, fun i d hi => ?_, fun i j d hi hj => ?_⟩
  · have := (h1 o (List.mem_of_getElem? ho)).1
    simpa using this
  · obtain ⟨o, ho, hd, _⟩ := lt hi
    have := (h1 o (List.mem_of_getElem? ho)).2
    simpa [hd] using this
  · rcases Nat.lt_trichotomy i j with h | h | h
    · exact (ap j i d h hj hi).elim
    · exact h
    · exact (ap i j d h hi hj).elim
theorem put_getD {a : Act} {d t : Tmp} {v : Value} : (a.put (some d) v).tmps.getD t undef = if t = d ∧ d < a.tmps.size then v else a.tmps.getD t undef := by
  simp only [Act.put, Array.getD_eq_getD_getElem?, Array.getElem?_setIfInBounds]
  by_cases h : d = t
  · subst h
    by_cases hl : d < a.tmps.size
    · simp [hl]
    · simp [hl]
  · rw [if_neg h, if_neg (fun hh => h hh.1.symm)]
section
variable {P : Program} {W : World} {a0 : Act} {F : Nat → Value → World → Prop} {l : List Oper}
theorem Known.step (hst : ∀ i v w w', F i v w → Ext w w' → F i v w') (T : FactsOk l a0.tmps.size) {listed : Array Bool} {A : Act} {w : World} (h : Known W a0 F l (fun j => listed.getD j false) A w)
    {i : Nat} {o : Oper} (ho : l[i]? = some o) {v : Value} {w' : World} (hx : Ext w w') (hF : F i v w') : Known W a0 F l (fun j => (listed.setIfInBounds i true).getD j false) (A.put o.dst v) w' := by
  have hd0 : (l[i]?).bind Oper.dst = o.dst := by rw [ho]; rfl
  have hsz : (A.put o.dst v).tmps.size = a0.tmps.size := by
    cases hdd : o.dst <;> simp [Act.put, h.size]
  have hdf : (A.put o.dst v).defers = a0.defers := by
    cases hdd : o.dst <;> simp [Act.put, h.defers]
  have hother : ∀ t, o.dst ≠ some t → (A.put o.dst v).tmps.getD t undef = A.tmps.getD t undef := by
    intro t ht
    cases hdd : o.dst with
    | none => rfl
    | some d => rw [put_getD, if_neg (fun hh => ht (by rw [hdd, hh.1]))]
  refine ⟨h.ext.trans hx, hsz, hdf, fun j d hj hl => ?_, fun t ht => ?_⟩
  · by_cases hij : i = j
    · subst hij
      rw [hd0] at hj
      rw [hj, put_getD, if_pos ⟨rfl, by rw [h.size]; exact T.lt i d (by rw [hd0]; exact hj)⟩]
      exact hF
    · rw [getD_set_ne false hij] at hl
      rw [hother d (fun hh => hij (T.apart i j d (by rw [hd0]; exact hh) hj))]
      exact hst _ _ _ _ (h.done j d hj hl) hx
  · rw [hother t (fun hh => ht i (by rw [hd0]; exact hh))]
    exact h.rest t ht
theorem depFacts_of {A : Act} {w : World} {listed : Nat → Bool} (h : ∀ (j : Nat) (d : Tmp), (l[j]?).bind Oper.dst = some d → listed j = true → F j (A.tmps.getD d undef) w) :
    ∀ es : List Edge, (∀ e ∈ es, Region.binds .any e = true → listed e.on = true) → depFacts F l A w es
  | [], _ => trivial
  | e :: r, he => by
    refine ⟨?_, depFacts_of h r fun e' he' => he e' (List.mem_cons_of_mem _ he')⟩
    split
    · rename_i hb
      split
      · rename_i d hd
        exact h e.on d hd (he e (List.mem_cons_self ..) hb)
      · trivial
    · trivial
theorem dep1 {F : Nat → Value → World → Prop} {l : List Oper} {A : Act} {w : World} {e : Edge} {r : List Edge} {d : Tmp} (hd : depFacts F l A w (e :: r)) (hb : Region.binds .any e = true) (hl : (l[e.on]?).bind Oper.dst = some d) : F e.on (A.tmps.getD d undef) w := by
  have := hd.1
  rw [if_pos hb, hl] at this
  exact this
/-- How many have not come up. -/
def left : List Bool → Nat
  | [] => 0
  | b :: r => (if b then 0 else 1) + left r
theorem left_set : ∀ (L : List Bool) (i : Nat), L[i]? = some false → left (L.set i true) + 1 = left L
  | [], i, h => by simp at h
  | b :: r, 0, h => by simp at h; subst h; simp [left]; omega
  | b :: r, i + 1, h => by
    have := left_set r i (by simpa using h)
    simp only [List.set_cons_succ, left]; omega
theorem left_pos : ∀ (L : List Bool), false ∈ L → 0 < left L
  | [], h => by cases h
  | b :: r, h => by
    cases h with
    | head => simp [left]; omega
    | tail _ ht => have := left_pos r ht; simp only [left]; omega
theorem left_replicate (n : Nat) : left (List.replicate n false) = n := by
  induction n with
  | zero => rfl
  | succ n ih => simp only [List.replicate_succ, left, ih]; simp; omega
theorem wpAny_facts {Q : Exit → Act → World → Prop} (hst : ∀ i v w w', F i v w → Ext w w' → F i v w') (T : FactsOk l a0.tmps.size) (hS : StepsOk P W a0 F l l 0)
    (hE : ∀ A w, Known W a0 F l (fun j => decide (j < l.length)) A w → Q .normal A w)
    (hO : ∀ i x, l[i]? = some x → ∀ e ∈ x.after, Region.binds .any e = true → e.on < i) :
    ∀ (fuel : Nat) (listed : Array Bool) (A : Act) (w : World), listed.size = l.length → (fuel = 0 → Region.ready .any l.toArray listed = []) → left listed.toList ≤ fuel → Known W a0 F l (fun j => listed.getD j false) A w →
      wpAny P .any l.toArray Q fuel listed A w := by
  have fin : ∀ (listed : Array Bool) (A : Act) (w : World), listed.size = l.length → Region.ready .any l.toArray listed = [] → Known W a0 F l (fun j => listed.getD j false) A w → Q .normal A w := by
    intro listed A w hs hr hk
    have all : ∀ n i, i < n → i < l.length → listed.getD i true = true := by
      intro n
      induction n with
      | zero => intro i hi; omega
      | succ n ih =>
        intro i hin hi
        cases hl : listed.getD i true with
        | true => rfl
        | false =>
          have : i ∈ Region.ready .any l.toArray listed := mem_ready.2 ⟨hl, l[i], by simp [List.getElem?_eq_getElem hi], fun e he hb => by
            have hlt := hO i l[i] (List.getElem?_eq_getElem hi) e he hb
            have := ih e.on (by omega) (by omega)
            have hz : e.on < listed.size := by omega
            simpa [hz] using this⟩
          rw [hr] at this; cases this
    refine hE A w ⟨hk.ext, hk.size, hk.defers, fun j d hj hl => hk.done j d hj ?_, hk.rest⟩
    have hjl : j < l.length := by simpa using hl
    have := all (j + 1) j (by omega) hjl
    have hz : j < listed.size := by omega
    simpa [hz] using this
  intro fuel
  induction fuel with
  | zero =>
    intro listed A w hs h0 _ hk
    exact ⟨h0 rfl, fin listed A w hs (h0 rfl) hk⟩
  | succ fuel ih =>
    intro listed A w hs _ hc hk
    refine ⟨fun hr => fin listed A w hs hr hk, fun i hi => ?_⟩
    obtain ⟨h0, o, ho, hall⟩ := mem_ready.1 hi
    have ho' : l[i]? = some o := by simpa using ho
    have hil : i < l.length := (List.getElem?_eq_some_iff.1 ho').1
    have hcount : left (listed.setIfInBounds i true).toList ≤ fuel := by
      have hz : i < listed.size := by omega
      have hget : listed.toList[i]? = some false := by
        simp [hz] at h0
        simp [hz, h0]
      have := left_set listed.toList i hget
      rw [show (listed.setIfInBounds i true).toList = listed.toList.set i true by simp]
      omega
    unfold wpOp
    simp only [List.getElem?_toArray, ho']
    rw [if_pos (by simp [Region.wanted, T.guard i o ho'])]
    have hstep := StepsOk.get l 0 hS i o ho'
    rw [Nat.zero_add] at hstep
    refine .inl (Oper.wp_mono ?_ (Oper.wp_noWay (hstep A w hk.ext (depFacts_of hk.done o.after.toList (fun e he hb => hall e (by simpa using he) hb)) hk.rest)))
    rintro A' w' ⟨v, rfl, hx, hF⟩
    refine ih _ _ _ (by simpa using hs) (fun hf => ?_) hcount (hk.step hst T ho' hx hF)
    subst hf
    rw [List.eq_nil_iff_forall_not_mem]
    intro j hj
    obtain ⟨hj0, y, hy, _⟩ := mem_ready.1 hj
    have hjl : j < l.length := by
      have := (Array.getElem?_eq_some_iff.1 hy).1
      simpa using this
    have hz : j < (listed.setIfInBounds i true).size := by simpa [hs] using hjl
    have : false ∈ (listed.setIfInBounds i true).toList := by
      simp only [Array.getD_eq_getD_getElem?, Array.getElem?_eq_getElem hz, Option.getD_some] at hj0
      rw [← hj0]
      exact Array.mem_toList_iff.2 (Array.getElem_mem _)
    have := left_pos _ this
    omega
theorem order_of_factsOk {n : Nat} (h : factsOk l n = true) : ∀ i x, l[i]? = some x → ∀ e ∈ x.after, Region.binds .any e = true → e.on < i := by
  simp only [factsOk, Bool.and_eq_true, List.all_eq_true, List.mem_range] at h
  intro i x hx e he hb
  have := h.2 i (List.getElem?_eq_some_iff.1 hx).1
  simp only [hx, Bool.and_eq_true, Array.all_eq_true_iff_forall_mem, Bool.or_eq_true, Bool.not_eq_true', decide_eq_true_eq] at this
  rcases this.1 e he with h | h
  · rw [h] at hb; cases hb
  · exact h
theorem none_listed (n j : Nat) : (Array.replicate n false).getD j false = false := by
  rw [Array.getD_eq_getD_getElem?, Array.getElem?_replicate]; split <;> rfl
/-- THE SAME, AND THEN THE LAST OPERATION, WHICH WAITS FOR ALL OTHERS. -/
theorem wp_region_facts_last {id : Nat} {Q : Exit → Act → World → Prop} {w : World} {o : Oper} (F : Nat → Value → World → Prop) (hm : P.follows .mixedOrders = true) (ho : l.reverse.head? = some o) (hB : factsOk l.dropLast a0.tmps.size = true) (hT : tailOk l.dropLast o = true) (hw : Ext W w)
    (hst : ∀ i v w w', F i v w → Ext w w' → F i v w')
    (hS : StepsOk P W a0 F l.dropLast l.dropLast 0) (hE : ∀ A w, Known W a0 F l.dropLast (fun j => decide (j < l.dropLast.length)) A w → o.wp P A w (fun a w => Q .normal a w) Q) : (Code.region id l.toArray true).wp P Q a0 w := by
  have hl : l = l.dropLast ++ [o] := by
    rw [List.head?_reverse, List.getLast?_eq_some_iff] at ho
    obtain ⟨ys, rfl⟩ := ho
    simp
  refine wp_region_any hm ?_
  rw [hl]
  generalize l.dropLast = m at *
  have hx : (Array.replicate (m ++ [o]).toArray.size false) = (Array.replicate m.length false).push false := by
    simp [Array.replicate_succ]
  rw [hx]
  have hsz : (m ++ [o]).toArray.size = m.length + 1 := by simp
  rw [hsz]
  refine wpAny_tail (tailOk_facts hT) m.length _ a0 _ (by simp) ?_
  refine wpAny_facts hst (factsOk_spec hB) hS hE (order_of_factsOk hB) m.length _ a0 _ (by simp) (fun h => ?_) ?_ ⟨hw.drew, rfl, rfl, fun j d _ hl => ?_, fun t _ => rfl⟩
  · have : m = [] := List.eq_nil_of_length_eq_zero h
    subst this
    rfl
  · rw [Array.toList_replicate, left_replicate]; exact Nat.le_refl _
  · rw [none_listed] at hl; cases hl
theorem rest_at {A : Act} {l : List Oper} (h0 : ∀ t : Tmp, (∀ j : Nat, (l[j]?).bind Oper.dst ≠ some t) → A.tmps.getD t undef = a0.tmps.getD t undef) (t : Tmp) (h : (l.all fun o => o.dst != some t) = true) : A.tmps.getD t undef = a0.tmps.getD t undef :=
  h0 t fun j hj => by
    obtain ⟨o, ho, hd⟩ := Option.bind_eq_some_iff.1 hj
    have := List.all_eq_true.1 h o (List.mem_of_getElem? ho)
    simp [hd] at this
theorem act_lit {A : Act} {n : Nat} {d : List Deferred} (hs : A.tmps.size = n) (hd : A.defers = d) : A = { tmps := ((List.range n).map fun t => A.tmps.getD t undef).toArray, defers := d } := by
  obtain ⟨tm, df⟩ := A
  simp only at hs hd
  subst hd
  congr 1
  apply Array.ext
  · simp [hs]
  · intro i h1 h2
    simp [h1]
end
end Go.Proofs.YtjoglnjpgkobeaaGreatDoor
