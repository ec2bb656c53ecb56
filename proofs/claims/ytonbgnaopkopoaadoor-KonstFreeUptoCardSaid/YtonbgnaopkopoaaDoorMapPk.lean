/-
  MAPS OF PLAIN KEYS, BY THEIR ENTRIES: what a lookup and an update do.
-/
import Derived.MapKept
import Derived.Test.YtonbgnaopkopoaaDoorTreePk
namespace Go.Proofs.YtonbgnaopkopoaaDoor
open Go Go.RowKit
set_option linter.all false
set_option linter.unusedVariables false
set_option linter.unusedSimpArgs false
set_option linter.unusedVariables false
set_option linter.unusedSimpArgs false

/-- A map's entries, as they stand. -/
def MV (w : World) (m : Nat) (L : List (Value × Value)) : Prop := ∃ es clock, w.heap[m]? = some (.map es clock) ∧ es.toList.map (fun e : MapEntry => (e.key, e.val)) = L
theorem MV.lt {w : World} {m : Nat} {L : List (Value × Value)} (h : MV w m L) : m < w.heap.size := by
  obtain ⟨es, clock, hb, -⟩ := h
  exact (Array.getElem?_eq_some_iff.1 hb).1
theorem MV.ext {w w' : World} {m : Nat} {L : List (Value × Value)} (h : MV w m L) (hx : Ext w w') : MV w' m L := by
  have hlt := h.lt
  obtain ⟨es, clock, hb, hL⟩ := h
  exact ⟨es, clock, (hx.heap hlt).trans hb, hL⟩
theorem MV.new (w : World) : MV (w.alloc (.map #[] 0)) w.heap.size [] := ⟨#[], 0, by show (w.heap.push _)[w.heap.size]? = _; simp, rfl⟩
/-- The first entry of a key. -/
noncomputable def getV : List (Value × Value) → Value → Option Value
  | [], _ => none
  | p :: r, k => @ite _ (p.1 = k) (Classical.propDecidable _) (some p.2) (getV r k)
theorem getV_hit {p : Value × Value} {r : List (Value × Value)} {k : Value} (h : p.1 = k) : getV (p :: r) k = some p.2 := by unfold getV; rw [if_pos h]
theorem getV_miss {p : Value × Value} {r : List (Value × Value)} {k : Value} (h : p.1 ≠ k) : getV (p :: r) k = getV r k := by rw [getV, if_neg h]
/-- With a value put at a key. -/
noncomputable def putV : List (Value × Value) → Value → Value → List (Value × Value)
  | [], k, v => [(k, v)]
  | p :: r, k, v => @ite _ (p.1 = k) (Classical.propDecidable _) ((k, v) :: r) (p :: putV r k v)
theorem getV_put (L : List (Value × Value)) (k v k' : Value) : getV (putV L k v) k' = @ite _ (k = k') (Classical.propDecidable _) (some v) (getV L k') := by
  induction L with
  | nil =>
    unfold putV
    by_cases h : k = k'
    · rw [getV_hit h, if_pos h]
    · rw [getV_miss h, if_neg h]
  | cons p r ih =>
    unfold putV
    by_cases hp : p.1 = k
    · rw [if_pos hp]
      by_cases h : k = k'
      · rw [getV_hit h, if_pos h]
      · rw [getV_miss h, if_neg h, getV_miss (show p.1 ≠ k' from fun e => h (hp.symm.trans e))]
    · rw [if_neg hp]
      by_cases h2 : p.1 = k'
      · rw [getV_hit h2, if_neg (fun e : k = k' => hp (h2.trans e.symm)), getV_hit h2]
      · rw [getV_miss h2, ih, getV_miss h2]
theorem keys_put {d : TypeDesc} {L : List (Value × Value)} {k v : Value} (h : ∀ p, p ∈ L → MapKept.IsKey d p.1) (hk : MapKept.IsKey d k) : ∀ p, p ∈ putV L k v → MapKept.IsKey d p.1 := by
  induction L with
  | nil => intro p hp; unfold putV at hp; simp at hp; rw [hp]; exact hk
  | cons q r ih =>
    intro p hp
    unfold putV at hp
    split at hp
    · rcases List.mem_cons.1 hp with rfl | hp
      · exact hk
      · exact h p (by simp [hp])
    · rcases List.mem_cons.1 hp with rfl | hp
      · exact h _ (by simp)
      · exact ih (fun p hp => h p (by simp [hp])) p hp

theorem find_spec {d : TypeDesc} {k : Value} (hk : MapKept.IsKey d k) : ∀ (l : List MapEntry) (i : Nat), (∀ x ∈ l, MapKept.IsKey d x.key) →
    (Instr.findNow d k l i = some none ∧ getV (l.map fun e => (e.key, e.val)) k = none ∧ ∀ v, putV (l.map fun e => (e.key, e.val)) k v = l.map (fun e => (e.key, e.val)) ++ [(k, v)]) ∨
    ∃ j e, Instr.findNow d k l i = some (some (i + j, e.val)) ∧ l[j]? = some e ∧ e.key = k ∧ getV (l.map fun e => (e.key, e.val)) k = some e.val ∧
      ∀ (v : Value) (b : Nat), ((l.modify j fun e => { e with key := k, val := v }).map fun e => (e.key, e.val)) = putV (l.map fun e => (e.key, e.val)) k v
  | [], _, _ => .inl ⟨rfl, rfl, fun _ => rfl⟩
  | e :: es, i, h => by
    obtain ⟨r, hr, hiff⟩ := MapKept.sameNow_of_keys hk (h e (.head _))
    cases r with
    | true =>
      have he : e.key = k := (hiff.1 rfl).symm
      refine .inr ⟨0, e, by simp [Instr.findNow, hr], rfl, he, getV_hit he, fun v _ => ?_⟩
      simp only [List.map_cons, putV]
      rw [if_pos he]
      simp
    | false =>
      have hne : e.key ≠ k := fun q => by have := hiff.2 q.symm; cases this
      rcases find_spec hk es (i + 1) (fun x hx => h x (.tail _ hx)) with ⟨h1, h2, h3⟩ | ⟨j, e', h1, h2, h3, h4, h5⟩
      · refine .inl ⟨by simp [Instr.findNow, hr, h1], ?_, fun v => ?_⟩
        · rw [List.map_cons, getV_miss hne, h2]
        · simp only [List.map_cons, putV]
          rw [if_neg hne, h3]; rfl
      · refine .inr ⟨j + 1, e', by simp [Instr.findNow, hr, h1]; omega, by simpa using h2, h3, ?_, fun v b => ?_⟩
        · rw [List.map_cons, getV_miss hne, h4]
        · simp only [List.map_cons, putV, List.modify_succ_cons]
          rw [if_neg hne, ← h5 v b]

section
variable {P : Program} {w : World} {t kt et : TypeId} {d : TypeDesc} {m : Nat} {L : List (Value × Value)} {k : Value}
theorem MV.lookup (h : MV w m L) (ht : P.underlying t = some (.map kt et)) (hd : P.underlying kt = some d) (hk : MapKept.IsKey d k) (hks : ∀ p, p ∈ L → MapKept.IsKey d p.1) {z : Value} (hz : (zeroValue et).run P w = .ok z w) (c : Bool) :
    (Instr.lookup t (.map (some m)) k c).run P w = .ok (if c then .tuple #[(getV L k).getD z, .bool (getV L k).isSome] else (getV L k).getD z) w := by
  obtain ⟨es, clock, hb, rfl⟩ := h
  have hks' : ∀ x ∈ es.toList, MapKept.IsKey d x.key := fun x hx => hks (x.key, x.val) (List.mem_map.2 ⟨x, hx, rfl⟩)
  rcases find_spec hk es.toList 0 hks' with ⟨h1, h2, -⟩ | ⟨j, e, h1, h2, h3, h4, -⟩
  · rw [h2]
    cases c <;> simp [Instr.lookup, run_underlying ht, MapKept.run_getObj_map hb, MapKept.run_checkKey hd hk, MapKept.run_findKey hd h1, Result.andThen, hz]
  · rw [h4]
    cases c <;> simp [Instr.lookup, run_underlying ht, MapKept.run_getObj_map hb, MapKept.run_checkKey hd hk, MapKept.run_findKey hd h1, Result.andThen, hz]
theorem MV.lookup_nil (ht : P.underlying t = some (.map kt et)) (hd : P.underlying kt = some d) (hk : MapKept.IsKey d k) {z : Value} (hz : (zeroValue et).run P w = .ok z w) (c : Bool) :
    (Instr.lookup t (.map none) k c).run P w = .ok (if c then .tuple #[z, .bool false] else z) w := by
  have h1 : Instr.findNow d k ([] : List MapEntry) 0 = some none := rfl
  cases c <;> simp [Instr.lookup, run_underlying ht, MapKept.run_checkKey hd hk, MapKept.run_findKey hd h1, Result.andThen, hz]

/-- A world with another object in one block. -/
def setO (w : World) (m : Nat) (o : Obj) : World := { w with heap := w.heap.setIfInBounds m o }
theorem setO_below {base : Nat} {w : World} {m : Nat} {o : Obj} (hm : base ≤ m) (hb : base ≤ w.heap.size) : Below base w (setO w m o) :=
  ⟨rfl, rfl, rfl, by simp [setO], fun b hlt => by simp [setO, Array.getElem?_setIfInBounds_ne (show m ≠ b by omega)]⟩

theorem same_bits {d : TypeDesc} {k : Value} (hk : MapKept.IsKey d k) : Instr.sameBits 10000 k k = true := by
  cases d <;> cases k <;> simp_all [MapKept.IsKey, Instr.sameBits, MapKept.bytes_beq]
theorem MV.update (h : MV w m L) (ht : P.underlying t = some (.map kt et)) (hd : P.underlying kt = some d) (hk : MapKept.IsKey d k) (hks : ∀ p, p ∈ L → MapKept.IsKey d p.1) (v : Value) :
    ∃ o, (Instr.mapUpdate t (.map (some m)) k v).run P w = .ok () (setO w m o) ∧ MV (setO w m o) m (putV L k v) := by
  have hlt := h.lt
  obtain ⟨es, clock, hb, rfl⟩ := h
  have hks' : ∀ x ∈ es.toList, MapKept.IsKey d x.key := fun x hx => hks (x.key, x.val) (List.mem_map.2 ⟨x, hx, rfl⟩)
  rcases find_spec hk es.toList 0 hks' with ⟨h1, h2, h3⟩ | ⟨j, e, h1, h2, h3, h4, h5⟩
  · refine ⟨.map (es.push { key := k, val := v, born := clock }) (clock + 1), ?_, _, _, by simp [setO, hlt]; exact ⟨rfl, rfl⟩, ?_⟩
    · simp [Instr.mapUpdate, run_underlying ht, MapKept.run_getObj_map hb, MapKept.run_checkKey hd hk, MapKept.run_findKey hd h1, Result.andThen, MapKept.run_setObj_map _ hb, setO]
    · rw [h3]; simp
  · refine ⟨.map (es.modify j fun e => { e with key := k, val := v }) clock, ?_, _, _, by simp [setO, hlt]; exact ⟨rfl, rfl⟩, ?_⟩
    · have hj : es[j]? = some e := by rw [← Array.getElem?_toList]; exact h2
      simp [Instr.mapUpdate, run_underlying ht, MapKept.run_getObj_map hb, MapKept.run_checkKey hd hk, MapKept.run_findKey hd h1, Result.andThen, MapKept.run_setObj_map _ hb, setO, Instr.keyThatStays, hj, h3, same_bits hk]
    · rw [Array.toList_modify]
      exact h5 v 0
end

end Go.Proofs.YtonbgnaopkopoaaDoor
