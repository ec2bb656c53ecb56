/-
  MAPS OF PLAIN KEYS, BY THEIR ENTRIES: what a lookup and an update do.
-/
import Derived.MapKept
import Derived.Maps.RangeRun
import Derived.Test.YtjoglnjpgkobeaaGreatDoorProg
import Derived.Test.YtjoglnjpgkobeaaGreatDoorS1
import Derived.Test.YtjoglnjpgkobeaaGreatDoorS3
import Derived.Test.YtjoglnjpgkobeaaGreatDoorS11
namespace Go.Proofs.YtjoglnjpgkobeaaGreatDoor
open Go Go.RowKit
set_option linter.all false
set_option linter.unusedVariables false
set_option linter.unusedSimpArgs false
set_option linter.unusedVariables false
set_option linter.unusedSimpArgs false
/-- A map's entries, as they stand. -/
def MV (w : World) (m : Nat) (L : List (Value × Value)) : Prop := ∃ es clock, w.heap[m]? = some (.map es clock) ∧ es.toList.map (fun e : MapEntry => (e.key, e.val)) = L
theorem MV.lt {w : World} {m : Nat} {L : List (Value × Value)} (h : MV w m L) : m < w.heap.size := by
  obtain ⟨es, clock, hb, -⟩ := h
  exact (Array.getElem?_eq_some_iff.1 hb).1
theorem MV.ext {w w' : World} {m : Nat} {L : List (Value × Value)} (h : MV w m L) (hx : Ext w w') : MV w' m L := by
  have hlt := h.lt
  obtain ⟨es, clock, hb, hL⟩ := h
  exact ⟨es, clock, (hx.heap hlt).trans hb, hL⟩
theorem MV.new (w : World) : MV (w.alloc (.map #[] 0)) w.heap.size [] := ⟨#[], 0, by show (w.heap.push _)[w.heap.size]? = _; simp, rfl⟩
/-- The first entry of a key. -/
noncomputable def getV : List (Value × Value) → Value → Option Value
  | [], _ => none
  | p :: r, k => @ite _ (p.1 = k) (Classical.propDecidable _) (some p.2) (getV r k)
theorem getV_hit {p : Value × Value} {r : List (Value × Value)} {k : Value} (h : p.1 = k) : getV (p :: r) k = some p.2 := by unfold getV; rw [if_pos h]
theorem getV_miss {p : Value × Value} {r : List (Value × Value)} {k : Value} (h : p.1 ≠ k) : getV (p :: r) k = getV r k := by rw [getV, if_neg h]
/-- With a value put at a key. -/
noncomputable def putV : List (Value × Value) → Value → Value → List (Value × Value)
  | [], k, v => [(k, v)]
  | p :: r, k, v => @ite _ (p.1 = k) (Classical.propDecidable _) ((k, v) :: r) (p :: putV r k v)
theorem find_spec {d : TypeDesc} {k : Value} (hk : MapKept.IsKey d k) : ∀ (l : List MapEntry) (i : Nat), (∀ x ∈ l, MapKept.IsKey d x.key) →
    (Instr.findNow d k l i = some none ∧ getV (l.map fun e => (e.key, e.val)) k = none ∧ ∀ v, putV (l.map fun e => (e.key, e.val)) k v = l.map (fun e => (e.key, e.val)) ++ [(k, v)]) ∨
    ∃ j e, Instr.findNow d k l i = some (some (i + j, e.val)) ∧ l[j]? = some e ∧ e.key = k ∧ getV (l.map fun e => (e.key, e.val)) k = some e.val ∧
      ∀ (v : Value) (b : Nat), ((l.modify j fun e => { e with key := k, val := v }).map fun e => (e.key, e.val)) = putV (l.map fun e => (e.key, e.val)) k v
  | [], _, _ => .inl ⟨rfl, rfl, fun _ => rfl⟩
  | e :: es, i, h => by
    obtain ⟨r, hr, hiff⟩ := MapKept.sameNow_of_keys hk (h e (.head _))
    cases r with
    | true =>
      have he : e.key = k := (hiff.1 rfl).symm
      refine .inr ⟨0, e, by simp [Instr.findNow, hr], rfl, he, getV_hit he, fun v _ => ?_⟩
      simp only [List.map_cons, putV]
      rw [if_pos he]
      simp
    | false =>
      have hne : e.key ≠ k := fun q => by have := hiff.2 q.symm; cases this
      rcases find_spec hk es (i + 1) (fun x hx => h x (.tail _ hx)) with ⟨h1, h2, h3⟩ | ⟨j, e', h1, h2, h3, h4, h5⟩
      · refine .inl ⟨by simp [Instr.findNow, hr, h1], ?_, fun v => ?_⟩
        · rw [List.map_cons, getV_miss hne, h2]
        · simp only [List.map_cons, putV]
          rw [if_neg hne, h3]; rfl
      · refine .inr ⟨j + 1, e', by simp [Instr.findNow, hr, h1]; omega, by simpa using h2, h3, ?_, fun v b => ?_⟩
        · rw [List.map_cons, getV_miss hne, h4]
        · simp only [List.map_cons, putV, List.modify_succ_cons]
          rw [if_neg hne, ← h5 v b]
section
variable {P : Program} {w : World} {t kt et : TypeId} {d : TypeDesc} {m : Nat} {L : List (Value × Value)} {k : Value}
theorem MV.lookup (h : MV w m L) (ht : P.underlying t = some (.map kt et)) (hd : P.underlying kt = some d) (hk : MapKept.IsKey d k) (hks : ∀ p, p ∈ L → MapKept.IsKey d p.1) {z : Value} (hz : (zeroValue et).run P w = .ok z w) (c : Bool) :
    (Instr.lookup t (.map (some m)) k c).run P w = .ok (if c then .tuple #[(getV L k).getD z, .bool (getV L k).isSome] else (getV L k).getD z) w := by
  obtain ⟨es, clock, hb, rfl⟩ := h
  have hks' : ∀ x ∈ es.toList, MapKept.IsKey d x.key := fun x hx => hks (x.key, x.val) (List.mem_map.2 ⟨x, hx, rfl⟩)
  rcases find_spec hk es.toList 0 hks' with ⟨h1, h2, -⟩ | ⟨j, e, h1, h2, h3, h4, -⟩
  · rw [h2]
    cases c <;> simp [Instr.lookup, run_underlying ht, MapKept.run_getObj_map hb, MapKept.run_checkKey hd hk, MapKept.run_findKey hd h1, Result.andThen, hz]
  · rw [h4]
    cases c <;> simp [Instr.lookup, run_underlying ht, MapKept.run_getObj_map hb, MapKept.run_checkKey hd hk, MapKept.run_findKey hd h1, Result.andThen, hz]
/-- A world with another object in one block. -/
def setO (w : World) (m : Nat) (o : Obj) : World := { w with heap := w.heap.setIfInBounds m o }
theorem same_bits {d : TypeDesc} {k : Value} (hk : MapKept.IsKey d k) : Instr.sameBits 10000 k k = true := by
  cases d <;> cases k <;> simp_all [MapKept.IsKey, Instr.sameBits, MapKept.bytes_beq]
end
end Go.Proofs.YtjoglnjpgkobeaaGreatDoor

/-
  SETS OF TEXTS, AS MAPS IN MEMORY: asked, added to, ranged over.
-/
namespace Go.Proofs.YtjoglnjpgkobeaaGreatDoor
open Go Go.RowKit
set_option linter.all false
set_option linter.unusedVariables false
set_option linter.unusedSimpArgs false
set_option linter.unusedVariables false
set_option linter.unusedSimpArgs false
/-- The map's keys are the texts of which N holds, each with 'true' for its value. -/
def SetB (w : World) (m : Nat) (N : ByteArray → Prop) : Prop := ∃ es clock, w.heap[m]? = some (.map es clock) ∧ (∀ e ∈ es.toList, ∃ s : ByteArray, e.key = .string s ∧ e.val = .bool true ∧ e.born < clock) ∧
  (es.toList.map (·.born)).Nodup ∧ ∀ s : ByteArray, (∃ e ∈ es.toList, e.key = .string s) ↔ N s
theorem SetB.lt {w : World} {m : Nat} {N : ByteArray → Prop} (h : SetB w m N) : m < w.heap.size := by obtain ⟨es, clock, hb, -⟩ := h; exact (Array.getElem?_eq_some_iff.1 hb).1
theorem SetB.new (w : World) : SetB (w.alloc (.map #[] 0)) w.heap.size (fun _ => False) :=
  ⟨#[], 0, by show (w.heap.push _)[w.heap.size]? = _; simp, (fun e he => by simp at he), by simp, fun s => by simp⟩
theorem SetB.kept {w w' : World} {m : Nat} {N : ByteArray → Prop} {row : Option Nat} (h : SetB w m N) (hg : w.grownBy w' row) (hne : row ≠ some m) : SetB w' m N := by
  have hlt := h.lt
  obtain ⟨es, clock, hb, h1⟩ := h
  exact ⟨es, clock, (hg.block m hlt (fun e => hne e.symm)).trans hb, h1⟩
theorem SetB.congr {w : World} {m : Nat} {N N' : ByteArray → Prop} (h : SetB w m N) (hN : ∀ s, N s ↔ N' s) : SetB w m N' := by
  obtain ⟨es, clock, hb, h1, h2, h3⟩ := h
  exact ⟨es, clock, hb, h1, h2, fun s => (h3 s).trans (hN s)⟩
theorem getV_all {v : Value} {k : Value} : ∀ (L : List (Value × Value)), (∀ p, p ∈ L → p.2 = v) → getV L k = if yes (∃ p, p ∈ L ∧ p.1 = k) then some v else none
  | [], _ => by rw [if_neg (by rw [yes_no.2 (by rintro ⟨p, hp, -⟩; cases hp)]; decide)]; rfl
  | p :: r, h => by
    by_cases hp : p.1 = k
    · rw [getV_hit hp, h p (List.mem_cons_self ..), if_pos (yes_iff.2 ⟨p, List.mem_cons_self .., hp⟩)]
    · rw [getV_miss hp, getV_all r fun q hq => h q (List.mem_cons_of_mem _ hq)]
      congr 1
      rw [yes_congr]
      constructor
      · rintro ⟨q, hq, e⟩; exact ⟨q, List.mem_cons_of_mem _ hq, e⟩
      · rintro ⟨q, hq, e⟩
        rcases List.mem_cons.1 hq with rfl | hq
        · exact absurd e hp
        · exact ⟨q, hq, e⟩
theorem modify_self {α : Type} {f : α → α} : ∀ {l : List α} {j : Nat} {e : α}, l[j]? = some e → f e = e → l.modify j f = l
  | [], _, _, h, _ => by simp at h
  | a :: r, 0, e, h, he => by simp at h; subst h; simp [he]
  | a :: r, j + 1, e, h, he => by rw [List.modify_succ_cons, modify_self (by simpa using h) he]
section
variable {P : Program} {w : World} {t kt et : TypeId} {m : Nat} {N : ByteArray → Prop}
theorem isText (s : ByteArray) : MapKept.IsKey .string (.string s) := trivial
theorem SetB.mv (h : SetB w m N) : ∃ L, MV w m L ∧ (∀ p, p ∈ L → MapKept.IsKey .string p.1) ∧ ∀ s : ByteArray, getV L (.string s) = if yes (N s) then some (.bool true) else none := by
  obtain ⟨es, clock, hb, h1, -, h3⟩ := h
  refine ⟨_, ⟨es, clock, hb, rfl⟩, fun p hp => ?_, fun s => ?_⟩
  · obtain ⟨e, he, rfl⟩ := List.mem_map.1 hp
    obtain ⟨s, hs, -⟩ := h1 e he
    show MapKept.IsKey .string e.key
    rw [hs]; exact isText s
  · rw [getV_all (v := .bool true) _ fun p hp => by obtain ⟨e, he, rfl⟩ := List.mem_map.1 hp; obtain ⟨s, -, hv, -⟩ := h1 e he; exact hv]
    congr 1
    rw [yes_congr]
    rw [← h3 s]
    constructor
    · rintro ⟨p, hp, e⟩
      obtain ⟨x, hx, rfl⟩ := List.mem_map.1 hp
      exact ⟨x, hx, e⟩
    · rintro ⟨x, hx, e⟩; exact ⟨_, List.mem_map.2 ⟨x, hx, rfl⟩, e⟩
/-- Asked. -/
theorem SetB.ask (h : SetB w m N) (ht : P.underlying t = some (.map kt et)) (hd : P.underlying kt = some .string) (hz : ∀ w, (zeroValue et).run P w = .ok (.bool false) w) (s : ByteArray) :
    (Instr.lookup t (.map (some m)) (.string s) false).run P w = .ok (.bool (yes (N s))) w := by
  obtain ⟨L, h1, h2, h3⟩ := h.mv
  rw [h1.lookup ht hd (isText s) h2 (hz w) false, h3 s]
  cases hN : yes (N s) <;> rfl
/-- Added to. -/
theorem SetB.add (h : SetB w m N) (ht : P.underlying t = some (.map kt et)) (hd : P.underlying kt = some .string) (s : ByteArray) :
    ∃ o, (Instr.mapUpdate t (.map (some m)) (.string s) (.bool true)).run P w = .ok () (setO w m o) ∧ SetB (setO w m o) m (fun u => N u ∨ u = s) := by
  have hlt := h.lt
  obtain ⟨es, clock, hb, h1, h2, h3⟩ := h
  have hks : ∀ x ∈ es.toList, MapKept.IsKey .string x.key := fun x hx => by obtain ⟨u, hu, -⟩ := h1 x hx; rw [hu]; exact isText u
  have hk := isText s
  rcases find_spec hk es.toList 0 hks with ⟨f1, -, -⟩ | ⟨j, e, f1, f2, f3, -, -⟩
  · refine ⟨.map (es.push { key := .string s, val := .bool true, born := clock }) (clock + 1), ?_, _, _, by simp [setO, hlt]; exact ⟨rfl, rfl⟩, ?_, ?_, fun u => ?_⟩
    · simp [Instr.mapUpdate, run_underlying ht, MapKept.run_getObj_map hb, MapKept.run_checkKey hd hk, MapKept.run_findKey hd f1, Result.andThen, MapKept.run_setObj_map _ hb, setO]
    · intro x hx
      rw [Array.toList_push] at hx
      rcases List.mem_append.1 hx with hx | hx
      · obtain ⟨u, a, b, c⟩ := h1 x hx; exact ⟨u, a, b, by omega⟩
      · simp at hx; subst hx; exact ⟨s, rfl, rfl, Nat.lt_succ_self _⟩
    · rw [Array.toList_push, List.map_append, List.nodup_append]
      refine ⟨h2, by simp, fun a ha b hb' e => ?_⟩
      simp at hb'
      subst hb'
      obtain ⟨x, hx, rfl⟩ := List.mem_map.1 ha
      obtain ⟨u, -, -, c⟩ := h1 x hx
      omega
    · show _ ↔ (N u ∨ u = s)
      rw [Array.toList_push, ← h3 u]
      constructor
      · rintro ⟨x, hx, e⟩
        rcases List.mem_append.1 hx with hx | hx
        · exact .inl ⟨x, hx, e⟩
        · simp at hx; subst hx; injection e with e; exact .inr e.symm
      · rintro (⟨x, hx, e⟩ | rfl)
        · exact ⟨x, List.mem_append_left _ hx, e⟩
        · exact ⟨_, List.mem_append_right _ (List.mem_singleton.2 rfl), rfl⟩
  · have hv : e.val = .bool true := by obtain ⟨u, -, hv, -⟩ := h1 e (List.mem_of_getElem? f2); exact hv
    have hsame : (es.modify j fun e => { e with key := .string s, val := .bool true }).toList = es.toList := by
      rw [Array.toList_modify]
      exact modify_self f2 (by rw [← f3, ← hv])
    refine ⟨.map (es.modify j fun e => { e with key := .string s, val := .bool true }) clock, ?_, _, _, by simp [setO, hlt]; exact ⟨rfl, rfl⟩, ?_, ?_, fun u => ?_⟩
    · have hj : es[j]? = some e := by rw [← Array.getElem?_toList]; exact f2
      simp [Instr.mapUpdate, run_underlying ht, MapKept.run_getObj_map hb, MapKept.run_checkKey hd hk, MapKept.run_findKey hd f1, Result.andThen, MapKept.run_setObj_map _ hb, setO, Instr.keyThatStays, hj, f3, same_bits hk]
    · rw [hsame]; exact h1
    · rw [hsame]; exact h2
    · show _ ↔ (N u ∨ u = s)
      rw [hsame, h3 u]
      constructor
      · exact .inl
      · rintro (h | rfl)
        · exact h
        · exact (h3 u).1 ⟨e, List.mem_of_getElem? f2, f3⟩
theorem setO_grown (w : World) (m : Nat) (o : Obj) : w.grownBy (setO w m o) (some m) :=
  ⟨rfl, rfl, rfl, by simp [setO], fun k _ hk => by simp [setO, Array.getElem?_setIfInBounds_ne (show m ≠ k from fun e => hk (by rw [e]))]⟩
/-- A range over a set under way: D has come. -/
def RangeB (w : World) (r m : Nat) (N D : ByteArray → Prop) (k : Nat) : Prop := ∃ es clock since seen c0, w.heap[r]? = some (.mapIter (some m) since seen c0) ∧ w.heap[m]? = some (.map es clock) ∧ (∀ e ∈ es.toList, ∃ s : ByteArray, e.key = .string s ∧ e.val = .bool true ∧ e.born < clock) ∧
  (es.toList.map (·.born)).Nodup ∧ (∀ s : ByteArray, (∃ e ∈ es.toList, e.key = .string s) ↔ N s) ∧ (∀ e ∈ es.toList, e.born < since) ∧ since ≤ c0 ∧ c0 ≤ clock ∧ k = (leftOf es seen).size ∧ ∀ s : ByteArray, (∃ e ∈ es.toList, e.born ∈ seen ∧ e.key = .string s) ↔ D s
theorem RangeB.set {r : Nat} {D : ByteArray → Prop} {k : Nat} (h : RangeB w r m N D k) : SetB w m N := by
  obtain ⟨es, clock, since, seen, c0, _, hb, h1, h2, h3, -⟩ := h
  exact ⟨es, clock, hb, h1, h2, h3⟩
theorem RangeB.ltr {r : Nat} {D : ByteArray → Prop} {k : Nat} (h : RangeB w r m N D k) : r < w.heap.size := by
  obtain ⟨es, clock, since, seen, c0, hr, -⟩ := h
  exact (Array.getElem?_eq_some_iff.1 hr).1
theorem RangeB.kept {r : Nat} {D : ByteArray → Prop} {k : Nat} {w' : World} {row : Option Nat} (h : RangeB w r m N D k) (hg : w.grownBy w' row) (hm : row ≠ some m) (hr' : row ≠ some r) : RangeB w' r m N D k := by
  have h1 := h.ltr
  have h2 := h.set.lt
  obtain ⟨es, clock, since, seen, c0, hr, hb, rest⟩ := h
  exact ⟨es, clock, since, seen, c0, (hg.block r h1 (fun e => hr' e.symm)).trans hr, (hg.block m h2 (fun e => hm e.symm)).trans hb, rest⟩
open Classical in
/-- How many are still to come, read off the world. -/
noncomputable def rangeLeft (w : World) (r : Nat) : Nat := if h : ∃ (k m : Nat) (N D : ByteArray → Prop), RangeB w r m N D k then h.choose else 0
theorem rangeLeft_eq {r : Nat} {D : ByteArray → Prop} {k : Nat} (h : RangeB w r m N D k) : rangeLeft w r = k := by
  have hex : ∃ (k m : Nat) (N D : ByteArray → Prop), RangeB w r m N D k := ⟨k, m, N, D, h⟩
  unfold rangeLeft
  rw [dif_pos hex]
  obtain ⟨m', N', D', h'⟩ := hex.choose_spec
  obtain ⟨es, clock, since, seen, c0, hr, hb, -, -, -, -, -, -, hk, -⟩ := h
  obtain ⟨es', clock', since', seen', c0', hr', hb', -, -, -, -, -, -, hk', -⟩ := h'
  rw [hr] at hr'
  injection hr' with hr'
  injection hr' with e1 e2 e3 e4
  injection e1 with e1
  subst e1
  subst e3
  rw [hb] at hb'
  injection hb' with hb'
  injection hb' with e5 e6
  subst e5
  rw [hk', hk]
theorem SetB.range (h : SetB w m N) (ht : P.underlying t = some (.map kt et)) : ∃ o k, (Instr.range t (.map (some m))).run P w = .ok (.pointer (some ⟨w.heap.size, 0, none⟩)) (w.alloc o) ∧ RangeB (w.alloc o) w.heap.size m N (fun _ => False) k := by
  have hlt := h.lt
  obtain ⟨es, clock, hb, h1, h2, h3⟩ := h
  refine ⟨.mapIter (some m) clock #[] clock, (leftOf es #[]).size, ?_, es, clock, clock, #[], clock, ?_, ?_, h1, h2, h3, ?_, Nat.le_refl _, Nat.le_refl _, rfl, fun s => by simp⟩
  · simp [Instr.range, run_underlying ht, MapKept.run_getObj_map hb, Result.andThen, newObj, Sem.run_bind, Sem.run_pure]
    rfl
  · show (w.heap.push _)[w.heap.size]? = _; simp
  · exact (Below.heap_alloc w _ m hlt).trans hb
  · intro e he; obtain ⟨s, -, -, hc⟩ := h1 e he; exact hc
theorem RangeB.next {r : Nat} {D : ByteArray → Prop} {k : Nat} (h : RangeB w r m N D k) (ty : TypeId) :
    ((Instr.next (.pointer (some ⟨r, 0, none⟩)) false ty).run P w = .ok (.tuple #[.bool false]) w ∧ ∀ s, N s → D s) ∨
    ∃ (s : ByteArray) (w' : World), N s ∧ 0 < k ∧ (Instr.next (.pointer (some ⟨r, 0, none⟩)) false ty).run P w = .ok (.tuple #[.bool true, .string s, .bool true]) w' ∧ RangeB w' r m N (fun u => D u ∨ u = s) (k - 1) ∧ w.grownBy w' (some r) ∧ (Instr.entry (.pointer (some ⟨r, 0, none⟩))).run P w' = .ok (.tuple #[.string s, .bool true]) w' := by
  have hrm : r ≠ m := by
    obtain ⟨es, clock, since, seen, c0, hr, hb, -⟩ := h
    intro e; subst e; rw [hr] at hb; cases hb
  obtain ⟨es, clock, since, seen, c0, hr, hb, h1, h2, h3, h4, h5, h6, rfl, h7⟩ := h
  rcases run_next_at (P := P) w ty r m since c0 seen es clock hr hb h4 h5 with ⟨he, hrun⟩ | ⟨e, hel, w1, hw1, hrun⟩
  · refine .inl ⟨hrun, fun s hs => ?_⟩
    obtain ⟨e, he', hk⟩ := (h3 s).2 hs
    refine (h7 s).1 ⟨e, he', ?_, hk⟩
    have h0 : leftOf es seen = #[] := Array.eq_empty_of_size_eq_zero he
    unfold leftOf at h0
    have := Array.filter_eq_empty_iff.1 h0 e (by simpa using he')
    simpa using this
  · have hmem : e ∈ es.toList ∧ ¬ e.born ∈ seen := by
      unfold leftOf at hel
      simpa using hel
    obtain ⟨s, hks, hvs, hbs⟩ := h1 e hmem.1
    have hpos : 0 < (leftOf es seen).size := by
      rcases Nat.eq_zero_or_pos (leftOf es seen).size with h0 | h0
      · rw [Array.eq_empty_of_size_eq_zero h0] at hel; simp at hel
      · exact h0
    have hw1h : w1.heap = w.heap := by rcases hw1 with rfl | rfl <;> rfl
    have hr1 : r < w1.heap.size := by rw [hw1h]; exact (Array.getElem?_eq_some_iff.1 hr).1
    have hra : (ChangeMaps.setBlock w1 r (.mapIter (some m) since (seen.push e.born) clock)).heap[r]? = some (.mapIter (some m) since (seen.push e.born) clock) := by simp [ChangeMaps.setBlock, hr1]
    have hma : (ChangeMaps.setBlock w1 r (.mapIter (some m) since (seen.push e.born) clock)).heap[m]? = some (.map es clock) := by
      simp only [ChangeMaps.setBlock]
      rw [Array.getElem?_setIfInBounds_ne hrm, hw1h]
      exact hb
    refine .inr ⟨s, _, (h3 s).1 ⟨e, hmem.1, hks⟩, hpos, by rw [hrun, hks, hvs], ?_, ?_, by rw [run_entry_at _ r m since seen es clock e hra hma hmem.1 h2, hks, hvs]⟩
    · refine ⟨es, clock, since, seen.push e.born, clock, ?_, ?_, h1, h2, h3, h4, by omega, Nat.le_refl _, ?_, fun u => ?_⟩
      · exact hra
      · exact hma
      · have hcount : ∀ l : List MapEntry, (l.map (·.born)).Nodup → e ∈ l → (l.filter fun x => !(seen.push e.born).contains x.born).length + 1 = (l.filter fun x => !seen.contains x.born).length := by
          intro l
          induction l with
          | nil => intro _ h; cases h
          | cons a l ih =>
            intro hn hm
            rw [List.map_cons, List.nodup_cons] at hn
            rcases List.mem_cons.1 hm with rfl | hm
            · have hrest : (l.filter fun x => !(seen.push e.born).contains x.born) = l.filter fun x => !seen.contains x.born := by
                apply List.filter_congr
                intro x hx
                have : x.born ≠ e.born := fun he => hn.1 (he ▸ List.mem_map.2 ⟨x, hx, rfl⟩)
                simp [this]
              rw [List.filter_cons, List.filter_cons, hrest, if_neg (by simp), if_pos (by simpa using hmem.2)]
              rfl
            · have hne : a.born ≠ e.born := fun he => hn.1 (he ▸ List.mem_map.2 ⟨e, hm, rfl⟩)
              have := ih hn.2 hm
              rw [List.filter_cons, List.filter_cons]
              by_cases ha : a.born ∈ seen
              · rw [if_neg (by simp [ha]), if_neg (by simp [ha])]; exact this
              · rw [if_pos (by simp [ha, hne]), if_pos (by simp [ha])]; simp only [List.length_cons]; omega
        have := hcount es.toList h2 hmem.1
        have hsize : ∀ p : MapEntry → Bool, (es.filter p).size = (es.toList.filter p).length := fun p => (Array.length_toList (xs := es.filter p)).symm.trans (congrArg List.length (Array.toList_filter (p := p) (xs := es)))
        unfold leftOf
        rw [hsize, hsize]
        omega
      · show _ ↔ (D u ∨ u = s)
        rw [← h7 u]
        constructor
        · rintro ⟨x, hx, hb', hk⟩
          rcases Array.mem_push.1 hb' with hb' | hb'
          · exact .inl ⟨x, hx, hb', hk⟩
          · right
            have hxe : x = e := by
              have hinj : ∀ l : List MapEntry, (l.map (·.born)).Nodup → x ∈ l → e ∈ l → x.born = e.born → x = e := by
                intro l
                induction l with
                | nil => intro _ h; cases h
                | cons a l ih =>
                  intro hn hx' he' hb2
                  rw [List.map_cons, List.nodup_cons] at hn
                  rcases List.mem_cons.1 hx' with rfl | hx'
                  · rcases List.mem_cons.1 he' with rfl | he'
                    · rfl
                    · exact absurd (hb2 ▸ List.mem_map.2 ⟨e, he', rfl⟩) hn.1
                  · rcases List.mem_cons.1 he' with he2 | he'
                    · exact absurd (by rw [← he2, ← hb2]; exact List.mem_map.2 ⟨x, hx', rfl⟩) hn.1
                    · exact ih hn.2 hx' he' hb2
              exact hinj es.toList h2 hx hmem.1 hb'
            subst hxe
            rw [hks] at hk
            injection hk with hk
            exact hk.symm
        · rintro (⟨x, hx, hb', hk⟩ | rfl)
          · exact ⟨x, hx, Array.mem_push.2 (.inl hb'), hk⟩
          · exact ⟨e, hmem.1, Array.mem_push.2 (.inr rfl), hks⟩
    · have hg1 : w.grownBy w1 (some r) := by rcases hw1 with rfl | rfl <;> exact ⟨rfl, rfl, rfl, Nat.le_refl _, fun _ _ _ => rfl⟩
      refine ⟨hg1.os, hg1.tape, hg1.output, by simp [ChangeMaps.setBlock, hw1h], fun k hk hne => ?_⟩
      simp only [ChangeMaps.setBlock]
      rw [Array.getElem?_setIfInBounds_ne (fun e => hne (by rw [e])), hw1h]
end
end Go.Proofs.YtjoglnjpgkobeaaGreatDoor

/-
  PACKAGE names: A SCOPE AND THOSE AROUND IT, IN MEMORY: within, tell.
-/
namespace Go.Proofs.YtjoglnjpgkobeaaGreatDoor
open Go Go.RowKit
set_option linter.all false
set_option linter.unusedVariables false
set_option linter.unusedSimpArgs false
set_option linter.unusedVariables false
set_option linter.unusedSimpArgs false
attribute [local go_sem] run_store_one
/-- A scope: its block, its map, its names. -/
structure Scp where
  b : Nat
  m : Nat
  N : ByteArray → Prop
/-- A scope, and those around it, from the innermost. -/
def ScA (w : World) : Option Addr → List Scp → Prop
  | p, [] => p = none
  | p, f :: r => p = some ⟨f.b, 0, none⟩ ∧ f.b < w.heap.size ∧ SetB w f.m f.N ∧ (∀ g, g ∈ r → g.m ≠ f.m) ∧ ∃ q, w.cell? ⟨f.b, 0, none⟩ = some (.pointer q) ∧ w.cell? ⟨f.b, 1, none⟩ = some (.map (some f.m)) ∧ ScA w q r
/-- Is a name told in one of them? -/
def inC (fs : List Scp) (s : ByteArray) : Prop := ∃ f, f ∈ fs ∧ f.N s
theorem inC_cons {f : Scp} {r : List Scp} {s : ByteArray} : inC (f :: r) s ↔ f.N s ∨ inC r s := by simp [inC]
theorem inC_nil {s : ByteArray} : ¬ inC [] s := by simp [inC]
theorem ScA.kept {w w' : World} {row : Option Nat} (hg : w.grownBy w' row) : ∀ {fs : List Scp} {p : Option Addr}, ScA w p fs → (∀ r, row = some r → (∀ f, f ∈ fs → f.m ≠ r) ∧ ∀ v, w.cell? ⟨r, 0, none⟩ ≠ some v) → ScA w' p fs
  | [], _, h, _ => h
  | f :: r, p, h, hr => by
    obtain ⟨rfl, h1, h2, h3, q, h4, h5, h6⟩ := h
    have hne : some f.b ≠ row := fun e => (hr f.b e.symm).2 _ h4
    have hc : ∀ i, w'.cell? ⟨f.b, i, none⟩ = w.cell? ⟨f.b, i, none⟩ := fun i => World.cell?_of_block (hg.block _ h1 hne)
    exact ⟨rfl, Nat.lt_of_lt_of_le h1 hg.size, h2.kept hg (fun e => (hr _ e).1 f (List.mem_cons_self ..) rfl), h3, q, (hc 0).trans h4, (hc 1).trans h5, ScA.kept hg h6 fun r' e => ⟨fun g hgm => (hr r' e).1 g (List.mem_cons_of_mem _ hgm), (hr r' e).2⟩⟩
theorem Ext.gr {w w' : World} (h : Ext w w') : w.grownBy w' none := ⟨h.os, h.tape, h.output, h.size, fun k hk _ => h.block k hk⟩
theorem ScA.ext {w w' : World} {fs : List Scp} {p : Option Addr} (h : ScA w p fs) (hx : Ext w w') : ScA w' p fs := h.kept hx.gr (fun r e => by cases e)
theorem gr_trans {a b c : World} {r : Option Nat} (h : a.grownBy b r) (k : b.grownBy c r) : a.grownBy c r :=
  ⟨k.os.trans h.os, k.tape.trans h.tape, k.output.trans h.output, Nat.le_trans h.size k.size, fun i hi hn => (k.block i (Nat.lt_of_lt_of_le hi h.size) hn).trans (h.block i hi hn)⟩
theorem gr_none {a b : World} {r : Option Nat} (h : Ext a b) : a.grownBy b r := ⟨h.os, h.tape, h.output, h.size, fun i hi _ => h.block i hi⟩
/-- A step that turns a block that was not there before. -/
theorem gr_new {a b c : World} {m : Nat} (h : Ext a b) (k : b.grownBy c (some m)) (hm : a.heap.size ≤ m) : Ext a c := h.grown k (fun i e => by cases e; exact hm)
theorem map_no_cell {w : World} {m : Nat} {N : ByteArray → Prop} (h : SetB w m N) (v : Value) : w.cell? ⟨m, 0, none⟩ ≠ some v := by
  obtain ⟨es, clock, hb, -⟩ := h
  intro e
  simp [World.cell?, hb] at e
/-- A name more in the innermost one. -/
theorem ScA.more {w w' : World} {f : Scp} {r : List Scp} {p : Option Addr} {N' : ByteArray → Prop} (h : ScA w p (f :: r)) (hg : w.grownBy w' (some f.m)) (hs : SetB w' f.m N') : ScA w' p ({ f with N := N' } :: r) := by
  obtain ⟨rfl, h1, h2, h3, q, h4, h5, h6⟩ := h
  have hne : some f.b ≠ some f.m := fun e => by injection e with e; rw [e] at h4; exact map_no_cell h2 _ h4
  have hc : ∀ i, w'.cell? ⟨f.b, i, none⟩ = w.cell? ⟨f.b, i, none⟩ := fun i => World.cell?_of_block (hg.block _ h1 hne)
  exact ⟨rfl, Nat.lt_of_lt_of_le h1 hg.size, hs, h3, q, (hc 0).trans h4, (hc 1).trans h5, h6.kept hg fun i e => by cases e; exact ⟨h3, map_no_cell h2⟩⟩
theorem ScA.congr {w : World} {f : Scp} {r : List Scp} {p : Option Addr} {N' : ByteArray → Prop} (h : ScA w p (f :: r)) (hN : ∀ s, f.N s ↔ N' s) : ScA w p ({ f with N := N' } :: r) := by
  obtain ⟨rfl, h1, h2, rest⟩ := h
  exact ⟨rfl, h1, h2.congr hN, rest⟩
/-- How many scopes there are, read off the world. -/
theorem scA_len {w : World} : ∀ {fs fs' : List Scp} {p : Option Addr}, ScA w p fs → ScA w p fs' → fs.length = fs'.length
  | [], [], _, _, _ => rfl
  | [], g :: s, p, h, k => by obtain ⟨e, -⟩ := k; have h : p = none := h; rw [h] at e; cases e
  | f :: r, [], p, h, k => by obtain ⟨e, -⟩ := h; have k : p = none := k; rw [k] at e; cases e
  | f :: r, g :: s, p, h, k => by
    obtain ⟨rfl, -, -, -, q, h4, -, h6⟩ := h
    obtain ⟨e, -, -, -, q', k4, -, k6⟩ := k
    injection e with e
    injection e with e
    rw [← e, h4] at k4
    injection k4 with k4
    injection k4 with k4
    subst k4
    rw [List.length_cons, List.length_cons, scA_len h6 k6]
open Classical in
noncomputable def scLen (w : World) (v : Value) : Nat := if h : ∃ (fs : List Scp) (p : Option Addr), v = .pointer p ∧ ScA w p fs then h.choose.length else 0
theorem scLen_eq {w : World} {p : Option Addr} {fs : List Scp} (h : ScA w p fs) : scLen w (.pointer p) = fs.length := by
  have hex : ∃ (fs : List Scp) (q : Option Addr), Value.pointer p = .pointer q ∧ ScA w q fs := ⟨fs, p, rfl, h⟩
  unfold scLen
  rw [dif_pos hex]
  obtain ⟨q, hq, hs⟩ := hex.choose_spec
  injection hq with hq
  subst hq
  exact scA_len hs h
/-- What is thrown. -/
def twiceE : PanicEntry := { v := .iface 93 (.agg #[]), recovered := false }
theorem zeroBool : ∀ w : World, (zeroValue 4).run Tryz.prog w = .ok (.bool false) w := fun _ => by kernel_rfl
set_option maxRecDepth 20000 in
set_option maxHeartbeats 1000000 in
theorem within_any (w : World) (p : Option Addr) (fs : List Scp) (h : ScA w p fs) (hm : ∀ f, f ∈ fs → f.m < w.heap.size) :
    Calls Tryz.prog 71 #[.pointer p] w fun e w' => ∃ b m, e = .returned (.pointer (some ⟨b, 0, none⟩)) ∧ ScA w' (some ⟨b, 0, none⟩) (⟨b, m, fun _ => False⟩ :: fs) ∧ Ext w w' ∧ w.heap.size ≤ m ∧ m < w'.heap.size := by
  obtain ⟨W1, hW1⟩ : ∃ W1, W1 = w.alloc (.map #[] 0) := ⟨_, rfl⟩
  have hx1 : Ext w W1 := by rw [hW1]; exact Ext.new _ _
  have hs1 : SetB W1 w.heap.size (fun _ => False) := by rw [hW1]; exact SetB.new w
  have hz1 : W1.heap.size = w.heap.size + 1 := by rw [hW1]; simp
  obtain ⟨W2, hW2, hx2, hb2⟩ := box2 W1 (.pointer p) (.map (some w.heap.size)) 130
  have hz2 : W2.heap.size = W1.heap.size + 1 := by rw [hW2]; simp
  have FIN := hide (show ScA W2 (some ⟨W1.heap.size, 0, none⟩) (⟨W1.heap.size, w.heap.size, fun _ => False⟩ :: fs) ∧ Ext w W2 ∧ w.heap.size < W2.heap.size from
    ⟨⟨rfl, by show W1.heap.size < _; omega, hs1.kept hx2.gr (by simp), fun g hg e => by have := hm g hg; have e : g.m = w.heap.size := e; omega, p, hb2.get2.1, hb2.get2.2, (h.ext hx1).ext hx2⟩, hx1.trans hx2, by omega⟩)
  have hV1 := hW1.symm
  have hV2 := hW2.symm
  clear h hm hW1 hW2 hx1 hx2 hs1 hb2 hz1 hz2
  have hmm := @run_makeMap Tryz.prog
  go_enter Tryz.func71, Tryz.ntmps71
  go_wp2
  go_ret
  exact ⟨_, _, rfl, FIN.out.1, FIN.out.2.1, Nat.le_refl _, FIN.out.2.2⟩
set_option maxRecDepth 20000 in
set_option maxHeartbeats 1000000 in
theorem tell_any (w : World) (f : Scp) (r : List Scp) (p : Option Addr) (s : ByteArray) (h : ScA w p (f :: r)) :
    Calls Tryz.prog 72 #[.pointer p, .string s] w fun e w' =>
      (¬ inC (f :: r) s ∧ e = .returned (.tuple #[]) ∧ ScA w' p ({ f with N := fun t => f.N t ∨ t = s } :: r) ∧ w.grownBy w' (some f.m)) ∨ (inC (f :: r) s ∧ e = .panicked [twiceE] ∧ w' = w) := by
  have H := hide h
  go_enter Tryz.func72, Tryz.ntmps72
  go_wp2_with fail
  go_loopw [4] (fun t wr => ∃ (q : Option Addr) (fs2 : List Scp), t = .pointer q ∧ ScA w q fs2 ∧ (inC (f :: r) s ↔ inC fs2 s) ∧ wr = w) (fun t wr => scLen w t)
  case atStart => exact ⟨p, f :: r, rfl, h, Iff.rfl, rfl⟩
  case round =>
    obtain ⟨q, fs2, rfl, hs2, hiff, rfl⟩ := hrel
    cases fs2 with
    | nil =>
      obtain rfl : q = none := hs2
      have hno : ¬ inC (f :: r) s := fun hc => inC_nil (hiff.1 hc)
      obtain ⟨rfl, h1, h2, h3, q', h4, h5, h6⟩ := id h
      obtain ⟨o, hrun, hset⟩ := h2.add Tryz.underlying62 Tryz.underlying9 s
      have hg := setO_grown wr f.m o
      have FIN := hide (And.intro hno (And.intro (h.more hg hset) hg))
      clear h hiff hno h2 h3 h6 hset hg H
      go_wp2_with fail
      go_end0
      exact .inl ⟨FIN.out.1, rfl, FIN.out.2.1, FIN.out.2.2⟩
    | cons g fs3 =>
      have hl := scLen_eq hs2
      obtain ⟨rfl, h1, h2, h3, q', h4, h5, h6⟩ := hs2
      have hask := h2.ask Tryz.underlying62 Tryz.underlying9 zeroBool s
      have hl' := scLen_eq h6
      by_cases hN : g.N s
      · rw [yes_iff.2 hN] at hask
        have FIN := hide (hiff.2 (inC_cons.2 (.inl hN)))
        clear h h2 h3 h6 hiff hl hl' hN H
        go_wp2_with fail
        exact ⟨rfl, .inr ⟨FIN.out, rfl, rfl⟩⟩
      · rw [yes_no.2 hN] at hask
        have hiff' : inC (f :: r) s ↔ inC fs3 s := hiff.trans ⟨fun hc => (inC_cons.1 hc).resolve_left hN, fun hc => inC_cons.2 (.inr hc)⟩
        have FIN := hide (And.intro h6 hiff')
        clear h h2 h3 h6 hiff hiff' hN H
        go_wp2_with fail
        go_roundw
        case rel => exact ⟨q', fs3, rfl, FIN.out.1, FIN.out.2, trivial⟩
        case measure => rw [hl, hl', List.length_cons]; omega
end Go.Proofs.YtjoglnjpgkobeaaGreatDoor
