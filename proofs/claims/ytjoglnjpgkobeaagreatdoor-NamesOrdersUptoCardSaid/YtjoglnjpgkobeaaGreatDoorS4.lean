/-
  FROM THE ROW's READING TO TREES IN MEMORY: what a reading of the arguments says of the cells.
-/
import Derived.Deep.Slices
import Derived.ChangeReads
import Derived.DataShut
import Derived.Lib.IndexMore
import Derived.Test.YtjoglnjpgkobeaaGreatDoorRows
import Derived.Test.YtjoglnjpgkobeaaGreatDoorProg
import Derived.Test.YtjoglnjpgkobeaaGreatDoorS3
import Derived.Test.YtjoglnjpgkobeaaGreatDoorS1
namespace Go.Proofs.YtjoglnjpgkobeaaGreatDoor
open Go Go.RowKit
set_option linter.all false
set_option linter.unusedVariables false
set_option linter.unusedSimpArgs false
set_option linter.unusedVariables false
set_option linter.unusedSimpArgs false
section
variable {H : Type} {enc : TypeId × Value → H} {w : World} {spare : Nat → Bool} {held : Bool}
theorem bulk_one (d : DataW H) : 1 ≤ Rows.uptoBulk d := by
  cases d with
  | lit l => cases l <;> simp [Rows.uptoBulk]
  | nil => simp [Rows.uptoBulk]
  | ptr d => simp [Rows.uptoBulk]
  | slice elems spare => simp [Rows.uptoBulk]
  | agg parts => simp [Rows.uptoBulk]
  | iface t d => simp [Rows.uptoBulk]
  | map entries => simp [Rows.uptoBulk]
  | held h => simp [Rows.uptoBulk]
theorem bulk_part {d : DataW H} {l : List (DataW H)} (h : d ∈ l) : Rows.uptoBulk d ≤ Rows.uptoBulkAll l := by
  induction l with
  | nil => cases h
  | cons x r ih =>
    simp only [Rows.uptoBulkAll]
    rcases List.mem_cons.1 h with e | e
    · subst e; omega
    · have := ih e; omega
theorem bulk_append (l r : List (DataW H)) : Rows.uptoBulkAll (l ++ r) = Rows.uptoBulkAll l + Rows.uptoBulkAll r := by
  induction l with
  | nil => simp [Rows.uptoBulkAll]
  | cons x l ih => simp only [List.cons_append, Rows.uptoBulkAll, ih]; omega
/-- A list of what there is at each place. -/
theorem exists_list {α : Type} (Q : Nat → α → Prop) (sz : α → Nat) (D : Nat → DataW H) : ∀ len, (∀ i, i < len → ∃ y, Q i y ∧ sz y ≤ Rows.uptoBulk (D i)) →
    ∃ l : List α, l.length = len ∧ (∀ k (h : k < l.length), Q k l[k]) ∧ msize sz l ≤ Rows.uptoBulkAll ((List.range len).map D) := by
  intro len
  induction len with
  | zero => intro _; exact ⟨[], rfl, fun k h => absurd h (by simp), by simp [msize]⟩
  | succ len ih =>
    intro h
    obtain ⟨l, h1, h2, h3⟩ := ih (fun i hi => h i (by omega))
    obtain ⟨y, hy, hz⟩ := h len (by omega)
    refine ⟨l ++ [y], by simp [h1], fun k hk => ?_, ?_⟩
    · by_cases e : k < l.length
      · rw [List.getElem_append_left e]; exact h2 k e
      · have : k = len := by simp at hk; omega
        subst this
        rw [List.getElem_append_right (by omega)]
        simpa [h1] using hy
    · rw [msize_append, List.range_succ, List.map_append, bulk_append]
      simp only [msize, List.map_cons, List.map_nil, Rows.uptoBulkAll]
      omega
theorem cell_spot {x : Addr} {v : Value} (h : w.cell? x = some v) : x.spot = none := by
  cases hsp : x.spot with
  | none => rfl
  | some s =>
    simp only [World.cell?] at h
    split at h
    · simp [hsp] at h
    · cases h
theorem add_eq {a : Addr} (h : a.spot = none) (k : Nat) : a.add k = ⟨a.block, a.off + k, none⟩ := by
  unfold Addr.add
  split
  · rename_i h0
    subst h0
    cases a
    simp_all
  · rfl
theorem read_list {α : Type} {R : α → List Value → Prop} {V : α → Prop} {sz : α → Nat} {t e : TypeId} {n : Nat} (ht : Tryz.prog.underlying t = some (.slice e)) (hc : Tryz.prog.cellsOf e = n) (hn : 0 < n) {fuel : Nat} {cs : List Value} {d : DataW H} {ps : List MemPlace}
    (h1 : ∀ y cs, R y cs → ∀ v, v ∈ cs → v.oneCell' = true) (h : DataW.trod enc Tryz.prog w 0 spare held fuel t cs = some (d, ps))
    (hel : ∀ fuel' cs' d' ps', Rows.uptoBulk d' < Rows.uptoBulk d → DataW.trod enc Tryz.prog w 0 spare held fuel' e cs' = some (d', ps') → ∃ y, R y cs' ∧ V y ∧ sz y ≤ Rows.uptoBulk d') :
    ∃ (l : List α) (v : Value), cs = [v] ∧ Sl R w w.heap.size n l v ∧ (∀ y, y ∈ l → V y) ∧ msize sz l + 1 ≤ Rows.uptoBulk d := by
  rcases Go.Deep.open_slice ht h with ⟨rfl, hx⟩ | ⟨a, len, cap, m, fu, D, Pl, rfl, -, hlc, -, hm, hx, hall⟩
  · exact ⟨[], _, rfl, Sl.nil, (fun y hy => by cases hy), by simp only [msize]; exact bulk_one d⟩
  · have hd : d = .slice ((List.range len).map D) ((List.range (m - len)).map fun j => D (len + j)) := (Prod.mk.inj hx).1
    have hml : len ≤ m := by rw [hm]; split <;> omega
    have hbd : Rows.uptoBulkAll ((List.range len).map D) + 1 ≤ Rows.uptoBulk d := by rw [hd]; simp only [Rows.uptoBulk]; omega
    have hel' : ∀ i, i < len → ∃ y, (ElemAt w w.heap.size (some a) n i (R y) ∧ V y) ∧ sz y ≤ Rows.uptoBulk (D i) := fun i hi => by
      obtain ⟨cs', hcs, htr⟩ := hall i (by omega)
      rw [hc] at hcs
      have hDi : Rows.uptoBulk (D i) ≤ Rows.uptoBulkAll ((List.range len).map D) := bulk_part (List.mem_map.2 ⟨i, List.mem_range.2 hi, rfl⟩)
      obtain ⟨y, hR, hV, hz⟩ := hel fu cs' (D i) (Pl i) (by omega) htr
      refine ⟨y, ⟨?_, hV⟩, hz⟩
      obtain ⟨hb0, hlen, hcell⟩ := World.cells?_some hcs
      obtain ⟨cs0, hcs0, -⟩ := hall 0 (by omega)
      rw [hc, Nat.zero_mul] at hcs0
      obtain ⟨-, hlen0, hcell0⟩ := World.cells?_some hcs0
      have hsp : a.spot = none := by
        have h0 := hcell0 0 (by omega)
        rw [List.getElem?_eq_getElem (by omega)] at h0
        have := cell_spot h0
        simpa [Addr.add] using this
      have hblk : a.block < w.heap.size := by
        have := World.cells?_block hcs0 hn
        simpa [Addr.add] using this
      have ha : a = ⟨a.block, a.off, none⟩ := by cases a; simp_all
      refine ⟨a.block, a.off, cs', by rw [← ha], hblk, hlen, fun j v hj => ?_, h1 y cs' hR, hR⟩
      have hjn : j < n := by have := (List.getElem?_eq_some_iff.1 hj).1; omega
      have := hcell j hjn
      rw [Go.Deep.add_add, add_eq hsp, hj] at this
      rw [Nat.add_assoc]
      exact this
    obtain ⟨l, hl, hq, hsz⟩ := exists_list (fun i y => ElemAt w w.heap.size (some a) n i (R y) ∧ V y) sz D len hel'
    subst hl
    exact ⟨l, _, rfl, ⟨some a, cap, rfl, hlc, fun k hk => (hq k hk).1⟩, fun y hy => by obtain ⟨k, hk, rfl⟩ := List.getElem_of_mem hy; exact (hq k hk).2, by omega⟩
end
theorem oneX {w : World} {B : Nat} (y : X) (cs : List Value) (h : RX w B y cs) : ∀ v, v ∈ cs → v.oneCell' = true := by
  obtain ⟨v, rfl, hs⟩ := RX_iff.1 h
  intro u hu
  simp only [List.mem_cons, List.not_mem_nil, or_false] at hu
  rcases hu with rfl | rfl | rfl | rfl | rfl | rfl
  all_goals first | rfl | exact hs.oneCell
theorem oneS {w : World} {B : Nat} (y : S) (cs : List Value) (h : RS w B y cs) : ∀ v, v ∈ cs → v.oneCell' = true := by
  obtain ⟨v2, v3, rfl, h2, h3⟩ := RS_iff.1 h
  intro u hu
  simp only [List.mem_cons, List.not_mem_nil, or_false] at hu
  rcases hu with rfl | rfl | rfl | rfl
  · rfl
  · rfl
  · exact h2.oneCell
  · exact h3.oneCell
theorem oneB {w : World} {B : Nat} (y : Bnd) (cs : List Value) (h : RB w B y cs) : ∀ v, v ∈ cs → v.oneCell' = true := by
  obtain ⟨c, rfl, h2⟩ := h
  intro u hu
  rcases List.mem_cons.1 hu with rfl | hu
  · rfl
  · exact oneX _ _ h2 u hu
theorem oneP {w : World} {B : Nat} (y : Prt) (cs : List Value) (h : RP w B y cs) : ∀ v, v ∈ cs → v.oneCell' = true := by
  obtain ⟨c, rfl, h2⟩ := h
  intro u hu
  rcases List.mem_cons.1 hu with rfl | hu
  · rfl
  · rcases List.mem_cons.1 hu with rfl | hu
    · rfl
    · exact oneX _ _ h2 u hu
theorem oneI {w : World} {B : Nat} (y : Itm) (cs : List Value) (h : RI w B y cs) : ∀ v, v ∈ cs → v.oneCell' = true := by
  obtain ⟨v3, v4, v5, v6, v7, v8, rfl, h3, h4, h5, h6, h7, h8⟩ := RI_iff.1 h
  intro u hu
  simp only [List.mem_cons, List.not_mem_nil, or_false] at hu
  rcases hu with rfl | rfl | rfl | rfl | rfl | rfl | rfl | rfl | rfl
  · rfl
  · rfl
  · rfl
  · exact h3.oneCell
  · exact h4.oneCell
  · exact h5.oneCell
  · exact h6.oneCell
  · exact h7.oneCell
  · exact h8.oneCell
theorem oneM {w : World} {B : Nat} (y : Mdl) (cs : List Value) (h : RM w B y cs) : ∀ v, v ∈ cs → v.oneCell' = true := by
  obtain ⟨v1, v2, v3, rfl, h1, h2, h3⟩ := h
  intro u hu
  simp only [List.mem_cons, List.not_mem_nil, or_false] at hu
  rcases hu with rfl | rfl | rfl | rfl
  · rfl
  · exact h1.oneCell
  · exact h2.oneCell
  · exact h3.oneCell
theorem list1 {α : Type} {l : List α} (h : l.length = 1) : ∃ a, l = [a] := by
  match l, h with
  | [a], _ => exact ⟨_, rfl⟩
theorem list2 {α : Type} {l : List α} (h : l.length = 2) : ∃ a b, l = [a, b] := by
  match l, h with
  | [a, b], _ => exact ⟨_, _, rfl⟩
theorem list3 {α : Type} {l : List α} (h : l.length = 3) : ∃ a b c, l = [a, b, c] := by
  match l, h with
  | [a, b, c], _ => exact ⟨_, _, _, rfl⟩
theorem list4 {α : Type} {l : List α} (h : l.length = 4) : ∃ a b c d, l = [a, b, c, d] := by
  match l, h with
  | [a, b, c, d], _ => exact ⟨_, _, _, _, rfl⟩
theorem list6 {α : Type} {l : List α} (h : l.length = 6) : ∃ a b c d e f, l = [a, b, c, d, e, f] := by
  match l, h with
  | [a, b, c, d, e, f], _ => exact ⟨_, _, _, _, _, _, rfl⟩
theorem list7 {α : Type} {l : List α} (h : l.length = 7) : ∃ a b c d e f g, l = [a, b, c, d, e, f, g] := by
  match l, h with
  | [a, b, c, d, e, f, g], _ => exact ⟨_, _, _, _, _, _, _, rfl⟩
theorem list8 {α : Type} {l : List α} (h : l.length = 8) : ∃ a b c d e f g i, l = [a, b, c, d, e, f, g, i] := by
  match l, h with
  | [a, b, c, d, e, f, g, i], _ => exact ⟨_, _, _, _, _, _, _, _, rfl⟩
theorem list9 {α : Type} {l : List α} (h : l.length = 9) : ∃ a b c d e f g i j, l = [a, b, c, d, e, f, g, i, j] := by
  match l, h with
  | [a, b, c, d, e, f, g, i, j], _ => exact ⟨_, _, _, _, _, _, _, _, _, rfl⟩
theorem cTint : Tryz.prog.cellsOf 3 = 1 := by kernel_rfl
theorem cTstr : Tryz.prog.cellsOf 9 = 1 := by kernel_rfl
theorem cTbool : Tryz.prog.cellsOf 4 = 1 := by kernel_rfl
theorem cTu64 : Tryz.prog.cellsOf 46 = 1 := by kernel_rfl
theorem cTsX : Tryz.prog.cellsOf 47 = 1 := by kernel_rfl
theorem cTsS : Tryz.prog.cellsOf 51 = 1 := by kernel_rfl
theorem cTsB : Tryz.prog.cellsOf 29 = 1 := by kernel_rfl
theorem cTsP : Tryz.prog.cellsOf 30 = 1 := by kernel_rfl
theorem cTsI : Tryz.prog.cellsOf 31 = 1 := by kernel_rfl
theorem cTsM : Tryz.prog.cellsOf 22 = 1 := by kernel_rfl
theorem cTX : Tryz.prog.cellsOf 49 = 6 := by kernel_rfl
theorem cTS : Tryz.prog.cellsOf 140 = 4 := by kernel_rfl
theorem cTB : Tryz.prog.cellsOf 85 = 7 := by kernel_rfl
theorem cTP : Tryz.prog.cellsOf 83 = 8 := by kernel_rfl
theorem cTI : Tryz.prog.cellsOf 53 = 9 := by kernel_rfl
theorem cTM : Tryz.prog.cellsOf 33 = 4 := by kernel_rfl
theorem cTF : Tryz.prog.cellsOf 24 = 1 := by kernel_rfl
section
variable {H : Type} {enc : TypeId × Value → H} {w : World} {spare : Nat → Bool} {held : Bool}
theorem read_str {fuel : Nat} {c : Value} {y : DataW H × List MemPlace} (h : DataW.trod enc Tryz.prog w 0 spare held fuel 9 [c] = some y) : ∃ s : ByteArray, c = .string s ∧ s.size + 1 ≤ Rows.uptoBulk y.1 := by
  obtain ⟨s, h1, h2, h3⟩ := DataW.trod_string Tryz.underlying9 h
  simp only [List.cons.injEq, and_true] at h1
  exact ⟨s, h1, by rw [h2]; simp [Rows.uptoBulk]⟩
theorem read_int {fuel : Nat} {c : Value} {y : DataW H × List MemPlace} (h : DataW.trod enc Tryz.prog w 0 spare held fuel 3 [c] = some y) : ∃ n, c = .int .i64 n ∧ 1 ≤ Rows.uptoBulk y.1 := by
  obtain ⟨n, h1, h2, h3⟩ := DataW.trod_int Tryz.underlying3 h
  simp only [List.cons.injEq, and_true] at h1
  exact ⟨n, h1, bulk_one _⟩
theorem read_bool {fuel : Nat} {c : Value} {y : DataW H × List MemPlace} (h : DataW.trod enc Tryz.prog w 0 spare held fuel 4 [c] = some y) : ∃ b, c = .bool b ∧ 1 ≤ Rows.uptoBulk y.1 := by
  obtain ⟨n, h1, h2⟩ := DataW.trod_bool Tryz.underlying4 h
  simp only [List.cons.injEq, and_true] at h1
  exact ⟨n, h1, bulk_one _⟩
theorem read_u64 {fuel : Nat} {c : Value} {y : DataW H × List MemPlace} (h : DataW.trod enc Tryz.prog w 0 spare held fuel 46 [c] = some y) : ∃ n, c = .int .u64 n ∧ (0 ≤ n ∧ n < 18446744073709551616) ∧ 1 ≤ Rows.uptoBulk y.1 := by
  obtain ⟨n, h1, h2, h3⟩ := DataW.trod_int Tryz.underlying46 h
  simp only [List.cons.injEq, and_true] at h1
  have hw := (Lit.wf_int_iff _ _).1 h3
  exact ⟨n, h1, (by simp [IntKind.min, IntKind.max, IntKind.bits, IntKind.signed] at hw; omega), bulk_one _⟩
theorem readX : ∀ N fuel (cs : List Value) (d : DataW H) (ps : List MemPlace), Rows.uptoBulk d ≤ N → N ≤ 1048576 → DataW.trod enc Tryz.prog w 0 spare held fuel 49 cs = some (d, ps) →
    ∃ x, RX w w.heap.size x cs ∧ VX x ∧ sizeX x ≤ Rows.uptoBulk d := by
  intro N
  induction N using Nat.strongRecOn with
  | _ N ih =>
    intro fuel cs d ps hd hN h
    obtain ⟨xs, n, -, hx, hl, hlen, hf⟩ := DataW.trod_struct Tryz.underlying49 h
    obtain ⟨c0, c1, c2, c3, c4, c5, rfl⟩ := list6 (hl.trans cTX)
    obtain ⟨y0, y1, y2, y3, y4, y5, rfl⟩ := list6 hlen
    have g0 := hf 0 _ rfl
    have g1 := hf 1 _ rfl
    have g2 := hf 2 _ rfl
    have g3 := hf 3 _ rfl
    have g4 := hf 4 _ rfl
    have g5 := hf 5 _ rfl
    clear hf
    simp [cTint, cTstr, cTu64, cTsX] at g0 g1 g2 g3 g4 g5
    obtain ⟨op, rfl, b0⟩ := read_int g0
    obtain ⟨nm, rfl, b1⟩ := read_str g1
    obtain ⟨n2, rfl, b2⟩ := read_int g2
    obtain ⟨n3, rfl, b3⟩ := read_int g3
    obtain ⟨v4, rfl, hv4, b4⟩ := read_u64 g4
    have hd' : d = .agg [y0.1, y1.1, y2.1, y3.1, y4.1, y5.1] := (Prod.mk.inj hx).1
    have hbd : Rows.uptoBulk d = Rows.uptoBulk y0.1 + (Rows.uptoBulk y1.1 + (Rows.uptoBulk y2.1 + (Rows.uptoBulk y3.1 + (Rows.uptoBulk y4.1 + (Rows.uptoBulk y5.1 + 0))))) + 1 := by rw [hd']; rfl
    obtain ⟨l, v, hv, hs, hV, hz⟩ := read_list Tryz.underlying47 cTX (by omega) oneX (d := y5.1) (ps := y5.2) g5 (fun fuel' cs' d' ps' hlt htr => ih (Rows.uptoBulk d') (by omega) fuel' cs' d' ps' (Nat.le_refl _) (by omega) htr)
    simp only [List.cons.injEq, and_true] at hv
    subst hv
    refine ⟨.mk op nm n2 n3 v4 l, RX_iff.2 ⟨_, rfl, hs⟩, VX_iff.2 ⟨hv4.1, hv4.2, ?_, hV⟩, ?_⟩
    · show nm.size < _
      omega
    · rw [sizeX_eq]
      show 1 + msize sizeX l ≤ _
      omega
theorem readS : ∀ N fuel (cs : List Value) (d : DataW H) (ps : List MemPlace), Rows.uptoBulk d ≤ N → N ≤ 1048576 → DataW.trod enc Tryz.prog w 0 spare held fuel 140 cs = some (d, ps) →
    ∃ x, RS w w.heap.size x cs ∧ VS x ∧ sizeS x ≤ Rows.uptoBulk d := by
  intro N
  induction N using Nat.strongRecOn with
  | _ N ih =>
    intro fuel cs d ps hd hN h
    obtain ⟨xs, n, -, hx, hl, hlen, hf⟩ := DataW.trod_struct Tryz.underlying140 h
    obtain ⟨c0, c1, c2, c3, rfl⟩ := list4 (hl.trans cTS)
    obtain ⟨y0, y1, y2, y3, rfl⟩ := list4 hlen
    have g0 := hf 0 _ rfl
    have g1 := hf 1 _ rfl
    have g2 := hf 2 _ rfl
    have g3 := hf 3 _ rfl
    clear hf
    simp [cTint, cTstr, cTsX, cTsS] at g0 g1 g2 g3
    obtain ⟨op, rfl, b0⟩ := read_int g0
    obtain ⟨nm, rfl, b1⟩ := read_str g1
    have hd' : d = .agg [y0.1, y1.1, y2.1, y3.1] := (Prod.mk.inj hx).1
    have hbd : Rows.uptoBulk d = Rows.uptoBulk y0.1 + (Rows.uptoBulk y1.1 + (Rows.uptoBulk y2.1 + (Rows.uptoBulk y3.1 + 0))) + 1 := by rw [hd']; rfl
    obtain ⟨lx, v, hv, hsx, hVx, hzx⟩ := read_list Tryz.underlying47 cTX (by omega) oneX (d := y2.1) (ps := y2.2) g2 (fun fuel' cs' d' ps' hlt htr => readX (Rows.uptoBulk d') fuel' cs' d' ps' (Nat.le_refl _) (by omega) htr)
    simp only [List.cons.injEq, and_true] at hv
    subst hv
    obtain ⟨l, v, hv, hs, hV, hz⟩ := read_list Tryz.underlying51 cTS (by omega) oneS (d := y3.1) (ps := y3.2) g3 (fun fuel' cs' d' ps' hlt htr => ih (Rows.uptoBulk d') (by omega) fuel' cs' d' ps' (Nat.le_refl _) (by omega) htr)
    simp only [List.cons.injEq, and_true] at hv
    subst hv
    refine ⟨.mk op nm lx l, RS_iff.2 ⟨_, _, rfl, hsx, hs⟩, VS_iff.2 ⟨?_, hVx, hV⟩, ?_⟩
    · show nm.size < _
      omega
    · rw [sizeS_eq]
      show 1 + msize sizeX lx + msize sizeS l ≤ _
      omega
theorem readB (fuel : Nat) (cs : List Value) (d : DataW H) (ps : List MemPlace) (hN : Rows.uptoBulk d ≤ 1048576) (h : DataW.trod enc Tryz.prog w 0 spare held fuel 85 cs = some (d, ps)) :
    ∃ x, RB w w.heap.size x cs ∧ VB x ∧ sizeB x ≤ Rows.uptoBulk d := by
  obtain ⟨xs, n, -, hx, hl, hlen, hf⟩ := DataW.trod_struct Tryz.underlying85 h
  obtain ⟨c0, c1, c2, c3, c4, c5, c6, rfl⟩ := list7 (hl.trans cTB)
  obtain ⟨y0, y1, rfl⟩ := list2 hlen
  have g0 := hf 0 _ rfl
  have g1 := hf 1 _ rfl
  clear hf
  simp [cTstr, cTX] at g0 g1
  obtain ⟨nm, rfl, b1⟩ := read_str g0
  have hd' : d = .agg [y0.1, y1.1] := (Prod.mk.inj hx).1
  have hbd : Rows.uptoBulk d = Rows.uptoBulk y0.1 + (Rows.uptoBulk y1.1 + 0) + 1 := by rw [hd']; rfl
  obtain ⟨x, hr, hv, hz⟩ := readX _ n _ y1.1 y1.2 (Nat.le_refl _) (by omega) g1
  refine ⟨⟨nm, x⟩, ⟨_, rfl, hr⟩, ⟨?_, hv⟩, ?_⟩
  · show nm.size < _
    omega
  · show 1 + sizeX x ≤ _
    omega
theorem readP (fuel : Nat) (cs : List Value) (d : DataW H) (ps : List MemPlace) (hN : Rows.uptoBulk d ≤ 1048576) (h : DataW.trod enc Tryz.prog w 0 spare held fuel 83 cs = some (d, ps)) :
    ∃ x, RP w w.heap.size x cs ∧ VP x ∧ sizeP x ≤ Rows.uptoBulk d := by
  obtain ⟨xs, n, -, hx, hl, hlen, hf⟩ := DataW.trod_struct Tryz.underlying83 h
  obtain ⟨c0, c1, c2, c3, c4, c5, c6, c7, rfl⟩ := list8 (hl.trans cTP)
  obtain ⟨y0, y1, y2, rfl⟩ := list3 hlen
  have g0 := hf 0 _ rfl
  have g1 := hf 1 _ rfl
  have g2 := hf 2 _ rfl
  clear hf
  simp [cTstr, cTbool, cTX] at g0 g1 g2
  obtain ⟨nm, rfl, b1⟩ := read_str g0
  obtain ⟨o, rfl, b2⟩ := read_bool g1
  have hd' : d = .agg [y0.1, y1.1, y2.1] := (Prod.mk.inj hx).1
  have hbd : Rows.uptoBulk d = Rows.uptoBulk y0.1 + (Rows.uptoBulk y1.1 + (Rows.uptoBulk y2.1 + 0)) + 1 := by rw [hd']; rfl
  obtain ⟨x, hr, hv, hz⟩ := readX _ n _ y2.1 y2.2 (Nat.le_refl _) (by omega) g2
  refine ⟨⟨nm, o, x⟩, ⟨_, rfl, hr⟩, ⟨?_, hv⟩, ?_⟩
  · show nm.size < _
    omega
  · show 1 + sizeX x ≤ _
    omega
theorem readI : ∀ N fuel (cs : List Value) (d : DataW H) (ps : List MemPlace), Rows.uptoBulk d ≤ N → N ≤ 1048576 → DataW.trod enc Tryz.prog w 0 spare held fuel 53 cs = some (d, ps) →
    ∃ x, RI w w.heap.size x cs ∧ VI x ∧ sizeI x ≤ Rows.uptoBulk d := by
  intro N
  induction N using Nat.strongRecOn with
  | _ N ih =>
    intro fuel cs d ps hd hN h
    obtain ⟨xs, n, -, hx, hl, hlen, hf⟩ := DataW.trod_struct Tryz.underlying53 h
    obtain ⟨c0, c1, c2, c3, c4, c5, c6, c7, c8, rfl⟩ := list9 (hl.trans cTI)
    obtain ⟨y0, y1, y2, y3, y4, y5, y6, y7, y8, rfl⟩ := list9 hlen
    have g0 := hf 0 _ rfl
    have g1 := hf 1 _ rfl
    have g2 := hf 2 _ rfl
    have g3 := hf 3 _ rfl
    have g4 := hf 4 _ rfl
    have g5 := hf 5 _ rfl
    have g6 := hf 6 _ rfl
    have g7 := hf 7 _ rfl
    have g8 := hf 8 _ rfl
    clear hf
    simp [cTint, cTstr, cTsX, cTsS, cTsI, cTsB] at g0 g1 g2 g3 g4 g5 g6 g7 g8
    obtain ⟨op, rfl, b0⟩ := read_int g0
    obtain ⟨nm, rfl, b1⟩ := read_str g1
    obtain ⟨of, rfl, b2⟩ := read_str g2
    have hd' : d = .agg [y0.1, y1.1, y2.1, y3.1, y4.1, y5.1, y6.1, y7.1, y8.1] := (Prod.mk.inj hx).1
    have hbd : Rows.uptoBulk d = Rows.uptoBulk y0.1 + (Rows.uptoBulk y1.1 + (Rows.uptoBulk y2.1 + (Rows.uptoBulk y3.1 + (Rows.uptoBulk y4.1 + (Rows.uptoBulk y5.1 + (Rows.uptoBulk y6.1 + (Rows.uptoBulk y7.1 + (Rows.uptoBulk y8.1 + 0)))))))) + 1 := by rw [hd']; rfl
    obtain ⟨l3, v, hv, s3, V3, z3⟩ := read_list Tryz.underlying47 cTX (by omega) oneX (d := y3.1) (ps := y3.2) g3 (fun fuel' cs' d' ps' hlt htr => readX (Rows.uptoBulk d') fuel' cs' d' ps' (Nat.le_refl _) (by omega) htr)
    simp only [List.cons.injEq, and_true] at hv
    subst hv
    obtain ⟨l4, v, hv, s4, V4, z4⟩ := read_list Tryz.underlying51 cTS (by omega) oneS (d := y4.1) (ps := y4.2) g4 (fun fuel' cs' d' ps' hlt htr => readS (Rows.uptoBulk d') fuel' cs' d' ps' (Nat.le_refl _) (by omega) htr)
    simp only [List.cons.injEq, and_true] at hv
    subst hv
    obtain ⟨l5, v, hv, s5, V5, z5⟩ := read_list Tryz.underlying31 cTI (by omega) oneI (d := y5.1) (ps := y5.2) g5 (fun fuel' cs' d' ps' hlt htr => ih (Rows.uptoBulk d') (by omega) fuel' cs' d' ps' (Nat.le_refl _) (by omega) htr)
    simp only [List.cons.injEq, and_true] at hv
    subst hv
    obtain ⟨l6, v, hv, s6, V6, z6⟩ := read_list Tryz.underlying31 cTI (by omega) oneI (d := y6.1) (ps := y6.2) g6 (fun fuel' cs' d' ps' hlt htr => ih (Rows.uptoBulk d') (by omega) fuel' cs' d' ps' (Nat.le_refl _) (by omega) htr)
    simp only [List.cons.injEq, and_true] at hv
    subst hv
    obtain ⟨l7, v, hv, s7, V7, z7⟩ := read_list Tryz.underlying29 cTB (by omega) oneB (d := y7.1) (ps := y7.2) g7 (fun fuel' cs' d' ps' hlt htr => readB fuel' cs' d' ps' (by omega) htr)
    simp only [List.cons.injEq, and_true] at hv
    subst hv
    obtain ⟨l8, v, hv, s8, V8, z8⟩ := read_list Tryz.underlying29 cTB (by omega) oneB (d := y8.1) (ps := y8.2) g8 (fun fuel' cs' d' ps' hlt htr => readB fuel' cs' d' ps' (by omega) htr)
    simp only [List.cons.injEq, and_true] at hv
    subst hv
    refine ⟨.mk op nm of l3 l4 l5 l6 l7 l8, RI_iff.2 ⟨_, _, _, _, _, _, rfl, s3, s4, s5, s6, s7, s8⟩, VI_iff.2 ⟨?_, ?_, V3, V4, V5, V6, V7, V8⟩, ?_⟩
    · show nm.size < _
      omega
    · show of.size < _
      omega
    · rw [sizeI_eq]
      show 1 + msize sizeX l3 + msize sizeS l4 + msize sizeI l5 + msize sizeI l6 + msize sizeB l7 + msize sizeB l8 ≤ _
      omega
theorem readM (fuel : Nat) (cs : List Value) (d : DataW H) (ps : List MemPlace) (hN : Rows.uptoBulk d ≤ 1048576) (h : DataW.trod enc Tryz.prog w 0 spare held fuel 33 cs = some (d, ps)) :
    ∃ x, RM w w.heap.size x cs ∧ VM x ∧ sizeM x ≤ Rows.uptoBulk d := by
  obtain ⟨xs, n, -, hx, hl, hlen, hf⟩ := DataW.trod_struct Tryz.underlying33 h
  obtain ⟨c0, c1, c2, c3, rfl⟩ := list4 (hl.trans cTM)
  obtain ⟨y0, y1, y2, y3, rfl⟩ := list4 hlen
  have g0 := hf 0 _ rfl
  have g1 := hf 1 _ rfl
  have g2 := hf 2 _ rfl
  have g3 := hf 3 _ rfl
  clear hf
  simp [cTstr, cTsB, cTsP, cTsI] at g0 g1 g2 g3
  obtain ⟨nm, rfl, b1⟩ := read_str g0
  have hd' : d = .agg [y0.1, y1.1, y2.1, y3.1] := (Prod.mk.inj hx).1
  have hbd : Rows.uptoBulk d = Rows.uptoBulk y0.1 + (Rows.uptoBulk y1.1 + (Rows.uptoBulk y2.1 + (Rows.uptoBulk y3.1 + 0))) + 1 := by rw [hd']; rfl
  obtain ⟨l1, v, hv, s1, V1, z1⟩ := read_list Tryz.underlying29 cTB (by omega) oneB (d := y1.1) (ps := y1.2) g1 (fun fuel' cs' d' ps' hlt htr => readB fuel' cs' d' ps' (by omega) htr)
  simp only [List.cons.injEq, and_true] at hv
  subst hv
  obtain ⟨l2, v, hv, s2, V2, z2⟩ := read_list Tryz.underlying30 cTP (by omega) oneP (d := y2.1) (ps := y2.2) g2 (fun fuel' cs' d' ps' hlt htr => readP fuel' cs' d' ps' (by omega) htr)
  simp only [List.cons.injEq, and_true] at hv
  subst hv
  obtain ⟨l3, v, hv, s3, V3, z3⟩ := read_list Tryz.underlying31 cTI (by omega) oneI (d := y3.1) (ps := y3.2) g3 (fun fuel' cs' d' ps' hlt htr => readI (Rows.uptoBulk d') fuel' cs' d' ps' (Nat.le_refl _) (by omega) htr)
  simp only [List.cons.injEq, and_true] at hv
  subst hv
  refine ⟨⟨nm, l1, l2, l3⟩, ⟨_, _, _, rfl, s1, s2, s3⟩, ⟨?_, V1, V2, V3⟩, ?_⟩
  · show nm.size < _
    omega
  · show sizeM (Mdl.mk nm l1 l2 l3) ≤ _
    simp only [sizeM]
    omega
/-- A file: one slice of modules. -/
theorem readF (fuel : Nat) (cs : List Value) (d : DataW H) (ps : List MemPlace) (hN : Rows.uptoBulk d ≤ 1048576) (h : DataW.trod enc Tryz.prog w 0 spare held fuel 24 cs = some (d, ps)) :
    ∃ (f : List Mdl) (v : Value), cs = [v] ∧ Sl (RM w w.heap.size) w w.heap.size 4 f v ∧ (∀ y, y ∈ f → VM y) ∧ msize sizeM f ≤ Rows.uptoBulk d := by
  obtain ⟨xs, n, -, hx, hl, hlen, hf⟩ := DataW.trod_struct Tryz.underlying24 h
  obtain ⟨c0, rfl⟩ := list1 (hl.trans cTF)
  obtain ⟨y0, rfl⟩ := list1 hlen
  have g0 := hf 0 _ rfl
  clear hf
  simp [cTsM] at g0
  have hd' : d = .agg [y0.1] := (Prod.mk.inj hx).1
  have hbd : Rows.uptoBulk d = Rows.uptoBulk y0.1 + 0 + 1 := by rw [hd']; rfl
  obtain ⟨l1, v, hv, s1, V1, z1⟩ := read_list Tryz.underlying22 cTM (by omega) oneM (d := y0.1) (ps := y0.2) g0 (fun fuel' cs' d' ps' hlt htr => readM fuel' cs' d' ps' (by omega) htr)
  simp only [List.cons.injEq, and_true] at hv
  subst hv
  exact ⟨l1, _, rfl, s1, V1, by omega⟩
end
end Go.Proofs.YtjoglnjpgkobeaaGreatDoor

/-
  A REGION THAT DRAWS ITS ORDER, BY WHAT IS KNOWN OF EACH OPERATION's VALUE, WITH GUARDS: what is known of a guard's value says that the guarded operation is done.
-/
namespace Go.Proofs.YtjoglnjpgkobeaaGreatDoor
open Go Go.RowKit
set_option linter.all false
set_option linter.unusedVariables false
set_option linter.unusedSimpArgs false
/-- The temporaries that are written are all different, and lie in the frame; no operation waits for a later one; a guarded one waits for its guard. -/
def factsOkG (l : List Oper) (n : Nat) : Bool :=
  l.all (fun o => match o.dst with | some d => decide (d < n) | none => true) && (List.range l.length).all fun i => match l[i]? with
    | some x => x.after.all (fun e => !Region.binds .any e || decide (e.on < i)) && (match x.dst with
      | some d => (List.range i).all fun j => ((l[j]?).bind Oper.dst) != some d
      | none => true) && (match x.guard with
      | some (j, _) => x.after.any (fun e => Region.binds .any e && e.on == j) && ((l[j]?).bind Oper.dst).isSome
      | none => true)
    | none => true
structure FactsOkG (l : List Oper) (n : Nat) : Prop where
  lt : ∀ (i : Nat) (d : Tmp), (l[i]?).bind Oper.dst = some d → d < n
  apart : ∀ (i j : Nat) (d : Tmp), (l[i]?).bind Oper.dst = some d → (l[j]?).bind Oper.dst = some d → i = j
  order : ∀ i x, l[i]? = some x → ∀ e ∈ x.after, Region.binds .any e = true → e.on < i
  guard : ∀ (i : Nat) (x : Oper) (j : Nat) (b : Bool), l[i]? = some x → x.guard = some (j, b) → (∃ e ∈ x.after, Region.binds .any e = true ∧ e.on = j) ∧ ∃ d, (l[j]?).bind Oper.dst = some d
theorem factsOkG_spec {l : List Oper} {n : Nat} (h : factsOkG l n = true) : FactsOkG l n := by
  simp only [factsOkG, Bool.and_eq_true, List.all_eq_true, List.mem_range] at h
  obtain ⟨h1, h2⟩ := h
  have lt : ∀ {i : Nat} {d : Tmp}, (l[i]?).bind Oper.dst = some d → ∃ o, l[i]? = some o ∧ o.dst = some d ∧ i < l.length := by
    intro i d hi
    obtain ⟨o, ho, hd⟩ := Option.bind_eq_some_iff.1 hi
    exact ⟨o, ho, hd, (List.getElem?_eq_some_iff.1 ho).1⟩
  have ap : ∀ (i j : Nat) (d : Tmp), j < i → (l[i]?).bind Oper.dst = some d → (l[j]?).bind Oper.dst = some d → False := by
    intro i j d hji hi hj
    obtain ⟨o, ho, hd, hl⟩ := lt hi
    have := h2 i hl
    simp only [ho, hd, Bool.and_eq_true, List.all_eq_true, List.mem_range, bne_iff_ne, ne_eq] at this
    exact this.1.2 j hji hj
  refine ⟨fun i d hi => ?_, fun i j d hi hj => ?_, fun i x hx e he hb => ?_, fun i x j b hx hg => ?_⟩
  · obtain ⟨o, ho, hd, _⟩ := lt hi
    have := h1 o (List.mem_of_getElem? ho)
    simpa [hd] using this
  · rcases Nat.lt_trichotomy i j with h | h | h
    · exact (ap j i d h hj hi).elim
    · exact h
    · exact (ap i j d h hi hj).elim
  · have := h2 i (List.getElem?_eq_some_iff.1 hx).1
    simp only [hx, Bool.and_eq_true, Array.all_eq_true_iff_forall_mem, Bool.or_eq_true, Bool.not_eq_true', decide_eq_true_eq] at this
    rcases this.1.1 e he with h | h
    · rw [h] at hb; cases hb
    · exact h
  · have := h2 i (List.getElem?_eq_some_iff.1 hx).1
    simp only [hx, hg, Bool.and_eq_true] at this
    obtain ⟨e, he, hb⟩ := Array.any_eq_true'.1 this.2.1
    simp only [Bool.and_eq_true, beq_iff_eq] at hb
    exact ⟨⟨e, he, hb.1, hb.2⟩, Option.isSome_iff_exists.1 this.2.2⟩
section
variable {P : Program} {W : World} {a0 : Act} {F : Nat → Value → World → Prop} {l : List Oper}
theorem Known.stepG (hst : ∀ i v w w', F i v w → Ext w w' → F i v w') (T : FactsOkG l a0.tmps.size) {listed : Array Bool} {A : Act} {w : World} (h : Known W a0 F l (fun j => listed.getD j false) A w)
    {i : Nat} {o : Oper} (ho : l[i]? = some o) {v : Value} {w' : World} (hx : Ext w w') (hF : F i v w') : Known W a0 F l (fun j => (listed.setIfInBounds i true).getD j false) (A.put o.dst v) w' := by
  have hd0 : (l[i]?).bind Oper.dst = o.dst := by rw [ho]; rfl
  have hsz : (A.put o.dst v).tmps.size = a0.tmps.size := by
    cases hdd : o.dst <;> simp [Act.put, h.size]
  have hdf : (A.put o.dst v).defers = a0.defers := by
    cases hdd : o.dst <;> simp [Act.put, h.defers]
  have hother : ∀ t, o.dst ≠ some t → (A.put o.dst v).tmps.getD t undef = A.tmps.getD t undef := by
    intro t ht
    cases hdd : o.dst with
    | none => rfl
    | some d => rw [put_getD, if_neg (fun hh => ht (by rw [hdd, hh.1]))]
  refine ⟨h.ext.trans hx, hsz, hdf, fun j d hj hl => ?_, fun t ht => ?_⟩
  · by_cases hij : i = j
    · subst hij
      rw [hd0] at hj
      rw [hj, put_getD, if_pos ⟨rfl, by rw [h.size]; exact T.lt i d (by rw [hd0]; exact hj)⟩]
      exact hF
    · rw [getD_set_ne false hij] at hl
      rw [hother d (fun hh => hij (T.apart i j d (by rw [hd0]; exact hh) hj))]
      exact hst _ _ _ _ (h.done j d hj hl) hx
  · rw [hother t (fun hh => ht i (by rw [hd0]; exact hh))]
    exact h.rest t ht
/-- What is known of each guard's value: it is what its operations ask. -/
def GuardsMet (F : Nat → Value → World → Prop) : List Oper → Prop
  | [] => True
  | o :: r => (match o.guard with | some (j, b) => ∀ v w, F j v w → v = .bool b | none => True) ∧ GuardsMet F r
theorem GuardsMet.get {F : Nat → Value → World → Prop} : ∀ {l : List Oper}, GuardsMet F l → ∀ {i : Nat} {o : Oper}, l[i]? = some o → ∀ {j b}, o.guard = some (j, b) → ∀ v w, F j v w → v = .bool b
  | [], _, _, _, ho, _, _, _ => by simp at ho
  | x :: r, h, 0, o, ho, j, b, hg => by
    simp at ho
    subst ho
    have := h.1
    rw [hg] at this
    exact this
  | x :: r, h, i + 1, o, ho, j, b, hg => GuardsMet.get h.2 (by simpa using ho) hg
theorem wanted_of {A : Act} {w : World} {listed : Nat → Bool} {o : Oper} {i n : Nat} (T : FactsOkG l n) (hg : GuardsMet F l) (ho : l[i]? = some o) (hn : A.tmps.size = n)
    (h : ∀ (j : Nat) (d : Tmp), (l[j]?).bind Oper.dst = some d → listed j = true → F j (A.tmps.getD d undef) w) (he : ∀ e ∈ o.after, Region.binds .any e = true → listed e.on = true) :
    Region.wanted o (yielded l.toArray A.tmps) = true := by
  unfold Region.wanted
  cases hgd : o.guard with
  | none => rfl
  | some g =>
    obtain ⟨j, b⟩ := g
    obtain ⟨⟨e, hm, hb, rfl⟩, d, hd⟩ := T.guard i o j b ho hgd
    have hv := hg.get ho hgd _ _ (h e.on d hd (he e hm hb))
    have hlt := T.lt e.on d hd
    have hy : yielded l.toArray A.tmps e.on = some b := by
      unfold yielded
      simp only [List.getElem?_toArray]
      rw [hd]
      have h1 : d < A.tmps.size := by rw [hn]; exact hlt
      have h2 : A.tmps[d]? = some (.bool b) := by
        rw [Array.getElem?_eq_getElem h1]
        have := hv
        rw [Array.getD_eq_getD_getElem?, Array.getElem?_eq_getElem h1] at this
        exact congrArg some this
      simp [h2]
    simp [hy]
theorem wpAny_factsG {Q : Exit → Act → World → Prop} (hst : ∀ i v w w', F i v w → Ext w w' → F i v w') (T : FactsOkG l a0.tmps.size) (hg : GuardsMet F l) (hS : StepsOk P W a0 F l l 0)
    (hE : ∀ A w, Known W a0 F l (fun j => decide (j < l.length)) A w → Q .normal A w) :
    ∀ (fuel : Nat) (listed : Array Bool) (A : Act) (w : World), listed.size = l.length → (fuel = 0 → Region.ready .any l.toArray listed = []) → left listed.toList ≤ fuel → Known W a0 F l (fun j => listed.getD j false) A w →
      wpAny P .any l.toArray Q fuel listed A w := by
  have hO := T.order
  have fin : ∀ (listed : Array Bool) (A : Act) (w : World), listed.size = l.length → Region.ready .any l.toArray listed = [] → Known W a0 F l (fun j => listed.getD j false) A w → Q .normal A w := by
    intro listed A w hs hr hk
    have all : ∀ n i, i < n → i < l.length → listed.getD i true = true := by
      intro n
      induction n with
      | zero => intro i hi; omega
      | succ n ih =>
        intro i hin hi
        cases hl : listed.getD i true with
        | true => rfl
        | false =>
          have : i ∈ Region.ready .any l.toArray listed := mem_ready.2 ⟨hl, l[i], by simp [List.getElem?_eq_getElem hi], fun e he hb => by
            have hlt := hO i l[i] (List.getElem?_eq_getElem hi) e he hb
            have := ih e.on (by omega) (by omega)
            have hz : e.on < listed.size := by omega
            simpa [hz] using this⟩
          rw [hr] at this; cases this
    refine hE A w ⟨hk.ext, hk.size, hk.defers, fun j d hj hl => hk.done j d hj ?_, hk.rest⟩
    have hjl : j < l.length := by simpa using hl
    have := all (j + 1) j (by omega) hjl
    have hz : j < listed.size := by omega
    simpa [hz] using this
  intro fuel
  induction fuel with
  | zero =>
    intro listed A w hs h0 _ hk
    exact ⟨h0 rfl, fin listed A w hs (h0 rfl) hk⟩
  | succ fuel ih =>
    intro listed A w hs _ hc hk
    refine ⟨fun hr => fin listed A w hs hr hk, fun i hi => ?_⟩
    obtain ⟨h0, o, ho, hall⟩ := mem_ready.1 hi
    have ho' : l[i]? = some o := by simpa using ho
    have hil : i < l.length := (List.getElem?_eq_some_iff.1 ho').1
    have hcount : left (listed.setIfInBounds i true).toList ≤ fuel := by
      have hz : i < listed.size := by omega
      have hget : listed.toList[i]? = some false := by
        simp [hz] at h0
        simp [hz, h0]
      have := left_set listed.toList i hget
      rw [show (listed.setIfInBounds i true).toList = listed.toList.set i true by simp]
      omega
    unfold wpOp
    simp only [List.getElem?_toArray, ho']
    rw [if_pos (wanted_of T hg ho' hk.size hk.done hall)]
    have hstep := StepsOk.get l 0 hS i o ho'
    rw [Nat.zero_add] at hstep
    refine .inl (Oper.wp_mono ?_ (Oper.wp_noWay (hstep A w hk.ext (depFacts_of hk.done o.after.toList (fun e he hb => hall e (by simpa using he) hb)) hk.rest)))
    rintro A' w' ⟨v, rfl, hx, hF⟩
    refine ih _ _ _ (by simpa using hs) (fun hf => ?_) hcount (hk.stepG hst T ho' hx hF)
    subst hf
    rw [List.eq_nil_iff_forall_not_mem]
    intro j hj
    obtain ⟨hj0, y, hy, _⟩ := mem_ready.1 hj
    have hjl : j < l.length := by
      have := (Array.getElem?_eq_some_iff.1 hy).1
      simpa using this
    have hz : j < (listed.setIfInBounds i true).size := by simpa [hs] using hjl
    have : false ∈ (listed.setIfInBounds i true).toList := by
      simp only [Array.getD_eq_getD_getElem?, Array.getElem?_eq_getElem hz, Option.getD_some] at hj0
      rw [← hj0]
      exact Array.mem_toList_iff.2 (Array.getElem_mem _)
    have := left_pos _ this
    omega
/-- What is known of one value for which an operation waits, wherever it stands in the list. -/
theorem depOn {A : Act} {w : World} : ∀ {es : List Edge}, depFacts F l A w es → ∀ (j : Nat) (d : Tmp), (es.any fun e => Region.binds .any e && e.on == j) = true → (l[j]?).bind Oper.dst = some d → F j (A.tmps.getD d undef) w
  | [], _, _, _, h, _ => by simp at h
  | e :: r, hd, j, d, h, hl => by
    rw [List.any_cons, Bool.or_eq_true] at h
    rcases h with h | h
    · simp only [Bool.and_eq_true, beq_iff_eq] at h
      obtain ⟨h1, rfl⟩ := h
      exact dep1 hd h1 hl
    · exact depOn hd.2 j d h hl
/-- THE REGION, BY WHAT IS KNOWN OF EACH VALUE, ITS GUARDS' TOO. -/
theorem wp_region_facts_g {id : Nat} {Q : Exit → Act → World → Prop} {w : World} (F : Nat → Value → World → Prop) (hm : P.follows .mixedOrders = true) (hB : factsOkG l a0.tmps.size = true) (hg : GuardsMet F l) (hw : Ext W w) (hst : ∀ i v w w', F i v w → Ext w w' → F i v w')
    (hS : StepsOk P W a0 F l l 0) (hE : ∀ A w, Known W a0 F l (fun j => decide (j < l.length)) A w → Q .normal A w) : (Code.region id l.toArray true).wp P Q a0 w := by
  refine wp_region_any hm ?_
  simp only [List.size_toArray]
  refine wpAny_factsG hst (factsOkG_spec hB) hg hS hE l.length _ a0 _ (by simp) (fun h => ?_) ?_ ⟨hw.drew, rfl, rfl, fun j d _ hl => ?_, fun t _ => rfl⟩
  · have : l = [] := List.eq_nil_of_length_eq_zero h
    subst this
    rfl
  · rw [Array.toList_replicate, left_replicate]; exact Nat.le_refl _
  · rw [none_listed] at hl; cases hl
end
end Go.Proofs.YtjoglnjpgkobeaaGreatDoor

/-
  A REGION THAT DRAWS ITS ORDER, WITH ONE STORE INTO WHAT IT MADE ITSELF: by what is known of each operation's value, and of the world once the store is done.
-/
namespace Go.Proofs.YtjoglnjpgkobeaaGreatDoor
open Go Go.RowKit
set_option linter.all false
set_option linter.unusedVariables false
set_option linter.unusedSimpArgs false
/-- The store (operation s) has no temporary; it waits for operation q, whose temporary is t. -/
def storeOk (l : List Oper) (s q t : Nat) : Bool :=
  (match l[s]? with | some x => x.dst.isNone && x.after.any (fun e => Region.binds .any e && e.on == q) | none => false) && ((l[q]?).bind Oper.dst) == some t
structure StoreOk (l : List Oper) (s q t : Nat) : Prop where
  dst : ∀ x, l[s]? = some x → x.dst = none
  waits : ∀ x, l[s]? = some x → ∃ e ∈ x.after, Region.binds .any e = true ∧ e.on = q
  temp : (l[q]?).bind Oper.dst = some t
theorem storeOk_spec {l : List Oper} {s q t : Nat} (h : storeOk l s q t = true) : StoreOk l s q t := by
  simp only [storeOk, Bool.and_eq_true, beq_iff_eq] at h
  obtain ⟨h1, h2⟩ := h
  refine ⟨fun x hx => ?_, fun x hx => ?_, h2⟩
  · simp only [hx, Bool.and_eq_true, Option.isNone_iff_eq_none] at h1
    exact h1.1
  · simp only [hx, Bool.and_eq_true] at h1
    obtain ⟨e, he, hb⟩ := Array.any_eq_true'.1 h1.2
    simp only [Bool.and_eq_true, beq_iff_eq] at hb
    exact ⟨e, he, hb.1, hb.2⟩
section
variable {P : Program} {W : World} {a0 : Act} {F : Nat → Value → World → Prop} {G : Value → World → Prop} {l : List Oper} {s q t : Nat}
structure KnownS (W : World) (a0 : Act) (F : Nat → Value → World → Prop) (G : Value → World → Prop) (l : List Oper) (s q t : Nat) (listed : Nat → Bool) (A : Act) (w : World) : Prop extends Known W a0 F l listed A w where
  eff : listed s = true → listed q = true ∧ G (A.tmps.getD t undef) w
/-- What is owed of operation i. -/
def StepOkS (P : Program) (W : World) (a0 : Act) (F : Nat → Value → World → Prop) (G : Value → World → Prop) (l : List Oper) (s t : Nat) (i : Nat) (o : Oper) : Prop :=
  ∀ (A : Act) (w : World), Ext W w → depFacts F l A w o.after.toList → (∀ t : Tmp, (∀ j : Nat, (l[j]?).bind Oper.dst ≠ some t) → A.tmps.getD t undef = a0.tmps.getD t undef) →
    o.wp P A w (fun A' w' => if i = s then A' = A ∧ Ext W w' ∧ (∀ j u, F j u w → F j u w') ∧ G (A.tmps.getD t undef) w' else ∃ v, A' = A.put o.dst v ∧ Ext w w' ∧ F i v w') NoWay
def StepsOkS (P : Program) (W : World) (a0 : Act) (F : Nat → Value → World → Prop) (G : Value → World → Prop) (l : List Oper) (s t : Nat) : List Oper → Nat → Prop
  | [], _ => True
  | o :: r, i => StepOkS P W a0 F G l s t i o ∧ StepsOkS P W a0 F G l s t r (i + 1)
theorem StepsOkS.get : ∀ (r : List Oper) (k : Nat), StepsOkS P W a0 F G l s t r k → ∀ (j : Nat) (o : Oper), r[j]? = some o → StepOkS P W a0 F G l s t (k + j) o
  | [], _, _, _, _, hj => by simp at hj
  | x :: r, k, h, 0, o, hj => by simp at hj; subst hj; exact h.1
  | x :: r, k, h, j + 1, o, hj => by
    have := StepsOkS.get r (k + 1) h.2 j o (by simpa using hj)
    rwa [show k + 1 + j = k + (j + 1) by omega] at this
theorem KnownS.step (hst : ∀ i v w w', F i v w → Ext w w' → F i v w') (hgt : ∀ v w w', G v w → Ext w w' → G v w') (T : FactsOkG l a0.tmps.size) (TS : StoreOk l s q t) {listed : Array Bool} {A : Act} {w : World} (hls : listed.size = l.length) (h : KnownS W a0 F G l s q t (fun j => listed.getD j false) A w)
    {i : Nat} {o : Oper} (ho : l[i]? = some o) (his : i ≠ s) (hun : listed.getD i true = false) {v : Value} {w' : World} (hx : Ext w w') (hF : F i v w') : KnownS W a0 F G l s q t (fun j => (listed.setIfInBounds i true).getD j false) (A.put o.dst v) w' := by
  refine ⟨h.toKnown.stepG hst T ho hx hF, fun hs => ?_⟩
  rw [getD_set_ne false his] at hs
  obtain ⟨h1, h2⟩ := h.eff hs
  have hiq : i ≠ q := by
    rintro rfl
    have hz : i < listed.size := by rw [hls]; exact (List.getElem?_eq_some_iff.1 ho).1
    simp [hz] at hun h1
    rw [h1] at hun; cases hun
  refine ⟨by rw [getD_set_ne false hiq]; exact h1, ?_⟩
  have hne : o.dst ≠ some t := fun hh => hiq (T.apart i q t (by rw [ho]; exact hh) TS.temp)
  have : (A.put o.dst v).tmps.getD t undef = A.tmps.getD t undef := by
    cases hdd : o.dst with
    | none => rfl
    | some d => rw [put_getD, if_neg (fun hh => hne (by rw [hdd, hh.1]))]
  rw [this]
  exact hgt _ _ _ h2 hx
theorem KnownS.store (T : FactsOkG l a0.tmps.size) (TS : StoreOk l s q t) (hsq : s ≠ q) {listed : Array Bool} {A : Act} {w : World} (h : KnownS W a0 F G l s q t (fun j => listed.getD j false) A w)
    {o : Oper} (ho : l[s]? = some o) (hq : listed.getD q false = true) {w' : World} (hx : Ext W w') (hF : ∀ j u, F j u w → F j u w') (hG : G (A.tmps.getD t undef) w') : KnownS W a0 F G l s q t (fun j => (listed.setIfInBounds s true).getD j false) A w' := by
  refine ⟨⟨hx, h.size, h.defers, fun j d hj hl => ?_, h.rest⟩, fun _ => ⟨by rw [getD_set_ne false hsq]; exact hq, hG⟩⟩
  by_cases hij : s = j
  · subst hij
    rw [ho, Option.bind_some, TS.dst o ho] at hj
    cases hj
  · rw [getD_set_ne false hij] at hl
    exact hF _ _ (h.done j d hj hl)
theorem wpAny_factsS {Q : Exit → Act → World → Prop} (hst : ∀ i v w w', F i v w → Ext w w' → F i v w') (hgt : ∀ v w w', G v w → Ext w w' → G v w') (T : FactsOkG l a0.tmps.size) (TS : StoreOk l s q t) (hsq : s ≠ q) (hg : GuardsMet F l) (hS : StepsOkS P W a0 F G l s t l 0)
    (hE : ∀ A w, KnownS W a0 F G l s q t (fun j => decide (j < l.length)) A w → Q .normal A w) :
    ∀ (fuel : Nat) (listed : Array Bool) (A : Act) (w : World), listed.size = l.length → (fuel = 0 → Region.ready .any l.toArray listed = []) → left listed.toList ≤ fuel → KnownS W a0 F G l s q t (fun j => listed.getD j false) A w →
      wpAny P .any l.toArray Q fuel listed A w := by
  have hO := T.order
  have fin : ∀ (listed : Array Bool) (A : Act) (w : World), listed.size = l.length → Region.ready .any l.toArray listed = [] → KnownS W a0 F G l s q t (fun j => listed.getD j false) A w → Q .normal A w := by
    intro listed A w hs hr hk
    have all : ∀ n i, i < n → i < l.length → listed.getD i true = true := by
      intro n
      induction n with
      | zero => intro i hi; omega
      | succ n ih =>
        intro i hin hi
        cases hl : listed.getD i true with
        | true => rfl
        | false =>
          have : i ∈ Region.ready .any l.toArray listed := mem_ready.2 ⟨hl, l[i], by simp [List.getElem?_eq_getElem hi], fun e he hb => by
            have hlt := hO i l[i] (List.getElem?_eq_getElem hi) e he hb
            have := ih e.on (by omega) (by omega)
            have hz : e.on < listed.size := by omega
            simpa [hz] using this⟩
          rw [hr] at this; cases this
    have allf : ∀ j, j < l.length → listed.getD j false = true := by
      intro j hjl
      have := all (j + 1) j (by omega) hjl
      have hz : j < listed.size := by omega
      simpa [hz] using this
    refine hE A w ⟨⟨hk.ext, hk.size, hk.defers, fun j d hj hl => hk.done j d hj (allf j (by simpa using hl)), hk.rest⟩, fun hsd => ?_⟩
    have hql : q < l.length := by
      obtain ⟨o, ho, -⟩ := Option.bind_eq_some_iff.1 TS.temp
      exact (List.getElem?_eq_some_iff.1 ho).1
    exact ⟨by simpa using hql, (hk.eff (allf s (by simpa using hsd))).2⟩
  intro fuel
  induction fuel with
  | zero =>
    intro listed A w hs h0 _ hk
    exact ⟨h0 rfl, fin listed A w hs (h0 rfl) hk⟩
  | succ fuel ih =>
    intro listed A w hs _ hc hk
    refine ⟨fun hr => fin listed A w hs hr hk, fun i hi => ?_⟩
    obtain ⟨h0, o, ho, hall⟩ := mem_ready.1 hi
    have ho' : l[i]? = some o := by simpa using ho
    have hil : i < l.length := (List.getElem?_eq_some_iff.1 ho').1
    have hcount : left (listed.setIfInBounds i true).toList ≤ fuel := by
      have hz : i < listed.size := by omega
      have hget : listed.toList[i]? = some false := by
        simp [hz] at h0
        simp [hz, h0]
      have := left_set listed.toList i hget
      rw [show (listed.setIfInBounds i true).toList = listed.toList.set i true by simp]
      omega
    have hfuel : fuel = 0 → Region.ready .any l.toArray (listed.setIfInBounds i true) = [] := by
      intro hf
      subst hf
      rw [List.eq_nil_iff_forall_not_mem]
      intro j hj
      obtain ⟨hj0, y, hy, _⟩ := mem_ready.1 hj
      have hjl : j < l.length := by
        have := (Array.getElem?_eq_some_iff.1 hy).1
        simpa using this
      have hz : j < (listed.setIfInBounds i true).size := by simpa [hs] using hjl
      have : false ∈ (listed.setIfInBounds i true).toList := by
        simp only [Array.getD_eq_getD_getElem?, Array.getElem?_eq_getElem hz, Option.getD_some] at hj0
        rw [← hj0]
        exact Array.mem_toList_iff.2 (Array.getElem_mem _)
      have := left_pos _ this
      omega
    unfold wpOp
    simp only [List.getElem?_toArray, ho']
    rw [if_pos (wanted_of T hg ho' hk.size hk.done hall)]
    have hstep := StepsOkS.get l 0 hS i o ho'
    rw [Nat.zero_add] at hstep
    refine .inl (Oper.wp_mono ?_ (Oper.wp_noWay (hstep A w hk.ext (depFacts_of hk.done o.after.toList (fun e he hb => hall e (by simpa using he) hb)) hk.rest)))
    intro A' w' hpost
    by_cases his : i = s
    · subst his
      rw [if_pos rfl] at hpost
      obtain ⟨rfl, hx, hF, hG⟩ := hpost
      obtain ⟨e, he, hb, rfl⟩ := TS.waits o ho'
      exact ih _ _ _ (by simpa using hs) hfuel hcount (hk.store T TS hsq ho' (hall e he hb) hx hF hG)
    · rw [if_neg his] at hpost
      obtain ⟨v, rfl, hx, hF⟩ := hpost
      exact ih _ _ _ (by simpa using hs) hfuel hcount (hk.step hst hgt T TS hs ho' his h0 hx hF)
/-- THE REGION, BY WHAT IS KNOWN OF EACH VALUE, AND OF THE WORLD BEHIND THE STORE. -/
theorem wp_region_facts_s {id : Nat} {Q : Exit → Act → World → Prop} {w : World} (F : Nat → Value → World → Prop) (G : Value → World → Prop) (s q t : Nat) (hm : P.follows .mixedOrders = true) (hB : factsOkG l a0.tmps.size = true) (hB2 : storeOk l s q t = true) (hsq : s ≠ q) (hsl : s < l.length) (hg : GuardsMet F l) (hw : Ext W w)
    (hst : ∀ i v w w', F i v w → Ext w w' → F i v w') (hgt : ∀ v w w', G v w → Ext w w' → G v w')
    (hS : StepsOkS P W a0 F G l s t l 0) (hE : ∀ A w, Known W a0 F l (fun j => decide (j < l.length)) A w → G (A.tmps.getD t undef) w → Q .normal A w) : (Code.region id l.toArray true).wp P Q a0 w := by
  refine wp_region_any hm ?_
  simp only [List.size_toArray]
  refine wpAny_factsS hst hgt (factsOkG_spec hB) (storeOk_spec hB2) hsq hg hS (fun A w hk => hE A w hk.toKnown (hk.eff (by simpa using hsl)).2) l.length _ a0 _ (by simp) (fun h => ?_) ?_ ⟨⟨hw.drew, rfl, rfl, fun j d _ hl => ?_, fun t _ => rfl⟩, fun hl => ?_⟩
  · have : l = [] := List.eq_nil_of_length_eq_zero h
    subst this
    rfl
  · rw [Array.toList_replicate, left_replicate]; exact Nat.le_refl _
  · rw [none_listed] at hl; cases hl
  · rw [none_listed] at hl; cases hl
end
end Go.Proofs.YtjoglnjpgkobeaaGreatDoor

/-
  A REGION THAT DRAWS ITS ORDER, WITH STORES: by what is known of each operation's value, and by one claim on what is done, the temporaries and the world, which every operation keeps.
-/
namespace Go.Proofs.YtjoglnjpgkobeaaGreatDoor
open Go Go.RowKit
set_option linter.all false
set_option linter.unusedVariables false
set_option linter.unusedSimpArgs false
section
variable {P : Program} {W : World} {a0 : Act} {F : Nat → Value → World → Prop} {J : (Nat → Bool) → (Tmp → Value) → World → Prop} {l : List Oper}
/-- The temporaries of a state. -/
def tau (A : Act) : Tmp → Value := fun t => A.tmps.getD t undef
/-- What is owed of operation i. -/
def StepJ (P : Program) (W : World) (a0 : Act) (F : Nat → Value → World → Prop) (J : (Nat → Bool) → (Tmp → Value) → World → Prop) (l : List Oper) (i : Nat) (o : Oper) : Prop :=
  ∀ (L : Nat → Bool) (A : Act) (w : World), Ext W w → L i = false → (∀ e ∈ o.after, Region.binds .any e = true → L e.on = true) → A.tmps.size = a0.tmps.size → depFacts F l A w o.after.toList → (∀ t : Tmp, (∀ j : Nat, (l[j]?).bind Oper.dst ≠ some t) → A.tmps.getD t undef = a0.tmps.getD t undef) → J L (tau A) w →
    o.wp P A w (fun A' w' => ∃ v, A' = A.put o.dst v ∧ Ext W w' ∧ (∀ j u, F j u w → F j u w') ∧ F i v w' ∧ J (fun j => L j || j == i) (tau A') w') NoWay
def StepsJ (P : Program) (W : World) (a0 : Act) (F : Nat → Value → World → Prop) (J : (Nat → Bool) → (Tmp → Value) → World → Prop) (l : List Oper) : List Oper → Nat → Prop
  | [], _ => True
  | o :: r, i => StepJ P W a0 F J l i o ∧ StepsJ P W a0 F J l r (i + 1)
theorem StepsJ.get : ∀ (r : List Oper) (k : Nat), StepsJ P W a0 F J l r k → ∀ (j : Nat) (o : Oper), r[j]? = some o → StepJ P W a0 F J l (k + j) o
  | [], _, _, _, _, hj => by simp at hj
  | x :: r, k, h, 0, o, hj => by simp at hj; subst hj; exact h.1
  | x :: r, k, h, j + 1, o, hj => by
    have := StepsJ.get r (k + 1) h.2 j o (by simpa using hj)
    rwa [show k + 1 + j = k + (j + 1) by omega] at this
/-- What the claim looks at. -/
def Looks (J : (Nat → Bool) → (Tmp → Value) → World → Prop) (S : List Nat) (T : List Tmp) : Prop :=
  ∀ (L L' : Nat → Bool) (τ τ' : Tmp → Value) (w w' : World), (∀ s, s ∈ S → L' s = L s) → (∀ t, t ∈ T → τ' t = τ t) → Ext w w' → J L τ w → J L' τ' w'
theorem tau_put {A : Act} {d : Option Tmp} {v : Value} {t : Tmp} (h : d ≠ some t) : tau (A.put d v) t = tau A t := by
  unfold tau
  cases d with
  | none => rfl
  | some d => rw [put_getD, if_neg (fun hh => h (by rw [hh.1]))]
theorem tau_here {A : Act} {d : Tmp} {v : Value} (h : d < A.tmps.size) : tau (A.put (some d) v) d = v := by
  unfold tau
  rw [put_getD, if_pos ⟨rfl, h⟩]
/-- An operation at which the claim does not look. -/
theorem StepJ.plain {S : List Nat} {T : List Tmp} {i : Nat} {o : Oper} (hl : Looks J S T) (hst : ∀ i v w w', F i v w → Ext w w' → F i v w') (hi : decide (i ∈ S) = false) (hd : (match o.dst with | some d => decide (d ∈ T) | none => false) = false) (h : StepOk P W a0 F l i o) : StepJ P W a0 F J l i o := by
  intro L A w hx hli haf hsz hdep hrest hJ
  refine Oper.wp_mono ?_ (h A w hx hdep hrest)
  rintro A' w' ⟨v, rfl, hx', hF⟩
  refine ⟨v, rfl, hx.trans hx', fun j u hj => hst _ _ _ _ hj hx', hF, hl _ _ _ _ _ _ (fun s hs => ?_) (fun t ht => tau_put (fun e => ?_)) hx' hJ⟩
  · have : s ≠ i := by rintro rfl; exact absurd hs (of_decide_eq_false hi)
    simp [this]
  · rw [e] at hd
    exact absurd ht (of_decide_eq_false hd)
structure KnownJ (W : World) (a0 : Act) (F : Nat → Value → World → Prop) (J : (Nat → Bool) → (Tmp → Value) → World → Prop) (l : List Oper) (listed : Nat → Bool) (A : Act) (w : World) : Prop extends Known W a0 F l listed A w where
  claim : J listed (tau A) w
theorem listed_set {listed : Array Bool} {i : Nat} (hi : i < listed.size) : (fun j => (listed.setIfInBounds i true).getD j false) = fun j => (fun j => listed.getD j false) j || j == i := by
  funext j
  by_cases h : i = j
  · subst h
    simp [hi]
  · rw [getD_set_ne false h]
    have : (j == i) = false := by simpa using fun e : j = i => h e.symm
    simp only [this, Bool.or_false]
theorem KnownJ.step (T : FactsOkG l a0.tmps.size) {listed : Array Bool} {A : Act} {w : World} (hls : listed.size = l.length) (h : KnownJ W a0 F J l (fun j => listed.getD j false) A w)
    {i : Nat} {o : Oper} (ho : l[i]? = some o) {v : Value} {w' : World} (hx : Ext W w') (hst : ∀ j u, F j u w → F j u w') (hF : F i v w') (hJ : J (fun j => listed.getD j false || j == i) (tau (A.put o.dst v)) w') : KnownJ W a0 F J l (fun j => (listed.setIfInBounds i true).getD j false) (A.put o.dst v) w' := by
  have hd0 : (l[i]?).bind Oper.dst = o.dst := by rw [ho]; rfl
  have hil : i < listed.size := by rw [hls]; exact (List.getElem?_eq_some_iff.1 ho).1
  have hsz : (A.put o.dst v).tmps.size = a0.tmps.size := by
    cases hdd : o.dst <;> simp [Act.put, h.size]
  have hdf : (A.put o.dst v).defers = a0.defers := by
    cases hdd : o.dst <;> simp [Act.put, h.defers]
  have hother : ∀ t, o.dst ≠ some t → (A.put o.dst v).tmps.getD t undef = A.tmps.getD t undef := fun t ht => tau_put ht
  refine ⟨⟨hx, hsz, hdf, fun j d hj hl => ?_, fun t ht => ?_⟩, ?_⟩
  · by_cases hij : i = j
    · subst hij
      rw [hd0] at hj
      rw [hj, put_getD, if_pos ⟨rfl, by rw [h.size]; exact T.lt i d (by rw [hd0]; exact hj)⟩]
      exact hF
    · rw [getD_set_ne false hij] at hl
      rw [hother d (fun hh => hij (T.apart i j d (by rw [hd0]; exact hh) hj))]
      exact hst _ _ (h.done j d hj hl)
  · rw [hother t (fun hh => ht i (by rw [hd0]; exact hh))]
    exact h.rest t ht
  · rw [listed_set hil]
    exact hJ
theorem wpAny_factsJ {Q : Exit → Act → World → Prop} (T : FactsOkG l a0.tmps.size) (hg : GuardsMet F l) (hS : StepsJ P W a0 F J l l 0)
    (hE : ∀ A w, KnownJ W a0 F J l (fun j => decide (j < l.length)) A w → Q .normal A w) :
    ∀ (fuel : Nat) (listed : Array Bool) (A : Act) (w : World), listed.size = l.length → (fuel = 0 → Region.ready .any l.toArray listed = []) → left listed.toList ≤ fuel → KnownJ W a0 F J l (fun j => listed.getD j false) A w →
      wpAny P .any l.toArray Q fuel listed A w := by
  have hO := T.order
  have fin : ∀ (listed : Array Bool) (A : Act) (w : World), listed.size = l.length → Region.ready .any l.toArray listed = [] → KnownJ W a0 F J l (fun j => listed.getD j false) A w → Q .normal A w := by
    intro listed A w hs hr hk
    have all : ∀ n i, i < n → i < l.length → listed.getD i true = true := by
      intro n
      induction n with
      | zero => intro i hi; omega
      | succ n ih =>
        intro i hin hi
        cases hl : listed.getD i true with
        | true => rfl
        | false =>
          have : i ∈ Region.ready .any l.toArray listed := mem_ready.2 ⟨hl, l[i], by simp [List.getElem?_eq_getElem hi], fun e he hb => by
            have hlt := hO i l[i] (List.getElem?_eq_getElem hi) e he hb
            have := ih e.on (by omega) (by omega)
            have hz : e.on < listed.size := by omega
            simpa [hz] using this⟩
          rw [hr] at this; cases this
    have allf : (fun j => listed.getD j false) = fun j => decide (j < l.length) := by
      funext j
      rcases Nat.lt_or_ge j l.length with hjl | hjl
      · have := all (j + 1) j (by omega) hjl
        have hz : j < listed.size := by omega
        simpa [hz, hjl] using this
      · have hz : ¬ j < listed.size := by omega
        have : ¬ j < l.length := by omega
        simp [Array.getElem?_eq_none (by omega : listed.size ≤ j), this]
    rw [allf] at hk
    exact hE A w hk
  intro fuel
  induction fuel with
  | zero =>
    intro listed A w hs h0 _ hk
    exact ⟨h0 rfl, fin listed A w hs (h0 rfl) hk⟩
  | succ fuel ih =>
    intro listed A w hs _ hc hk
    refine ⟨fun hr => fin listed A w hs hr hk, fun i hi => ?_⟩
    obtain ⟨h0, o, ho, hall⟩ := mem_ready.1 hi
    have ho' : l[i]? = some o := by simpa using ho
    have hil : i < l.length := (List.getElem?_eq_some_iff.1 ho').1
    have hzi : i < listed.size := by omega
    have hli : listed.getD i false = false := by
      simp [hzi] at h0
      simp [hzi, h0]
    have hcount : left (listed.setIfInBounds i true).toList ≤ fuel := by
      have hget : listed.toList[i]? = some false := by
        simp [hzi] at h0
        simp [hzi, h0]
      have := left_set listed.toList i hget
      rw [show (listed.setIfInBounds i true).toList = listed.toList.set i true by simp]
      omega
    have hfuel : fuel = 0 → Region.ready .any l.toArray (listed.setIfInBounds i true) = [] := by
      intro hf
      subst hf
      rw [List.eq_nil_iff_forall_not_mem]
      intro j hj
      obtain ⟨hj0, y, hy, _⟩ := mem_ready.1 hj
      have hjl : j < l.length := by
        have := (Array.getElem?_eq_some_iff.1 hy).1
        simpa using this
      have hz : j < (listed.setIfInBounds i true).size := by simpa [hs] using hjl
      have : false ∈ (listed.setIfInBounds i true).toList := by
        simp only [Array.getD_eq_getD_getElem?, Array.getElem?_eq_getElem hz, Option.getD_some] at hj0
        rw [← hj0]
        exact Array.mem_toList_iff.2 (Array.getElem_mem _)
      have := left_pos _ this
      omega
    unfold wpOp
    simp only [List.getElem?_toArray, ho']
    rw [if_pos (wanted_of T hg ho' hk.size hk.done hall)]
    have hstep := StepsJ.get l 0 hS i o ho'
    rw [Nat.zero_add] at hstep
    refine .inl (Oper.wp_mono ?_ (Oper.wp_noWay (hstep (fun j => listed.getD j false) A w hk.ext hli hall hk.size (depFacts_of hk.done o.after.toList (fun e he hb => hall e (by simpa using he) hb)) hk.rest hk.claim)))
    rintro A' w' ⟨v, rfl, hx, hst, hF, hJ⟩
    exact ih _ _ _ (by simpa using hs) hfuel hcount (hk.step T hs ho' hx hst hF hJ)
/-- THE REGION, BY WHAT IS KNOWN OF EACH VALUE, AND BY A CLAIM THAT EVERY OPERATION KEEPS. -/
theorem wp_region_facts_j {id : Nat} {Q : Exit → Act → World → Prop} {w : World} (F : Nat → Value → World → Prop) (J : (Nat → Bool) → (Tmp → Value) → World → Prop) (hm : P.follows .mixedOrders = true) (hB : factsOkG l a0.tmps.size = true) (hg : GuardsMet F l) (hw : Ext W w)
    (h0 : J (fun _ => false) (tau a0) w.drew)
    (hS : StepsJ P W a0 F J l l 0) (hE : ∀ A w, Known W a0 F l (fun j => decide (j < l.length)) A w → J (fun j => decide (j < l.length)) (tau A) w → Q .normal A w) : (Code.region id l.toArray true).wp P Q a0 w := by
  refine wp_region_any hm ?_
  simp only [List.size_toArray]
  have hf : (fun j => (Array.replicate l.length false).getD j false) = fun _ => false := by
    funext j
    exact none_listed ..
  refine wpAny_factsJ (factsOkG_spec hB) hg hS (fun A w hk => hE A w hk.toKnown hk.claim) l.length _ a0 _ (by simp) (fun h => ?_) ?_ ⟨⟨hw.drew, rfl, rfl, fun j d _ hl => ?_, fun t _ => rfl⟩, ?_⟩
  · have : l = [] := List.eq_nil_of_length_eq_zero h
    subst this
    rfl
  · rw [Array.toList_replicate, left_replicate]; exact Nat.le_refl _
  · rw [none_listed] at hl; cases hl
  · rw [hf]; exact h0
end
end Go.Proofs.YtjoglnjpgkobeaaGreatDoor

/-
  A REGION THAT DRAWS ITS ORDER, BY WHAT IS KNOWN OF EACH OPERATION's VALUE, WITH GUARDS OF WHICH SOME ARE NOT MET: those operations are passed over.
-/
namespace Go.Proofs.YtjoglnjpgkobeaaGreatDoor
open Go Go.RowKit
set_option linter.all false
set_option linter.unusedVariables false
set_option linter.unusedSimpArgs false
section
variable {P : Program} {W : World} {a0 : Act} {F : Nat → Value → World → Prop} {l : List Oper}
/-- What the guards' values say: the operation is done, or it is passed over. -/
def GuardsSay (F : Nat → Value → World → Prop) (run : Nat → Bool) : List Oper → Nat → Prop
  | [], _ => True
  | o :: r, i => (match o.guard with
    | some (j, b) => (match run i with | true => ∀ v w, F j v w → v = .bool b | false => ∀ v w, F j v w → v ≠ .bool b)
    | none => run i = true) ∧ GuardsSay F run r (i + 1)
theorem GuardsSay.get {run : Nat → Bool} : ∀ {l : List Oper} {k : Nat}, GuardsSay F run l k → ∀ {i : Nat} {o : Oper}, l[i]? = some o → (match o.guard with
    | some (j, b) => (match run (k + i) with | true => ∀ v w, F j v w → v = .bool b | false => ∀ v w, F j v w → v ≠ .bool b)
    | none => run (k + i) = true)
  | [], _, _, _, _, ho => by simp at ho
  | x :: r, k, h, 0, o, ho => by simp at ho; subst ho; exact h.1
  | x :: r, k, h, i + 1, o, ho => by
    have := GuardsSay.get h.2 (i := i) (by simpa using ho)
    rwa [show k + 1 + i = k + (i + 1) by omega] at this
def StepsRun (P : Program) (W : World) (a0 : Act) (F : Nat → Value → World → Prop) (l : List Oper) (run : Nat → Bool) : List Oper → Nat → Prop
  | [], _ => True
  | o :: r, i => (match run i with | true => StepOk P W a0 F l i o | false => ∀ w, F i undef w) ∧ StepsRun P W a0 F l run r (i + 1)
theorem StepsRun.get {run : Nat → Bool} : ∀ (r : List Oper) (k : Nat), StepsRun P W a0 F l run r k → ∀ (j : Nat) (o : Oper), r[j]? = some o → (match run (k + j) with | true => StepOk P W a0 F l (k + j) o | false => ∀ w, F (k + j) undef w)
  | [], _, _, _, _, hj => by simp at hj
  | x :: r, k, h, 0, o, hj => by simp at hj; subst hj; exact h.1
  | x :: r, k, h, j + 1, o, hj => by
    have := StepsRun.get r (k + 1) h.2 j o (by simpa using hj)
    rwa [show k + 1 + j = k + (j + 1) by omega] at this
theorem yielded_of {A : Act} {l : List Oper} {j : Nat} {d : Tmp} (hd : (l[j]?).bind Oper.dst = some d) : yielded l.toArray A.tmps j = (match A.tmps.getD d undef with | .bool b => some b | _ => none) ∨ A.tmps.size ≤ d := by
  rcases Nat.lt_or_ge d A.tmps.size with h1 | h1
  · left
    unfold yielded
    simp only [List.getElem?_toArray]
    rw [hd]
    simp [Array.getD_eq_getD_getElem?, Array.getElem?_eq_getElem h1]
    try (split <;> simp_all)
  · exact .inr h1
theorem wanted_not {A : Act} {w : World} {listed : Nat → Bool} {o : Oper} {i n j : Nat} {b : Bool} (T : FactsOkG l n) (ho : l[i]? = some o) (hgd : o.guard = some (j, b)) (hg : ∀ v w, F j v w → v ≠ .bool b) (hn : A.tmps.size = n)
    (h : ∀ (j : Nat) (d : Tmp), (l[j]?).bind Oper.dst = some d → listed j = true → F j (A.tmps.getD d undef) w) (he : ∀ e ∈ o.after, Region.binds .any e = true → listed e.on = true) :
    Region.wanted o (yielded l.toArray A.tmps) = false := by
  obtain ⟨⟨e, hm, hb, rfl⟩, d, hd⟩ := T.guard i o j b ho hgd
  have hv := hg _ _ (h e.on d hd (he e hm hb))
  have hlt := T.lt e.on d hd
  rcases yielded_of (A := A) hd with hy | hy
  · unfold Region.wanted
    rw [hgd]
    simp only [hy]
    generalize A.tmps.getD d undef = v at hv
    cases v <;> simp_all
  · exact absurd (Nat.lt_of_lt_of_le hlt (Nat.le_trans (Nat.le_of_eq hn.symm) hy)) (Nat.lt_irrefl _)
theorem wpAny_factsN {Q : Exit → Act → World → Prop} (run : Nat → Bool) (hst : ∀ i v w w', F i v w → Ext w w' → F i v w') (T : FactsOkG l a0.tmps.size) (hg : GuardsSay F run l 0) (hS : StepsRun P W a0 F l run l 0)
    (hE : ∀ A w, Known W a0 F l (fun j => decide (j < l.length)) A w → Q .normal A w) :
    ∀ (fuel : Nat) (listed : Array Bool) (A : Act) (w : World), listed.size = l.length → (fuel = 0 → Region.ready .any l.toArray listed = []) → left listed.toList ≤ fuel → Known W a0 F l (fun j => listed.getD j false) A w →
      wpAny P .any l.toArray Q fuel listed A w := by
  have hO := T.order
  have fin : ∀ (listed : Array Bool) (A : Act) (w : World), listed.size = l.length → Region.ready .any l.toArray listed = [] → Known W a0 F l (fun j => listed.getD j false) A w → Q .normal A w := by
    intro listed A w hs hr hk
    have all : ∀ n i, i < n → i < l.length → listed.getD i true = true := by
      intro n
      induction n with
      | zero => intro i hi; omega
      | succ n ih =>
        intro i hin hi
        cases hl : listed.getD i true with
        | true => rfl
        | false =>
          have : i ∈ Region.ready .any l.toArray listed := mem_ready.2 ⟨hl, l[i], by simp [List.getElem?_eq_getElem hi], fun e he hb => by
            have hlt := hO i l[i] (List.getElem?_eq_getElem hi) e he hb
            have := ih e.on (by omega) (by omega)
            have hz : e.on < listed.size := by omega
            simpa [hz] using this⟩
          rw [hr] at this; cases this
    refine hE A w ⟨hk.ext, hk.size, hk.defers, fun j d hj hl => hk.done j d hj ?_, hk.rest⟩
    have hjl : j < l.length := by simpa using hl
    have := all (j + 1) j (by omega) hjl
    have hz : j < listed.size := by omega
    simpa [hz] using this
  intro fuel
  induction fuel with
  | zero =>
    intro listed A w hs h0 _ hk
    exact ⟨h0 rfl, fin listed A w hs (h0 rfl) hk⟩
  | succ fuel ih =>
    intro listed A w hs _ hc hk
    refine ⟨fun hr => fin listed A w hs hr hk, fun i hi => ?_⟩
    obtain ⟨h0, o, ho, hall⟩ := mem_ready.1 hi
    have ho' : l[i]? = some o := by simpa using ho
    have hil : i < l.length := (List.getElem?_eq_some_iff.1 ho').1
    have hcount : left (listed.setIfInBounds i true).toList ≤ fuel := by
      have hz : i < listed.size := by omega
      have hget : listed.toList[i]? = some false := by
        simp [hz] at h0
        simp [hz, h0]
      have := left_set listed.toList i hget
      rw [show (listed.setIfInBounds i true).toList = listed.toList.set i true by simp]
      omega
    have hfuel : fuel = 0 → Region.ready .any l.toArray (listed.setIfInBounds i true) = [] := by
      intro hf
      subst hf
      rw [List.eq_nil_iff_forall_not_mem]
      intro j hj
      obtain ⟨hj0, y, hy, _⟩ := mem_ready.1 hj
      have hjl : j < l.length := by
        have := (Array.getElem?_eq_some_iff.1 hy).1
        simpa using this
      have hz : j < (listed.setIfInBounds i true).size := by simpa [hs] using hjl
      have : false ∈ (listed.setIfInBounds i true).toList := by
        simp only [Array.getD_eq_getD_getElem?, Array.getElem?_eq_getElem hz, Option.getD_some] at hj0
        rw [← hj0]
        exact Array.mem_toList_iff.2 (Array.getElem_mem _)
      have := left_pos _ this
      omega
    unfold wpOp
    simp only [List.getElem?_toArray, ho']
    have hsay := hg.get ho'
    have hstep := StepsRun.get l 0 hS i o ho'
    rw [Nat.zero_add] at hsay hstep
    cases hrun : run i with
    | true =>
      rw [hrun] at hstep hsay
      have hw : Region.wanted o (yielded l.toArray A.tmps) = true := by
        cases hgd : o.guard with
        | none => unfold Region.wanted; rw [hgd]
        | some g =>
          obtain ⟨j, b⟩ := g
          rw [hgd] at hsay
          obtain ⟨⟨e, hm, hb, rfl⟩, d, hd⟩ := T.guard i o j b ho' hgd
          have hv := hsay _ _ (hk.done e.on d hd (hall e hm hb))
          have hlt := T.lt e.on d hd
          rcases yielded_of (A := A) hd with hy | hy
          · unfold Region.wanted
            rw [hgd]
            simp only [hy, hv]
            simp
          · exact absurd (Nat.lt_of_lt_of_le hlt (Nat.le_trans (Nat.le_of_eq hk.size.symm) hy)) (Nat.lt_irrefl _)
      rw [if_pos hw]
      refine .inl (Oper.wp_mono ?_ (Oper.wp_noWay (hstep A w hk.ext (depFacts_of hk.done o.after.toList (fun e he hb => hall e (by simpa using he) hb)) hk.rest)))
      rintro A' w' ⟨v, rfl, hx, hF⟩
      exact ih _ _ _ (by simpa using hs) hfuel hcount (hk.stepG hst T ho' hx hF)
    | false =>
      rw [hrun] at hstep hsay
      have hw : Region.wanted o (yielded l.toArray A.tmps) = false := by
        cases hgd : o.guard with
        | none => rw [hgd] at hsay; cases hsay
        | some g =>
          obtain ⟨j, b⟩ := g
          rw [hgd] at hsay
          exact wanted_not T ho' hgd hsay hk.size hk.done hall
      rw [if_neg (by rw [hw]; decide)]
      exact ih _ _ _ (by simpa using hs) hfuel hcount (hk.stepG hst T ho' (Ext.refl w) (hstep w))
/-- THE REGION, SOME OF WHOSE OPERATIONS ARE PASSED OVER. -/
theorem wp_region_facts_n {id : Nat} {Q : Exit → Act → World → Prop} {w : World} (F : Nat → Value → World → Prop) (run : Nat → Bool) (hm : P.follows .mixedOrders = true) (hB : factsOkG l a0.tmps.size = true) (hg : GuardsSay F run l 0) (hw : Ext W w) (hst : ∀ i v w w', F i v w → Ext w w' → F i v w')
    (hS : StepsRun P W a0 F l run l 0) (hE : ∀ A w, Known W a0 F l (fun j => decide (j < l.length)) A w → Q .normal A w) : (Code.region id l.toArray true).wp P Q a0 w := by
  refine wp_region_any hm ?_
  simp only [List.size_toArray]
  refine wpAny_factsN run hst (factsOkG_spec hB) hg hS hE l.length _ a0 _ (by simp) (fun h => ?_) ?_ ⟨hw.drew, rfl, rfl, fun j d _ hl => ?_, fun t _ => rfl⟩
  · have : l = [] := List.eq_nil_of_length_eq_zero h
    subst this
    rfl
  · rw [Array.toList_replicate, left_replicate]; exact Nat.le_refl _
  · rw [none_listed] at hl; cases hl
end
end Go.Proofs.YtjoglnjpgkobeaaGreatDoor
