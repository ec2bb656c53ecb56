/-
  THE TABLES OF PACKAGE ast: what their cells hold.
-/
import Derived.WalkKit
import Derived.ProofKit
import Derived.OpenShut
import Derived.ReadAgain
import Derived.Deep.DeepHandedRow
import Derived.Lib.LaidTab
import Derived.Shelf.Vars
import Derived.Test.YtjoglnjpgkobeaaGreatDoorWordPk
import Derived.Test.YtjoglnjpgkobeaaGreatDoorNamePk
namespace Go.Proofs.YtjoglnjpgkobeaaGreatDoor
open Go Go.RowKit
set_option linter.all false
set_option linter.unusedVariables false
set_option linter.unusedSimpArgs false
set_option linter.unusedVariables false
set_option linter.unusedSimpArgs false
attribute [local go_sem] run_store_one

structure KRow where
  named : Bool
  min : Int
  max : Int
  lo : Int
  hi : Int
structure SRow where
  name : Bool
  of : Bool
  x : Int
  s : Bool
  l : Bool
  els : Bool
  bind : Bool
def kindRows : List KRow := [⟨false, 0, 0, 0, 0⟩, ⟨false, 0, 0, 0, 0⟩, ⟨true, 0, 0, 0, 0⟩, ⟨true, 2, 2, 0, 0⟩, ⟨true, 1, 1, 0, 0⟩, ⟨false, 1, 1, 1, 6⟩, ⟨false, 2, 2, 11, 26⟩, ⟨false, 3, 3, 0, 0⟩, ⟨false, 1, 65536, 0, 0⟩, ⟨false, 2, 2, 0, 0⟩, ⟨false, 2, 2, 31, 33⟩]
def shapeRows : List SRow := [⟨false, false, 0, false, false, false, false⟩, ⟨true, false, 1, false, false, false, false⟩, ⟨true, false, 1, false, false, false, false⟩, ⟨true, false, 2, false, false, false, false⟩, ⟨false, false, 2, false, false, false, false⟩, ⟨false, false, 0, true, false, false, false⟩, ⟨false, false, 0, true, false, false, false⟩, ⟨true, true, 0, false, false, false, true⟩, ⟨false, false, 1, false, true, true, false⟩, ⟨true, true, 2, false, true, false, false⟩, ⟨true, false, 1, false, false, false, false⟩]
/-- What a row of the first table, and of the second, is in memory. -/
def KRow.vals (r : KRow) : List Value := [.bool r.named, .int .i64 r.min, .int .i64 r.max, .int .i64 r.lo, .int .i64 r.hi]
def SRow.vals (r : SRow) : List Value := [.bool r.name, .bool r.of, .int .i64 r.x, .bool r.s, .bool r.l, .bool r.els, .bool r.bind]
/-- The tables lie where they should. -/
structure Tabs (w : World) : Prop where
  lib : LibOk w
  kinds : ∀ (i : Nat) (r : KRow), kindRows[i]? = some r → Cells w 0 (i * 5) r.vals
  shapes : ∀ (i : Nat) (r : SRow), shapeRows[i]? = some r → Cells w 1 (i * 7) r.vals
theorem Tabs.ext {w w' : World} (h : Tabs w) (hx : Ext w w') : Tabs w' := ⟨h.lib.ext hx, fun i r hr => (h.kinds i r hr).ext hx, fun i r hr => (h.shapes i r hr).ext hx⟩

end Go.Proofs.YtjoglnjpgkobeaaGreatDoor

/-
  WHAT A ROW GIVES: the tables, the library's variable; and what a row asks behind the call, of a law that answers true and changes nothing.
-/
namespace Go.Proofs.YtjoglnjpgkobeaaGreatDoor
open Go Go.RowKit Go.ChangeShapes Go.WideShapes
set_option linter.all false
set_option linter.unusedVariables false
set_option linter.unusedSimpArgs false
set_option linter.unusedVariables false
set_option linter.unusedSimpArgs false

theorem list5 {α : Type} {l : List α} (h : l.length = 5) : ∃ a b c d e, l = [a, b, c, d, e] := by
  match l, h with
  | [a, b, c, d, e], _ => exact ⟨_, _, _, _, _, rfl⟩

/-- A table's rows as the row of the claim lists them. -/
def KRow.data {H : Type} (r : KRow) : DataW H := .agg [.lit (.bool r.named), .lit (.int .i64 r.min), .lit (.int .i64 r.max), .lit (.int .i64 r.lo), .lit (.int .i64 r.hi)]
def SRow.data {H : Type} (r : SRow) : DataW H := .agg [.lit (.bool r.name), .lit (.bool r.of), .lit (.int .i64 r.x), .lit (.bool r.s), .lit (.bool r.l), .lit (.bool r.els), .lit (.bool r.bind)]
theorem kinds_laid {H : Type} : (Rows.laid_filigree_ast_kinds : DataW H) = .agg (kindRows.map KRow.data) := rfl
theorem shapes_laid {H : Type} : (Rows.laid_filigree_ast_shapes : DataW H) = .agg (shapeRows.map SRow.data) := rfl
theorem cTkind : Tryz.prog.cellsOf 144 = 5 := by kernel_rfl
theorem cTshape : Tryz.prog.cellsOf 150 = 7 := by kernel_rfl

section
variable {H : Type} {enc : TypeId × Value → H} {w : World} {spare : Nat → Bool} {held : Bool}

theorem fix_bool {fuel : Nat} {c : Value} {y : DataW H × List MemPlace} {b : Bool} (h : DataW.trod enc Tryz.prog w 0 spare held fuel 4 [c] = some y) (hy : y.1 = .lit (.bool b)) : c = .bool b := by
  obtain ⟨n, h1, h2⟩ := DataW.trod_bool Tryz.underlying4 h
  simp only [List.cons.injEq, and_true] at h1
  subst h2
  simp only [DataW.lit.injEq, Lit.bool.injEq] at hy
  rw [h1, hy]
theorem fix_int {fuel : Nat} {c : Value} {y : DataW H × List MemPlace} {z : Int} (h : DataW.trod enc Tryz.prog w 0 spare held fuel 3 [c] = some y) (hy : y.1 = .lit (.int .i64 z)) : c = .int .i64 z := by
  obtain ⟨n, h1, h2, h3⟩ := DataW.trod_int Tryz.underlying3 h
  simp only [List.cons.injEq, and_true] at h1
  subst h2
  simp only [DataW.lit.injEq, Lit.int.injEq, true_and] at hy
  rw [h1, hy]

theorem fix_kind {fuel : Nat} {cs : List Value} {p : List MemPlace} {r : KRow} (h : DataW.trod enc Tryz.prog w 0 spare held fuel 144 cs = some (r.data, p)) : cs = r.vals := by
  obtain ⟨xs, n, -, hx, hl, hlen, hf⟩ := DataW.trod_struct Tryz.underlying144 h
  obtain ⟨c0, c1, c2, c3, c4, rfl⟩ := list5 (hl.trans cTkind)
  obtain ⟨y0, y1, y2, y3, y4, rfl⟩ := list5 hlen
  have g0 := hf 0 _ rfl
  have g1 := hf 1 _ rfl
  have g2 := hf 2 _ rfl
  have g3 := hf 3 _ rfl
  have g4 := hf 4 _ rfl
  clear hf
  simp [cTint, cTbool] at g0 g1 g2 g3 g4
  have hd := (Prod.mk.inj hx).1
  simp only [KRow.data, List.map_cons, List.map_nil, DataW.agg.injEq, List.cons.injEq, and_true] at hd
  obtain ⟨e0, e1, e2, e3, e4⟩ := hd
  rw [fix_bool g0 e0.symm, fix_int g1 e1.symm, fix_int g2 e2.symm, fix_int g3 e3.symm, fix_int g4 e4.symm]
  rfl
theorem fix_shape {fuel : Nat} {cs : List Value} {p : List MemPlace} {r : SRow} (h : DataW.trod enc Tryz.prog w 0 spare held fuel 150 cs = some (r.data, p)) : cs = r.vals := by
  obtain ⟨xs, n, -, hx, hl, hlen, hf⟩ := DataW.trod_struct Tryz.underlying150 h
  obtain ⟨c0, c1, c2, c3, c4, c5, c6, rfl⟩ := list7 (hl.trans cTshape)
  obtain ⟨y0, y1, y2, y3, y4, y5, y6, rfl⟩ := list7 hlen
  have g0 := hf 0 _ rfl
  have g1 := hf 1 _ rfl
  have g2 := hf 2 _ rfl
  have g3 := hf 3 _ rfl
  have g4 := hf 4 _ rfl
  have g5 := hf 5 _ rfl
  have g6 := hf 6 _ rfl
  clear hf
  simp [cTint, cTbool] at g0 g1 g2 g3 g4 g5 g6
  have hd := (Prod.mk.inj hx).1
  simp only [SRow.data, List.map_cons, List.map_nil, DataW.agg.injEq, List.cons.injEq, and_true] at hd
  obtain ⟨e0, e1, e2, e3, e4, e5, e6⟩ := hd
  rw [fix_bool g0 e0.symm, fix_bool g1 e1.symm, fix_int g2 e2.symm, fix_bool g3 e3.symm, fix_bool g4 e4.symm, fix_bool g5 e5.symm, fix_bool g6 e6.symm]
  rfl

/-- An array that reads as a list of rows holds them, each where it should. -/
theorem fix_table {α : Type} {data : α → DataW H} {vals : α → List Value} {n k : Nat} {t e : TypeId} (ht : Tryz.prog.underlying t = some (.array n e)) (hk : Tryz.prog.cellsOf e = k)
    (hread : ∀ fuel cs p r, DataW.trod enc Tryz.prog w 0 spare held fuel e cs = some (data r, p) → cs = vals r) {rows : List α} {fuel : Nat} {cs : List Value} {p : List MemPlace}
    (h : DataW.trod enc Tryz.prog w 0 spare held fuel t cs = some (.agg (rows.map data), p)) (i : Nat) (r : α) (hr : rows[i]? = some r) : (cs.drop (i * k)).take k = vals r := by
  obtain ⟨xs, m, _, hx, hl, hlen, hel⟩ := DataW.trod_array ht h
  have hd := (Prod.mk.inj hx).1
  simp only [DataW.agg.injEq] at hd
  have hxi : (xs.map (·.1))[i]? = some (data r) := by rw [← hd, List.getElem?_map, hr]; rfl
  have hi : i < xs.length := by
    have := (List.getElem?_eq_some_iff.1 hxi).1
    simpa using this
  have h1 := hel i (by omega)
  rw [List.getElem?_eq_getElem hi] at h1
  rw [List.getElem?_map, List.getElem?_eq_getElem hi] at hxi
  simp only [Option.map_some, Option.some.injEq] at hxi
  rw [hk] at h1
  exact hread m _ (xs[i]).2 r (by rw [h1, ← hxi])
end

theorem cells_of_drop {W : World} {g : Nat} {cs : Array Value} (hv : ∀ i, W.cell? ⟨g, i, none⟩ = cs[i]?) {i k : Nat} {vs : List Value} (h : (cs.toList.drop (i * k)).take k = vs) : Cells W g (i * k) vs := by
  intro j v hj
  rw [hv]
  rw [← h, List.getElem?_take] at hj
  split at hj
  · rw [List.getElem?_drop] at hj
    rw [← Array.getElem?_toList]
    exact hj
  · cases hj

theorem gKinds : Tryz.prog.globalNamed "filigree/ast.kinds" = some 0 := by kernel_rfl
theorem gKindsT : (Tryz.prog.globals[0]?).map (·.type) = some 145 := by kernel_rfl
theorem gShapes : Tryz.prog.globalNamed "filigree/ast.shapes" = some 1 := by kernel_rfl
theorem gShapesT : (Tryz.prog.globals[1]?).map (·.type) = some 151 := by kernel_rfl

theorem libok_of {W : World} (h : W.ShapedOpen Tryz.prog) : LibOk W :=
  cell_of_shapedOpen_int (t := 3) (zero := #[.int .i64 0]) h (of_decide_eq_true (by kernel_rfl)) (by kernel_rfl) rfl (by kernel_rfl) (by kernel_rfl) Tryz.underlying3

/-- The tables, out of the row's own list. -/
theorem tabs_of {W : World} (h : laidMetH Tryz.prog [("filigree/ast.kinds", Rows.laid_filigree_ast_kinds), ("filigree/ast.shapes", Rows.laid_filigree_ast_shapes)] W) (hs : W.ShapedOpen Tryz.prog) : Tabs W := by
  have h' : laidMet Tryz.prog [("filigree/ast.kinds", Rows.laid_filigree_ast_kinds), ("filigree/ast.shapes", Rows.laid_filigree_ast_shapes)] W := h
  obtain ⟨ps, ⟨g0, t0, cs0, f0, p0, q0, hg0, ht0, hv0, hr0, ⟨g1, t1, cs1, f1, p1, q1, hg1, ht1, hv1, hr1, -, -⟩, -⟩, -, -⟩ := h'
  obtain rfl := Option.some.inj (gKinds.symm.trans hg0)
  obtain rfl := Option.some.inj (gKindsT.symm.trans ht0)
  obtain rfl := Option.some.inj (gShapes.symm.trans hg1)
  obtain rfl := Option.some.inj (gShapesT.symm.trans ht1)
  rw [kinds_laid] at hr0
  rw [shapes_laid] at hr1
  exact ⟨libok_of hs,
    fun i r hr => cells_of_drop (World.var?_cell gKinds hv0) (fix_table Tryz.underlying145 cTkind (fun _ _ _ _ => fix_kind) hr0 i r hr),
    fun i r hr => cells_of_drop (World.var?_cell gShapes hv1) (fix_table Tryz.underlying151 cTshape (fun _ _ _ _ => fix_shape) hr1 i r hr)⟩

theorem laidOut : laidOutB Tryz.prog = true := by kernel_rfl
theorem mapsIn : mapsRowed Tryz.prog = true := by kernel_rfl
theorem full : ∀ t e, t < Tryz.prog.types.size → Tryz.prog.underlying t = some (.slice e) → 0 < Tryz.prog.cellsOf e := slices_full_of Tryz.prog (by kernel_rfl)

theorem okRes {P : Program} {t : TypeId} (ht : P.underlying t = some .bool) (W' : World) {f : Func} (hr : f.resultTypes = #[t]) :
    ∀ (j : Nat) (t' : TypeId) (r : Value), f.resultTypes[j]? = some t' → ((Value.bool true).resultList f.resultTypes.size)[j]? = some r → Value.okWide P W' .any 0 t' r :=
  ok_one hr rfl (okWide_bool_mk ht true)

/-- What was read reads again behind a call that only adds. -/
theorem read_again {P : Program} {H : Type} {enc : TypeId × Value → H} {W W' : World} (hx : Ext W W') : ∀ {ts : List TypeId} {vs : List Value} {ds : List (DataW H)} {ps : List MemPlace},
    DataW.TrodAll enc P W 0 (fun _ => true) true ts vs ds ps → (∀ p, p ∈ ps → p.block < W.heap.size) → DataW.TrodAll enc P W' 0 (fun _ => true) true ts vs ds ps
  | [], [], [], _, h, _ => h
  | _ :: _, _ :: _, _ :: _, _, ⟨p, q, ⟨n, h1⟩, h2, e⟩, hs =>
    ⟨p, q, ⟨n, DataW.trod_carry n _ _ _ h1 fun x hm => Below.same hx (hs x (by rw [e]; exact List.mem_append_left _ hm))⟩, read_again hx h2 (fun x hm => hs x (by rw [e]; exact List.mem_append_right _ hm)), e⟩

/-- WHAT A ROW ASKS BEHIND THE CALL, of a law that answers true, of any arguments, and only adds to memory. -/
theorem post_true {P : Program} {tb : TypeId} (htb : P.underlying tb = some .bool) (hlo : laidOutB P = true) (hmr : mapsRowed P = true) (hfu : ∀ t e, t < P.types.size → P.underlying t = some (.slice e) → 0 < P.cellsOf e)
    {H : Type} {enc : TypeId × Value → H} {f : Func} {s : ChangeSpec} {W W' : World} {args : Array Value} {ds gs : List (DataW H)} {before : List MemPlace} (hv0 : s.vars = []) (hr : f.resultTypes = #[tb])
    (hp : ∀ t ∈ f.params.toList, t < P.types.size) (hW : DataW.Whole enc P f.params.toList s.vars false W args.toList ds gs before)
    (hfn : s.fn H (ds ++ gs) = { results := [.lit (.bool true)], args := ds }) (hx : Ext W W') : s.post enc P f false true false false W args (.bool true) W' := by
  have hW0 := hW
  have hlt : ∀ p, p ∈ before → p.block < W.heap.size := fun p hp => hW.lt p hp
  obtain ⟨p, q, hA, hV, rfl, hfz, hnd⟩ := hW
  rw [hv0] at hV
  obtain ⟨rfl, rfl⟩ := trodVars_none hV
  rw [List.append_nil] at hW0 hlt hfz hnd
  have hagain := read_again hx hA hlt
  have hargs : ∀ sp : Nat → Bool, (∀ x ∈ p, sp x.block = true) → DataW.TrodAll enc P W' 0 sp true f.params.toList args.toList ds p :=
    fun sp hsp => DataW.TrodAll.respare (kids_rows hlo hmr) hfu hp hagain hsp
  have hres : ∀ (b : Nat) (sp : Nat → Bool) (hd : Bool), DataW.TrodAll enc P W' b sp hd f.resultTypes.toList ((Value.bool true).resultList f.resultTypes.size) [.lit (.bool true)] [] := by
    intro b sp hd
    rw [hr]
    exact trodAll_mk1 (shut_bool htb true)
  have hvars : ∀ sp : Nat → Bool, DataW.TrodVars enc P W' sp s.vars [] [] := by
    intro sp
    rw [hv0]
    exact rfl
  have hold : ∀ x ∈ p, (fun b => decide (b < W.heap.size)) x.block = true := fun x hm => by simpa using hlt x hm
  refine ⟨ds, [], p, [], p, [], hW0, ?_, ?_, ?_, World.keptBut_mono (fun x hm => ⟨hm, Or.inr (by simpa using hm)⟩) (Below.frame hx (· ∈ p)), fun _ => ?_⟩
  · rw [hfn]; exact hres _ _ _
  · rw [hfn]; exact hargs _ hold
  · rw [hfn]; exact hvars _
  · refine ⟨okRes htb W' hr, [.lit (.bool true)] ++ ds, [], ([] ++ p) ++ [], ⟨[] ++ p, [], ?_, ?_, rfl, ?_, ?_⟩, ?_⟩
    · exact trodAll_append (hargs _ (fun _ _ => rfl)) (hres _ _ _)
    · exact hvars _
    · intro b off hm
      rw [hx.frozen (hlt _ (by simpa using hm))]
      exact hfz b off (by simpa using hm)
    · intro ha; cases ha
    · intro x hm _
      simpa using hm

end Go.Proofs.YtjoglnjpgkobeaaGreatDoor

/-
  WHAT ALL ROWS SHARE: an argument opened; a world for the witness.
-/
namespace Go.Proofs.YtjoglnjpgkobeaaGreatDoor
open Go Go.RowKit Go.ChangeShapes Go.WideShapes
set_option linter.all false
set_option linter.unusedVariables false
set_option linter.unusedSimpArgs false
set_option linter.unusedVariables false
set_option linter.unusedSimpArgs false

theorem ownNone : ownKnob Tryz.prog.godebug = none := by kernel_rfl

/-- A struct that is handed in. -/
theorem open_arg {P : Program} {H : Type} {enc : TypeId × Value → H} {W : World} {base : Nat} {ts : Array TypeId} {args : Array Value} {t : TypeId} {v : Value} {d : DataW H} {p : List MemPlace} {fs : Array Field} {sp : Nat → Bool} {held : Bool}
    (hval : ∀ (j : Nat) t v, ts[j]? = some t → args[j]? = some v → Value.okWide P W .any base t v) (j : Nat) (hp : ts[j]? = some t) (ha : args[j]? = some v) (ht : P.underlying t = some (.struct fs))
    (h : DataW.Trod enc P W 0 sp held t v d p) : ∃ cs fuel, v = .agg cs ∧ DataW.trod enc P W 0 sp held fuel t cs.toList = some (d, p) := by
  obtain ⟨cs, rfl, -⟩ := okWide_struct ht (hval j t v hp ha)
  obtain ⟨fuel, hf⟩ := h
  exact ⟨cs, fuel, rfl, hf⟩

theorem arg_str {P : Program} {H : Type} {enc : TypeId × Value → H} {W : World} {base : Nat} {ts : Array TypeId} {args : Array Value} {t : TypeId} {v : Value} {d : DataW H} {p : List MemPlace} {sp : Nat → Bool} {held : Bool}
    (hval : ∀ (j : Nat) t v, ts[j]? = some t → args[j]? = some v → Value.okWide P W .any base t v) (j : Nat) (hp : ts[j]? = some t) (ha : args[j]? = some v) (ht : P.underlying t = some .string)
    (h : DataW.Trod enc P W 0 sp held t v d p) : ∃ s : ByteArray, v = .string s ∧ d = .lit (.string s.data.toList) := by
  have hv := hval j t v hp ha
  obtain ⟨fuel, hf⟩ := h
  obtain ⟨s, hc, hx, -⟩ := DataW.trod_string ht hf
  refine ⟨s, ?_, (Prod.mk.inj hx).1⟩
  cases v <;> simp_all [Value.cells, Value.okWide, Cell.okWide, Cell.ok]

section
variable {H : Type} {enc : TypeId × Value → H} {W : World} {base : Nat} {ts : Array TypeId} {args : Array Value} {v : Value} {d : DataW H} {p : List MemPlace} {sp : Nat → Bool} {held : Bool}
set_option maxRecDepth 100000 in
theorem open_file (hval : ∀ (j : Nat) t v, ts[j]? = some t → args[j]? = some v → Value.okWide Tryz.prog W .any base t v) (j : Nat) (hp : ts[j]? = some 24) (ha : args[j]? = some v)
    (h : DataW.Trod enc Tryz.prog W 0 sp held 24 v d p) (hb : Rows.uptoBulk d ≤ 1048576) :
    ∃ (f : List Mdl) (vf : Value), v = .agg #[vf] ∧ Sl (RM W W.heap.size) W W.heap.size 4 f vf ∧ (∀ y, y ∈ f → VM y) ∧ msize sizeM f ≤ 1048576 := by
  obtain ⟨cs, fuel, rfl, hf⟩ := open_arg hval j hp ha Tryz.underlying24 h
  obtain ⟨f, vf, hcs, hs, hV, hz⟩ := readF fuel _ d p hb hf
  obtain ⟨l⟩ := cs
  simp only at hcs
  subst hcs
  exact ⟨f, vf, rfl, hs, hV, by omega⟩
set_option maxRecDepth 100000 in
theorem open_X (hval : ∀ (j : Nat) t v, ts[j]? = some t → args[j]? = some v → Value.okWide Tryz.prog W .any base t v) (j : Nat) (hp : ts[j]? = some 49) (ha : args[j]? = some v)
    (h : DataW.Trod enc Tryz.prog W 0 sp held 49 v d p) (hb : Rows.uptoBulk d ≤ 1048576) :
    ∃ (x : X) (cs : List Value), v = .agg cs.toArray ∧ RX W W.heap.size x cs ∧ VX x ∧ sizeX x ≤ 1048576 := by
  obtain ⟨cs, fuel, rfl, hf⟩ := open_arg hval j hp ha Tryz.underlying49 h
  obtain ⟨x, hs, hV, hz⟩ := readX _ fuel _ d p (Nat.le_refl _) hb hf
  exact ⟨x, cs.toList, by simp, hs, hV, by omega⟩
set_option maxRecDepth 100000 in
theorem open_S (hval : ∀ (j : Nat) t v, ts[j]? = some t → args[j]? = some v → Value.okWide Tryz.prog W .any base t v) (j : Nat) (hp : ts[j]? = some 140) (ha : args[j]? = some v)
    (h : DataW.Trod enc Tryz.prog W 0 sp held 140 v d p) (hb : Rows.uptoBulk d ≤ 1048576) :
    ∃ (x : S) (cs : List Value), v = .agg cs.toArray ∧ RS W W.heap.size x cs ∧ VS x ∧ sizeS x ≤ 1048576 := by
  obtain ⟨cs, fuel, rfl, hf⟩ := open_arg hval j hp ha Tryz.underlying140 h
  obtain ⟨x, hs, hV, hz⟩ := readS _ fuel _ d p (Nat.le_refl _) hb hf
  exact ⟨x, cs.toList, by simp, hs, hV, by omega⟩
set_option maxRecDepth 100000 in
theorem open_str (hval : ∀ (j : Nat) t v, ts[j]? = some t → args[j]? = some v → Value.okWide Tryz.prog W .any base t v) (j : Nat) (hp : ts[j]? = some 9) (ha : args[j]? = some v)
    (h : DataW.Trod enc Tryz.prog W 0 sp held 9 v d p) (hb : Rows.uptoBulk d ≤ 1048576) :
    ∃ (s : ByteArray), v = .string s ∧ s.size ≤ 1048576 := by
  obtain ⟨s, rfl, rfl⟩ := arg_str hval j hp ha Tryz.underlying9 h
  refine ⟨s, rfl, ?_⟩
  simp [Rows.uptoBulk] at hb
  omega
end

theorem small_all {H : Type} {ds : List (DataW H)} (h : Rows.uptoSmall H ds = true) : Rows.uptoBulkAll ds ≤ 1048576 := of_decide_eq_true h

/-- The tables' cells. -/
def kindCells : Array Value := (kindRows.flatMap KRow.vals).toArray
def shapeCells : Array Value := (shapeRows.flatMap SRow.vals).toArray
/-- A block whose cells are laid. -/
def laying (cs : Array Value) : Obj → Obj
  | .cells _ t frozen => .cells cs t frozen
  | o => o
/-- A world for the witness: the settled one, the tables holding what their initialisers lay. -/
noncomputable def laidWorld (os : Os) : World :=
  { World.holding Tryz.prog os ⟨#[], #[], []⟩ with heap := ((World.holding Tryz.prog os ⟨#[], #[], []⟩).heap.modify 0 (laying kindCells)).modify 1 (laying shapeCells) }
theorem laid_met (os : Os) (args : Array Value) : laidMet Tryz.prog [("filigree/ast.kinds", Rows.laid_filigree_ast_kinds), ("filigree/ast.shapes", Rows.laid_filigree_ast_shapes)] ((laidWorld os).forCall (fun _ _ => 0) ⟨#[], args, []⟩).memory :=
  laidMet_of_run' 8 (by kernel_rfl) (by kernel_rfl)

def zFile : Value := .agg #[.slice none 0 0]
def zX : Value := .agg #[.int .i64 0, .string ⟨#[]⟩, .int .i64 0, .int .i64 0, .int .u64 0, .slice none 0 0]
def zS : Value := .agg #[.int .i64 0, .string ⟨#[]⟩, .slice none 0 0, .slice none 0 0]
def zFileD {H : Type} : DataW H := .agg [.nil]
def zXD {H : Type} : DataW H := .agg [.lit (.int .i64 0), .lit (.string []), .lit (.int .i64 0), .lit (.int .i64 0), .lit (.int .u64 0), .nil]
def zSD {H : Type} : DataW H := .agg [.lit (.int .i64 0), .lit (.string []), .nil, .nil]

end Go.Proofs.YtjoglnjpgkobeaaGreatDoor
