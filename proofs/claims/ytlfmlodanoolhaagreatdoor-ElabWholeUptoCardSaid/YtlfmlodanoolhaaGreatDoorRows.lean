/-
  NARROWER THAN 'FOR EVERY INPUT', by the rows' own cells (each row's printed sentence says how): ElabInside: loops, laid · ElabLoops: laid · ElabFinds: loops, laid · ElabWhole: loops, laid · ElabPorts: loops, laid · ElabDefaults: loops, laid · ElabChoices: loops, laid · ElabMore: loops, laid.
  DERIVED. THE GIVEN ROWS OF THIS SEAT. 8 by the template 'for every input the law returns true; each argument reads behind the call as it read before'; 0 by the template 'total and deterministic' (their statements: YtlfmlodanoolhaaGreatDoorTotals.lean).
  GIVEN WITH THE SEED: the statements are not yours to turn. If you find one false, say at which input.
  Laid BY PROGRAM, IN A SANDBOX (cutbox-rows.mjs): the forced cells as the released guide's own fill.sh prints them over the translation 792d8d3821b795c7… (all of the seat's roots in one cut). By AI agents, Wed Nov 11 2026. No macro, syntax, notation, axiom, sorry.
-/
import Derived.Test.YtlfmlodanoolhaaGreatDoorChecked
import GoSem.Claim
import GoSem.ClaimJoined
import GoSem.ClaimMapViews
import Derived.JoinedTies
import Derived.KernelRfl
namespace Go.Proofs.YtlfmlodanoolhaaGreatDoor
/- THE CELL 'sum', in the pinned program and in every row, IS THE sha256 OF THE DUMP (.gsa) THAT YtlfmlodanoolhaaGreatDoorProg.lean LOADS. Nothing in Lean hashes anything: it is a label: what it is worth is what the hold of that sum in a sandbox is worth. -/
noncomputable def Tryz.pinned : Pinned := { name := "ytlfmlodanoolhaagreatdoor", sum := "792d8d3821b795c710f84649faaf42c0479cea991c7eb99d10129882be23bc66", checked := Tryz.checked }
namespace Rows
def none {H : Type} : Left H := { results := [], args := [] }

/- WHAT THE LISTED PACKAGE-LEVEL VARIABLES READ AS WHEN THE CALL BEGINS. Each datum BY PROGRAM (the guide's laid-datum.mjs) off the statement by which the dump's own 'gosem.cut.vars' lays the variable. In a bare row this is a premise. The card (YtlfmlodanoolhaaGreatDoorCards.lean) ties it to the program's text. -/
def laid_math_bits_deBruijn32tab {H : Type} : DataW H := .agg [.lit (.int .u8 0), .lit (.int .u8 1), .lit (.int .u8 28), .lit (.int .u8 2), .lit (.int .u8 29), .lit (.int .u8 14), .lit (.int .u8 24), .lit (.int .u8 3), .lit (.int .u8 30), .lit (.int .u8 22), .lit (.int .u8 20), .lit (.int .u8 15), .lit (.int .u8 25), .lit (.int .u8 17), .lit (.int .u8 4), .lit (.int .u8 8), .lit (.int .u8 31), .lit (.int .u8 27), .lit (.int .u8 13), .lit (.int .u8 23), .lit (.int .u8 21), .lit (.int .u8 19), .lit (.int .u8 16), .lit (.int .u8 7), .lit (.int .u8 26), .lit (.int .u8 12), .lit (.int .u8 18), .lit (.int .u8 6), .lit (.int .u8 11), .lit (.int .u8 5), .lit (.int .u8 10), .lit (.int .u8 9)]
def laid_math_bits_deBruijn64tab {H : Type} : DataW H := .agg [.lit (.int .u8 0), .lit (.int .u8 1), .lit (.int .u8 56), .lit (.int .u8 2), .lit (.int .u8 57), .lit (.int .u8 49), .lit (.int .u8 28), .lit (.int .u8 3), .lit (.int .u8 61), .lit (.int .u8 58), .lit (.int .u8 42), .lit (.int .u8 50), .lit (.int .u8 38), .lit (.int .u8 29), .lit (.int .u8 17), .lit (.int .u8 4), .lit (.int .u8 62), .lit (.int .u8 47), .lit (.int .u8 59), .lit (.int .u8 36), .lit (.int .u8 45), .lit (.int .u8 43), .lit (.int .u8 51), .lit (.int .u8 22), .lit (.int .u8 53), .lit (.int .u8 39), .lit (.int .u8 33), .lit (.int .u8 30), .lit (.int .u8 24), .lit (.int .u8 18), .lit (.int .u8 12), .lit (.int .u8 5), .lit (.int .u8 63), .lit (.int .u8 55), .lit (.int .u8 48), .lit (.int .u8 27), .lit (.int .u8 60), .lit (.int .u8 41), .lit (.int .u8 37), .lit (.int .u8 16), .lit (.int .u8 46), .lit (.int .u8 35), .lit (.int .u8 44), .lit (.int .u8 21), .lit (.int .u8 52), .lit (.int .u8 32), .lit (.int .u8 23), .lit (.int .u8 11), .lit (.int .u8 54), .lit (.int .u8 26), .lit (.int .u8 40), .lit (.int .u8 15), .lit (.int .u8 34), .lit (.int .u8 20), .lit (.int .u8 31), .lit (.int .u8 10), .lit (.int .u8 25), .lit (.int .u8 14), .lit (.int .u8 19), .lit (.int .u8 9), .lit (.int .u8 13), .lit (.int .u8 8), .lit (.int .u8 7), .lit (.int .u8 6)]
def laid_internal_strconv_uint64pow10 {H : Type} : DataW H := .agg [.lit (.int .u64 1), .lit (.int .u64 10), .lit (.int .u64 100), .lit (.int .u64 1000), .lit (.int .u64 10000), .lit (.int .u64 100000), .lit (.int .u64 1000000), .lit (.int .u64 10000000), .lit (.int .u64 100000000), .lit (.int .u64 1000000000), .lit (.int .u64 10000000000), .lit (.int .u64 100000000000), .lit (.int .u64 1000000000000), .lit (.int .u64 10000000000000), .lit (.int .u64 100000000000000), .lit (.int .u64 1000000000000000), .lit (.int .u64 10000000000000000), .lit (.int .u64 100000000000000000), .lit (.int .u64 1000000000000000000), .lit (.int .u64 10000000000000000000)]
def laid_filigree_ast_kinds {H : Type} : DataW H := .agg [.agg [.lit (.bool false), .lit (.int .i64 0), .lit (.int .i64 0), .lit (.int .i64 0), .lit (.int .i64 0)], .agg [.lit (.bool false), .lit (.int .i64 0), .lit (.int .i64 0), .lit (.int .i64 0), .lit (.int .i64 0)], .agg [.lit (.bool true), .lit (.int .i64 0), .lit (.int .i64 0), .lit (.int .i64 0), .lit (.int .i64 0)], .agg [.lit (.bool true), .lit (.int .i64 2), .lit (.int .i64 2), .lit (.int .i64 0), .lit (.int .i64 0)], .agg [.lit (.bool true), .lit (.int .i64 1), .lit (.int .i64 1), .lit (.int .i64 0), .lit (.int .i64 0)], .agg [.lit (.bool false), .lit (.int .i64 1), .lit (.int .i64 1), .lit (.int .i64 1), .lit (.int .i64 6)], .agg [.lit (.bool false), .lit (.int .i64 2), .lit (.int .i64 2), .lit (.int .i64 11), .lit (.int .i64 26)], .agg [.lit (.bool false), .lit (.int .i64 3), .lit (.int .i64 3), .lit (.int .i64 0), .lit (.int .i64 0)], .agg [.lit (.bool false), .lit (.int .i64 1), .lit (.int .i64 65536), .lit (.int .i64 0), .lit (.int .i64 0)], .agg [.lit (.bool false), .lit (.int .i64 2), .lit (.int .i64 2), .lit (.int .i64 0), .lit (.int .i64 0)], .agg [.lit (.bool false), .lit (.int .i64 2), .lit (.int .i64 2), .lit (.int .i64 31), .lit (.int .i64 33)]]
def laid_filigree_ast_shapes {H : Type} : DataW H := .agg [.agg [.lit (.bool false), .lit (.bool false), .lit (.int .i64 0), .lit (.bool false), .lit (.bool false), .lit (.bool false), .lit (.bool false)], .agg [.lit (.bool true), .lit (.bool false), .lit (.int .i64 1), .lit (.bool false), .lit (.bool false), .lit (.bool false), .lit (.bool false)], .agg [.lit (.bool true), .lit (.bool false), .lit (.int .i64 1), .lit (.bool false), .lit (.bool false), .lit (.bool false), .lit (.bool false)], .agg [.lit (.bool true), .lit (.bool false), .lit (.int .i64 2), .lit (.bool false), .lit (.bool false), .lit (.bool false), .lit (.bool false)], .agg [.lit (.bool false), .lit (.bool false), .lit (.int .i64 2), .lit (.bool false), .lit (.bool false), .lit (.bool false), .lit (.bool false)], .agg [.lit (.bool false), .lit (.bool false), .lit (.int .i64 0), .lit (.bool true), .lit (.bool false), .lit (.bool false), .lit (.bool false)], .agg [.lit (.bool false), .lit (.bool false), .lit (.int .i64 0), .lit (.bool true), .lit (.bool false), .lit (.bool false), .lit (.bool false)], .agg [.lit (.bool true), .lit (.bool true), .lit (.int .i64 0), .lit (.bool false), .lit (.bool false), .lit (.bool false), .lit (.bool true)], .agg [.lit (.bool false), .lit (.bool false), .lit (.int .i64 1), .lit (.bool false), .lit (.bool true), .lit (.bool true), .lit (.bool false)], .agg [.lit (.bool true), .lit (.bool true), .lit (.int .i64 2), .lit (.bool false), .lit (.bool true), .lit (.bool false), .lit (.bool false)], .agg [.lit (.bool true), .lit (.bool false), .lit (.int .i64 1), .lit (.bool false), .lit (.bool false), .lit (.bool false), .lit (.bool false)]]

/-- 'filigreelaw08.ElabInside': WHATEVER THE INPUT: true; the input reads as it did. -/
def elabInsideSpec : ChangeSpec := { name := "elabInside", fn := fun _ => fun
  | [d1, d2] => { results := [.lit (.bool true)], args := [d1, d2] }
  | _ => none }
def elabInsideRow : OpenClaim := { program := "ytlfmlodanoolhaagreatdoor", sum := "792d8d3821b795c710f84649faaf42c0479cea991c7eb99d10129882be23bc66", func := "filigree/filigreelaw08.ElabInside", spec := "elabInside", inPlace := ["internal/bytealg.IndexByteString", "internal/bytealg.IndexString", "maps.clone"], unfollowed := true, recurses := true, named := ["internal/bytealg.MaxLen", "filigree/ast.kinds", "filigree/ast.shapes", "internal/strconv.uint64pow10", "math/bits.deBruijn32tab", "math/bits.deBruijn64tab"], loops := true, apart := false, laid := [("math/bits.deBruijn32tab", laid_math_bits_deBruijn32tab), ("math/bits.deBruijn64tab", laid_math_bits_deBruijn64tab), ("internal/strconv.uint64pow10", laid_internal_strconv_uint64pow10), ("filigree/ast.kinds", laid_filigree_ast_kinds), ("filigree/ast.shapes", laid_filigree_ast_shapes)] }
def ElabInsideSaid : Prop := elabInsideRow.holds Tryz.pinned (OpenSpec.ofChange elabInsideSpec)

/-- ITS FALSE NEIGHBOUR: 'it returns false'. Refute it at one input. -/
def elabInsideWrong : ChangeSpec := { name := "elabInside", fn := fun _ => fun
  | [d1, d2] => { results := [.lit (.bool false)], args := [d1, d2] }
  | _ => none }
def ElabInsideWrongFalsely : Prop := elabInsideRow.holds Tryz.pinned (OpenSpec.ofChange elabInsideWrong)

/-- 'filigreelaw08.ElabLoops': WHATEVER THE INPUT: true; the input reads as it did. -/
def elabLoopsSpec : ChangeSpec := { name := "elabLoops", fn := fun _ => fun
  | [d1, d2] => { results := [.lit (.bool true)], args := [d1, d2] }
  | _ => none }
def elabLoopsRow : OpenClaim := { program := "ytlfmlodanoolhaagreatdoor", sum := "792d8d3821b795c710f84649faaf42c0479cea991c7eb99d10129882be23bc66", func := "filigree/filigreelaw08.ElabLoops", spec := "elabLoops", inPlace := ["internal/bytealg.IndexByteString", "internal/bytealg.IndexString", "maps.clone"], unfollowed := true, recurses := true, named := ["internal/bytealg.MaxLen", "filigree/ast.kinds", "filigree/ast.shapes", "internal/strconv.uint64pow10", "math/bits.deBruijn32tab", "math/bits.deBruijn64tab"], apart := false, laid := [("math/bits.deBruijn32tab", laid_math_bits_deBruijn32tab), ("math/bits.deBruijn64tab", laid_math_bits_deBruijn64tab), ("internal/strconv.uint64pow10", laid_internal_strconv_uint64pow10), ("filigree/ast.kinds", laid_filigree_ast_kinds), ("filigree/ast.shapes", laid_filigree_ast_shapes)] }
def ElabLoopsSaid : Prop := elabLoopsRow.holds Tryz.pinned (OpenSpec.ofChange elabLoopsSpec)

/-- ITS FALSE NEIGHBOUR: 'it returns false'. Refute it at one input. -/
def elabLoopsWrong : ChangeSpec := { name := "elabLoops", fn := fun _ => fun
  | [d1, d2] => { results := [.lit (.bool false)], args := [d1, d2] }
  | _ => none }
def ElabLoopsWrongFalsely : Prop := elabLoopsRow.holds Tryz.pinned (OpenSpec.ofChange elabLoopsWrong)

/-- 'filigreelaw08.ElabFinds': WHATEVER THE INPUT: true; the input reads as it did. -/
def elabFindsSpec : ChangeSpec := { name := "elabFinds", fn := fun _ => fun
  | [d1, d2, d3] => { results := [.lit (.bool true)], args := [d1, d2, d3] }
  | _ => none }
def elabFindsRow : OpenClaim := { program := "ytlfmlodanoolhaagreatdoor", sum := "792d8d3821b795c710f84649faaf42c0479cea991c7eb99d10129882be23bc66", func := "filigree/filigreelaw08.ElabFinds", spec := "elabFinds", inPlace := ["internal/bytealg.IndexByteString", "internal/bytealg.IndexString", "maps.clone"], unfollowed := true, recurses := true, named := ["internal/bytealg.MaxLen", "filigree/ast.kinds", "filigree/ast.shapes", "internal/strconv.uint64pow10", "math/bits.deBruijn32tab", "math/bits.deBruijn64tab"], loops := true, apart := false, laid := [("math/bits.deBruijn32tab", laid_math_bits_deBruijn32tab), ("math/bits.deBruijn64tab", laid_math_bits_deBruijn64tab), ("internal/strconv.uint64pow10", laid_internal_strconv_uint64pow10), ("filigree/ast.kinds", laid_filigree_ast_kinds), ("filigree/ast.shapes", laid_filigree_ast_shapes)] }
def ElabFindsSaid : Prop := elabFindsRow.holds Tryz.pinned (OpenSpec.ofChange elabFindsSpec)

/-- ITS FALSE NEIGHBOUR: 'it returns false'. Refute it at one input. -/
def elabFindsWrong : ChangeSpec := { name := "elabFinds", fn := fun _ => fun
  | [d1, d2, d3] => { results := [.lit (.bool false)], args := [d1, d2, d3] }
  | _ => none }
def ElabFindsWrongFalsely : Prop := elabFindsRow.holds Tryz.pinned (OpenSpec.ofChange elabFindsWrong)

/-- 'filigreelaw08.ElabWhole': WHATEVER THE INPUT: true; the input reads as it did. -/
def elabWholeSpec : ChangeSpec := { name := "elabWhole", fn := fun _ => fun
  | [d1, d2, d3] => { results := [.lit (.bool true)], args := [d1, d2, d3] }
  | _ => none }
def elabWholeRow : OpenClaim := { program := "ytlfmlodanoolhaagreatdoor", sum := "792d8d3821b795c710f84649faaf42c0479cea991c7eb99d10129882be23bc66", func := "filigree/filigreelaw08.ElabWhole", spec := "elabWhole", inPlace := ["internal/bytealg.IndexByteString", "internal/bytealg.IndexString", "maps.clone"], unfollowed := true, recurses := true, named := ["internal/bytealg.MaxLen", "filigree/ast.kinds", "filigree/ast.shapes", "internal/strconv.uint64pow10", "math/bits.deBruijn32tab", "math/bits.deBruijn64tab"], loops := true, apart := false, laid := [("math/bits.deBruijn32tab", laid_math_bits_deBruijn32tab), ("math/bits.deBruijn64tab", laid_math_bits_deBruijn64tab), ("internal/strconv.uint64pow10", laid_internal_strconv_uint64pow10), ("filigree/ast.kinds", laid_filigree_ast_kinds), ("filigree/ast.shapes", laid_filigree_ast_shapes)] }
def ElabWholeSaid : Prop := elabWholeRow.holds Tryz.pinned (OpenSpec.ofChange elabWholeSpec)

/-- ITS FALSE NEIGHBOUR: 'it returns false'. Refute it at one input. -/
def elabWholeWrong : ChangeSpec := { name := "elabWhole", fn := fun _ => fun
  | [d1, d2, d3] => { results := [.lit (.bool false)], args := [d1, d2, d3] }
  | _ => none }
def ElabWholeWrongFalsely : Prop := elabWholeRow.holds Tryz.pinned (OpenSpec.ofChange elabWholeWrong)

/-- 'filigreelaw08.ElabPorts': WHATEVER THE INPUT: true; the input reads as it did. -/
def elabPortsSpec : ChangeSpec := { name := "elabPorts", fn := fun _ => fun
  | [d1, d2, d3] => { results := [.lit (.bool true)], args := [d1, d2, d3] }
  | _ => none }
def elabPortsRow : OpenClaim := { program := "ytlfmlodanoolhaagreatdoor", sum := "792d8d3821b795c710f84649faaf42c0479cea991c7eb99d10129882be23bc66", func := "filigree/filigreelaw08.ElabPorts", spec := "elabPorts", inPlace := ["internal/bytealg.IndexByteString", "internal/bytealg.IndexString", "maps.clone"], unfollowed := true, recurses := true, named := ["internal/bytealg.MaxLen", "filigree/ast.kinds", "filigree/ast.shapes", "internal/strconv.uint64pow10", "math/bits.deBruijn32tab", "math/bits.deBruijn64tab"], loops := true, apart := false, laid := [("math/bits.deBruijn32tab", laid_math_bits_deBruijn32tab), ("math/bits.deBruijn64tab", laid_math_bits_deBruijn64tab), ("internal/strconv.uint64pow10", laid_internal_strconv_uint64pow10), ("filigree/ast.kinds", laid_filigree_ast_kinds), ("filigree/ast.shapes", laid_filigree_ast_shapes)] }
def ElabPortsSaid : Prop := elabPortsRow.holds Tryz.pinned (OpenSpec.ofChange elabPortsSpec)

/-- ITS FALSE NEIGHBOUR: 'it returns false'. Refute it at one input. -/
def elabPortsWrong : ChangeSpec := { name := "elabPorts", fn := fun _ => fun
  | [d1, d2, d3] => { results := [.lit (.bool false)], args := [d1, d2, d3] }
  | _ => none }
def ElabPortsWrongFalsely : Prop := elabPortsRow.holds Tryz.pinned (OpenSpec.ofChange elabPortsWrong)

/-- 'filigreelaw08.ElabDefaults': WHATEVER THE INPUT: true; the input reads as it did. -/
def elabDefaultsSpec : ChangeSpec := { name := "elabDefaults", fn := fun _ => fun
  | [d1, d2] => { results := [.lit (.bool true)], args := [d1, d2] }
  | _ => none }
def elabDefaultsRow : OpenClaim := { program := "ytlfmlodanoolhaagreatdoor", sum := "792d8d3821b795c710f84649faaf42c0479cea991c7eb99d10129882be23bc66", func := "filigree/filigreelaw08.ElabDefaults", spec := "elabDefaults", inPlace := ["internal/bytealg.IndexByteString", "internal/bytealg.IndexString", "maps.clone"], unfollowed := true, recurses := true, named := ["internal/bytealg.MaxLen", "filigree/ast.kinds", "filigree/ast.shapes", "internal/strconv.uint64pow10", "math/bits.deBruijn32tab", "math/bits.deBruijn64tab"], loops := true, apart := false, laid := [("math/bits.deBruijn32tab", laid_math_bits_deBruijn32tab), ("math/bits.deBruijn64tab", laid_math_bits_deBruijn64tab), ("internal/strconv.uint64pow10", laid_internal_strconv_uint64pow10), ("filigree/ast.kinds", laid_filigree_ast_kinds), ("filigree/ast.shapes", laid_filigree_ast_shapes)] }
def ElabDefaultsSaid : Prop := elabDefaultsRow.holds Tryz.pinned (OpenSpec.ofChange elabDefaultsSpec)

/-- ITS FALSE NEIGHBOUR: 'it returns false'. Refute it at one input. -/
def elabDefaultsWrong : ChangeSpec := { name := "elabDefaults", fn := fun _ => fun
  | [d1, d2] => { results := [.lit (.bool false)], args := [d1, d2] }
  | _ => none }
def ElabDefaultsWrongFalsely : Prop := elabDefaultsRow.holds Tryz.pinned (OpenSpec.ofChange elabDefaultsWrong)

/-- 'filigreelaw08.ElabChoices': WHATEVER THE INPUT: true; the input reads as it did. -/
def elabChoicesSpec : ChangeSpec := { name := "elabChoices", fn := fun _ => fun
  | [d1, d2, d3] => { results := [.lit (.bool true)], args := [d1, d2, d3] }
  | _ => none }
def elabChoicesRow : OpenClaim := { program := "ytlfmlodanoolhaagreatdoor", sum := "792d8d3821b795c710f84649faaf42c0479cea991c7eb99d10129882be23bc66", func := "filigree/filigreelaw08.ElabChoices", spec := "elabChoices", inPlace := ["internal/bytealg.IndexByteString", "internal/bytealg.IndexString", "maps.clone"], unfollowed := true, recurses := true, named := ["internal/bytealg.MaxLen", "filigree/ast.kinds", "filigree/ast.shapes", "internal/strconv.uint64pow10", "math/bits.deBruijn32tab", "math/bits.deBruijn64tab"], loops := true, apart := false, laid := [("math/bits.deBruijn32tab", laid_math_bits_deBruijn32tab), ("math/bits.deBruijn64tab", laid_math_bits_deBruijn64tab), ("internal/strconv.uint64pow10", laid_internal_strconv_uint64pow10), ("filigree/ast.kinds", laid_filigree_ast_kinds), ("filigree/ast.shapes", laid_filigree_ast_shapes)] }
def ElabChoicesSaid : Prop := elabChoicesRow.holds Tryz.pinned (OpenSpec.ofChange elabChoicesSpec)

/-- ITS FALSE NEIGHBOUR: 'it returns false'. Refute it at one input. -/
def elabChoicesWrong : ChangeSpec := { name := "elabChoices", fn := fun _ => fun
  | [d1, d2, d3] => { results := [.lit (.bool false)], args := [d1, d2, d3] }
  | _ => none }
def ElabChoicesWrongFalsely : Prop := elabChoicesRow.holds Tryz.pinned (OpenSpec.ofChange elabChoicesWrong)

/-- 'filigreelaw08.ElabMore': WHATEVER THE INPUT: true; the input reads as it did. -/
def elabMoreSpec : ChangeSpec := { name := "elabMore", fn := fun _ => fun
  | [d1, d2, d3, d4] => { results := [.lit (.bool true)], args := [d1, d2, d3, d4] }
  | _ => none }
def elabMoreRow : OpenClaim := { program := "ytlfmlodanoolhaagreatdoor", sum := "792d8d3821b795c710f84649faaf42c0479cea991c7eb99d10129882be23bc66", func := "filigree/filigreelaw08.ElabMore", spec := "elabMore", inPlace := ["internal/bytealg.IndexByteString", "internal/bytealg.IndexString", "maps.clone"], unfollowed := true, recurses := true, named := ["internal/bytealg.MaxLen", "filigree/ast.kinds", "filigree/ast.shapes", "internal/strconv.uint64pow10", "math/bits.deBruijn32tab", "math/bits.deBruijn64tab"], loops := true, apart := false, laid := [("math/bits.deBruijn32tab", laid_math_bits_deBruijn32tab), ("math/bits.deBruijn64tab", laid_math_bits_deBruijn64tab), ("internal/strconv.uint64pow10", laid_internal_strconv_uint64pow10), ("filigree/ast.kinds", laid_filigree_ast_kinds), ("filigree/ast.shapes", laid_filigree_ast_shapes)] }
def ElabMoreSaid : Prop := elabMoreRow.holds Tryz.pinned (OpenSpec.ofChange elabMoreSpec)

/-- ITS FALSE NEIGHBOUR: 'it returns false'. Refute it at one input. -/
def elabMoreWrong : ChangeSpec := { name := "elabMore", fn := fun _ => fun
  | [d1, d2, d3, d4] => { results := [.lit (.bool false)], args := [d1, d2, d3, d4] }
  | _ => none }
def ElabMoreWrongFalsely : Prop := elabMoreRow.holds Tryz.pinned (OpenSpec.ofChange elabMoreWrong)

/- THE SECOND FORM. 'bulk': how many values and letters a reading holds, each counted each time it is reached (what is shared counts as often as it is met; a slice's spare places count too). A statement '..UptoSaid' is the law's where the arguments, and the package variables that the reading takes, are together of bulk at most 1048576: NARROWER than '..Said'. Prove '..Said' where nothing that the law and all that it calls make is longer than what came in: it says more and counts as full. Else prove '..UptoSaid'. A law counts once. -/
mutual
def uptoBulk {H : Type} : DataW H → Nat
  | .lit (.string bytes) => bytes.length + 1
  | .lit _ => 1
  | .nil => 1
  | .ptr d => uptoBulk d + 1
  | .slice elems spare => uptoBulkAll elems + uptoBulkAll spare + 1
  | .agg parts => uptoBulkAll parts + 1
  | .iface _ d => uptoBulk d + 1
  | .map entries => uptoBulkEntries entries + 1
  | .held _ => 1
def uptoBulkAll {H : Type} : List (DataW H) → Nat
  | [] => 0
  | d :: r => uptoBulk d + uptoBulkAll r
def uptoBulkEntries {H : Type} : List (Lit × DataW H) → Nat
  | [] => 0
  | x :: r => uptoBulkEntry x + uptoBulkEntries r
def uptoBulkEntry {H : Type} : Lit × DataW H → Nat
  | (.string bytes, d) => bytes.length + uptoBulk d + 1
  | (_, d) => uptoBulk d + 1
 end
def uptoSmall : (H : Type) → List (DataW H) → Bool := fun _ ds => decide (uptoBulkAll ds ≤ 1048576)
def OpenSpec.upto (s : _root_.Go.ChangeSpec) : _root_.Go.OpenSpec := { _root_.Go.OpenSpec.ofChange s with cond := some uptoSmall }

/-- 'filigreelaw08.ElabInside', WHERE WHAT IT READS IS OF BULK AT MOST 1048576: true; the input reads as it did. -/
def elabInsideUptoRow : OpenClaim := { program := "ytlfmlodanoolhaagreatdoor", sum := "792d8d3821b795c710f84649faaf42c0479cea991c7eb99d10129882be23bc66", func := "filigree/filigreelaw08.ElabInside", spec := "elabInside", inPlace := ["internal/bytealg.IndexByteString", "internal/bytealg.IndexString", "maps.clone"], unfollowed := true, recurses := true, named := ["internal/bytealg.MaxLen", "filigree/ast.kinds", "filigree/ast.shapes", "internal/strconv.uint64pow10", "math/bits.deBruijn32tab", "math/bits.deBruijn64tab"], loops := true, apart := false, laid := [("math/bits.deBruijn32tab", laid_math_bits_deBruijn32tab), ("math/bits.deBruijn64tab", laid_math_bits_deBruijn64tab), ("internal/strconv.uint64pow10", laid_internal_strconv_uint64pow10), ("filigree/ast.kinds", laid_filigree_ast_kinds), ("filigree/ast.shapes", laid_filigree_ast_shapes)], narrowed := true }
def ElabInsideUptoSaid : Prop := elabInsideUptoRow.holds Tryz.pinned (OpenSpec.upto elabInsideSpec)

/-- 'filigreelaw08.ElabLoops', WHERE WHAT IT READS IS OF BULK AT MOST 1048576: true; the input reads as it did. -/
def elabLoopsUptoRow : OpenClaim := { program := "ytlfmlodanoolhaagreatdoor", sum := "792d8d3821b795c710f84649faaf42c0479cea991c7eb99d10129882be23bc66", func := "filigree/filigreelaw08.ElabLoops", spec := "elabLoops", inPlace := ["internal/bytealg.IndexByteString", "internal/bytealg.IndexString", "maps.clone"], unfollowed := true, recurses := true, named := ["internal/bytealg.MaxLen", "filigree/ast.kinds", "filigree/ast.shapes", "internal/strconv.uint64pow10", "math/bits.deBruijn32tab", "math/bits.deBruijn64tab"], apart := false, laid := [("math/bits.deBruijn32tab", laid_math_bits_deBruijn32tab), ("math/bits.deBruijn64tab", laid_math_bits_deBruijn64tab), ("internal/strconv.uint64pow10", laid_internal_strconv_uint64pow10), ("filigree/ast.kinds", laid_filigree_ast_kinds), ("filigree/ast.shapes", laid_filigree_ast_shapes)], narrowed := true }
def ElabLoopsUptoSaid : Prop := elabLoopsUptoRow.holds Tryz.pinned (OpenSpec.upto elabLoopsSpec)

/-- 'filigreelaw08.ElabFinds', WHERE WHAT IT READS IS OF BULK AT MOST 1048576: true; the input reads as it did. -/
def elabFindsUptoRow : OpenClaim := { program := "ytlfmlodanoolhaagreatdoor", sum := "792d8d3821b795c710f84649faaf42c0479cea991c7eb99d10129882be23bc66", func := "filigree/filigreelaw08.ElabFinds", spec := "elabFinds", inPlace := ["internal/bytealg.IndexByteString", "internal/bytealg.IndexString", "maps.clone"], unfollowed := true, recurses := true, named := ["internal/bytealg.MaxLen", "filigree/ast.kinds", "filigree/ast.shapes", "internal/strconv.uint64pow10", "math/bits.deBruijn32tab", "math/bits.deBruijn64tab"], loops := true, apart := false, laid := [("math/bits.deBruijn32tab", laid_math_bits_deBruijn32tab), ("math/bits.deBruijn64tab", laid_math_bits_deBruijn64tab), ("internal/strconv.uint64pow10", laid_internal_strconv_uint64pow10), ("filigree/ast.kinds", laid_filigree_ast_kinds), ("filigree/ast.shapes", laid_filigree_ast_shapes)], narrowed := true }
def ElabFindsUptoSaid : Prop := elabFindsUptoRow.holds Tryz.pinned (OpenSpec.upto elabFindsSpec)

/-- 'filigreelaw08.ElabWhole', WHERE WHAT IT READS IS OF BULK AT MOST 1048576: true; the input reads as it did. -/
def elabWholeUptoRow : OpenClaim := { program := "ytlfmlodanoolhaagreatdoor", sum := "792d8d3821b795c710f84649faaf42c0479cea991c7eb99d10129882be23bc66", func := "filigree/filigreelaw08.ElabWhole", spec := "elabWhole", inPlace := ["internal/bytealg.IndexByteString", "internal/bytealg.IndexString", "maps.clone"], unfollowed := true, recurses := true, named := ["internal/bytealg.MaxLen", "filigree/ast.kinds", "filigree/ast.shapes", "internal/strconv.uint64pow10", "math/bits.deBruijn32tab", "math/bits.deBruijn64tab"], loops := true, apart := false, laid := [("math/bits.deBruijn32tab", laid_math_bits_deBruijn32tab), ("math/bits.deBruijn64tab", laid_math_bits_deBruijn64tab), ("internal/strconv.uint64pow10", laid_internal_strconv_uint64pow10), ("filigree/ast.kinds", laid_filigree_ast_kinds), ("filigree/ast.shapes", laid_filigree_ast_shapes)], narrowed := true }
def ElabWholeUptoSaid : Prop := elabWholeUptoRow.holds Tryz.pinned (OpenSpec.upto elabWholeSpec)

/-- 'filigreelaw08.ElabPorts', WHERE WHAT IT READS IS OF BULK AT MOST 1048576: true; the input reads as it did. -/
def elabPortsUptoRow : OpenClaim := { program := "ytlfmlodanoolhaagreatdoor", sum := "792d8d3821b795c710f84649faaf42c0479cea991c7eb99d10129882be23bc66", func := "filigree/filigreelaw08.ElabPorts", spec := "elabPorts", inPlace := ["internal/bytealg.IndexByteString", "internal/bytealg.IndexString", "maps.clone"], unfollowed := true, recurses := true, named := ["internal/bytealg.MaxLen", "filigree/ast.kinds", "filigree/ast.shapes", "internal/strconv.uint64pow10", "math/bits.deBruijn32tab", "math/bits.deBruijn64tab"], loops := true, apart := false, laid := [("math/bits.deBruijn32tab", laid_math_bits_deBruijn32tab), ("math/bits.deBruijn64tab", laid_math_bits_deBruijn64tab), ("internal/strconv.uint64pow10", laid_internal_strconv_uint64pow10), ("filigree/ast.kinds", laid_filigree_ast_kinds), ("filigree/ast.shapes", laid_filigree_ast_shapes)], narrowed := true }
def ElabPortsUptoSaid : Prop := elabPortsUptoRow.holds Tryz.pinned (OpenSpec.upto elabPortsSpec)

/-- 'filigreelaw08.ElabDefaults', WHERE WHAT IT READS IS OF BULK AT MOST 1048576: true; the input reads as it did. -/
def elabDefaultsUptoRow : OpenClaim := { program := "ytlfmlodanoolhaagreatdoor", sum := "792d8d3821b795c710f84649faaf42c0479cea991c7eb99d10129882be23bc66", func := "filigree/filigreelaw08.ElabDefaults", spec := "elabDefaults", inPlace := ["internal/bytealg.IndexByteString", "internal/bytealg.IndexString", "maps.clone"], unfollowed := true, recurses := true, named := ["internal/bytealg.MaxLen", "filigree/ast.kinds", "filigree/ast.shapes", "internal/strconv.uint64pow10", "math/bits.deBruijn32tab", "math/bits.deBruijn64tab"], loops := true, apart := false, laid := [("math/bits.deBruijn32tab", laid_math_bits_deBruijn32tab), ("math/bits.deBruijn64tab", laid_math_bits_deBruijn64tab), ("internal/strconv.uint64pow10", laid_internal_strconv_uint64pow10), ("filigree/ast.kinds", laid_filigree_ast_kinds), ("filigree/ast.shapes", laid_filigree_ast_shapes)], narrowed := true }
def ElabDefaultsUptoSaid : Prop := elabDefaultsUptoRow.holds Tryz.pinned (OpenSpec.upto elabDefaultsSpec)

/-- 'filigreelaw08.ElabChoices', WHERE WHAT IT READS IS OF BULK AT MOST 1048576: true; the input reads as it did. -/
def elabChoicesUptoRow : OpenClaim := { program := "ytlfmlodanoolhaagreatdoor", sum := "792d8d3821b795c710f84649faaf42c0479cea991c7eb99d10129882be23bc66", func := "filigree/filigreelaw08.ElabChoices", spec := "elabChoices", inPlace := ["internal/bytealg.IndexByteString", "internal/bytealg.IndexString", "maps.clone"], unfollowed := true, recurses := true, named := ["internal/bytealg.MaxLen", "filigree/ast.kinds", "filigree/ast.shapes", "internal/strconv.uint64pow10", "math/bits.deBruijn32tab", "math/bits.deBruijn64tab"], loops := true, apart := false, laid := [("math/bits.deBruijn32tab", laid_math_bits_deBruijn32tab), ("math/bits.deBruijn64tab", laid_math_bits_deBruijn64tab), ("internal/strconv.uint64pow10", laid_internal_strconv_uint64pow10), ("filigree/ast.kinds", laid_filigree_ast_kinds), ("filigree/ast.shapes", laid_filigree_ast_shapes)], narrowed := true }
def ElabChoicesUptoSaid : Prop := elabChoicesUptoRow.holds Tryz.pinned (OpenSpec.upto elabChoicesSpec)

/-- 'filigreelaw08.ElabMore', WHERE WHAT IT READS IS OF BULK AT MOST 1048576: true; the input reads as it did. -/
def elabMoreUptoRow : OpenClaim := { program := "ytlfmlodanoolhaagreatdoor", sum := "792d8d3821b795c710f84649faaf42c0479cea991c7eb99d10129882be23bc66", func := "filigree/filigreelaw08.ElabMore", spec := "elabMore", inPlace := ["internal/bytealg.IndexByteString", "internal/bytealg.IndexString", "maps.clone"], unfollowed := true, recurses := true, named := ["internal/bytealg.MaxLen", "filigree/ast.kinds", "filigree/ast.shapes", "internal/strconv.uint64pow10", "math/bits.deBruijn32tab", "math/bits.deBruijn64tab"], loops := true, apart := false, laid := [("math/bits.deBruijn32tab", laid_math_bits_deBruijn32tab), ("math/bits.deBruijn64tab", laid_math_bits_deBruijn64tab), ("internal/strconv.uint64pow10", laid_internal_strconv_uint64pow10), ("filigree/ast.kinds", laid_filigree_ast_kinds), ("filigree/ast.shapes", laid_filigree_ast_shapes)], narrowed := true }
def ElabMoreUptoSaid : Prop := elabMoreUptoRow.holds Tryz.pinned (OpenSpec.upto elabMoreSpec)

end Rows
end Go.Proofs.YtlfmlodanoolhaaGreatDoor
