/-
  NARROWER THAN 'FOR EVERY INPUT', by the rows' own cells (each row's printed sentence says how): NamesOrder: loops, laid · NamesBelow: loops, laid · NamesTwice: loops, laid · NamesSides: loops, laid · NamesLoops: loops, laid · NamesWithout: loops, laid.
  DERIVED. THE GIVEN ROWS OF THIS SEAT. 6 by the template 'for every input the law returns true; each argument reads behind the call as it read before'; 0 by the template 'total and deterministic' (their statements: YtjoglnjpgkobeaaDoorTotals.lean).
  GIVEN WITH THE SEED: the statements are not yours to turn. If you find one false, say at which input.
  Laid BY PROGRAM, IN A SANDBOX (cutbox-rows.mjs): the forced cells as the released guide's own fill.sh prints them over the translation a54a16d4b187371d… (all of the seat's roots in one cut). By AI agents, Wed Nov 11 2026. No macro, syntax, notation, axiom, sorry.
-/
import Derived.Test.YtjoglnjpgkobeaaDoorChecked
import GoSem.Claim
import GoSem.ClaimJoined
import GoSem.ClaimMapViews
import Derived.JoinedTies
import Derived.KernelRfl
namespace Go.Proofs.YtjoglnjpgkobeaaDoor
/- THE CELL 'sum', in the pinned program and in every row, IS THE sha256 OF THE DUMP (.gsa) THAT YtjoglnjpgkobeaaDoorProg.lean LOADS. Nothing in Lean hashes anything: it is a label: what it is worth is what the hold of that sum in a sandbox is worth. -/
noncomputable def Tryd.pinned : Pinned := { name := "ytjoglnjpgkobeaadoor", sum := "a54a16d4b187371d71da2cc15794b1612b4abbd55f700693b84c3d4e1a28acb0", checked := Tryd.checked }
namespace Rows
def none {H : Type} : Left H := { results := [], args := [] }

/- WHAT THE LISTED PACKAGE-LEVEL VARIABLES READ AS WHEN THE CALL BEGINS. Each datum BY PROGRAM (the guide's laid-datum.mjs) off the statement by which the dump's own 'gosem.cut.vars' lays the variable. In a bare row this is a premise. The card (YtjoglnjpgkobeaaDoorCards.lean) ties it to the program's text. -/
def laid_filigree_ast_kinds {H : Type} : DataW H := .agg [.agg [.lit (.bool false), .lit (.int .i64 0), .lit (.int .i64 0), .lit (.int .i64 0), .lit (.int .i64 0)], .agg [.lit (.bool false), .lit (.int .i64 0), .lit (.int .i64 0), .lit (.int .i64 0), .lit (.int .i64 0)], .agg [.lit (.bool true), .lit (.int .i64 0), .lit (.int .i64 0), .lit (.int .i64 0), .lit (.int .i64 0)], .agg [.lit (.bool true), .lit (.int .i64 2), .lit (.int .i64 2), .lit (.int .i64 0), .lit (.int .i64 0)], .agg [.lit (.bool true), .lit (.int .i64 1), .lit (.int .i64 1), .lit (.int .i64 0), .lit (.int .i64 0)], .agg [.lit (.bool false), .lit (.int .i64 1), .lit (.int .i64 1), .lit (.int .i64 1), .lit (.int .i64 6)], .agg [.lit (.bool false), .lit (.int .i64 2), .lit (.int .i64 2), .lit (.int .i64 11), .lit (.int .i64 26)], .agg [.lit (.bool false), .lit (.int .i64 3), .lit (.int .i64 3), .lit (.int .i64 0), .lit (.int .i64 0)], .agg [.lit (.bool false), .lit (.int .i64 1), .lit (.int .i64 65536), .lit (.int .i64 0), .lit (.int .i64 0)], .agg [.lit (.bool false), .lit (.int .i64 2), .lit (.int .i64 2), .lit (.int .i64 0), .lit (.int .i64 0)], .agg [.lit (.bool false), .lit (.int .i64 2), .lit (.int .i64 2), .lit (.int .i64 31), .lit (.int .i64 33)]]
def laid_filigree_ast_shapes {H : Type} : DataW H := .agg [.agg [.lit (.bool false), .lit (.bool false), .lit (.int .i64 0), .lit (.bool false), .lit (.bool false), .lit (.bool false), .lit (.bool false)], .agg [.lit (.bool true), .lit (.bool false), .lit (.int .i64 1), .lit (.bool false), .lit (.bool false), .lit (.bool false), .lit (.bool false)], .agg [.lit (.bool true), .lit (.bool false), .lit (.int .i64 1), .lit (.bool false), .lit (.bool false), .lit (.bool false), .lit (.bool false)], .agg [.lit (.bool true), .lit (.bool false), .lit (.int .i64 2), .lit (.bool false), .lit (.bool false), .lit (.bool false), .lit (.bool false)], .agg [.lit (.bool false), .lit (.bool false), .lit (.int .i64 2), .lit (.bool false), .lit (.bool false), .lit (.bool false), .lit (.bool false)], .agg [.lit (.bool false), .lit (.bool false), .lit (.int .i64 0), .lit (.bool true), .lit (.bool false), .lit (.bool false), .lit (.bool false)], .agg [.lit (.bool false), .lit (.bool false), .lit (.int .i64 0), .lit (.bool true), .lit (.bool false), .lit (.bool false), .lit (.bool false)], .agg [.lit (.bool true), .lit (.bool true), .lit (.int .i64 0), .lit (.bool false), .lit (.bool false), .lit (.bool false), .lit (.bool true)], .agg [.lit (.bool false), .lit (.bool false), .lit (.int .i64 1), .lit (.bool false), .lit (.bool true), .lit (.bool true), .lit (.bool false)], .agg [.lit (.bool true), .lit (.bool true), .lit (.int .i64 2), .lit (.bool false), .lit (.bool true), .lit (.bool false), .lit (.bool false)], .agg [.lit (.bool true), .lit (.bool false), .lit (.int .i64 1), .lit (.bool false), .lit (.bool false), .lit (.bool false), .lit (.bool false)]]

/-- 'filigreelaw07.NamesOrder': WHATEVER THE INPUT: true; the input reads as it did. -/
def namesOrderSpec : ChangeSpec := { name := "namesOrder", fn := fun _ => fun
  | [d] => { results := [.lit (.bool true)], args := [d] }
  | _ => none }
def namesOrderRow : OpenClaim := { program := "ytjoglnjpgkobeaadoor", sum := "a54a16d4b187371d71da2cc15794b1612b4abbd55f700693b84c3d4e1a28acb0", func := "filigree/filigreelaw07.NamesOrder", spec := "namesOrder", inPlace := ["internal/bytealg.IndexByteString", "internal/bytealg.IndexString"], unfollowed := true, recurses := true, named := ["internal/bytealg.MaxLen", "filigree/ast.kinds", "filigree/ast.shapes"], loops := true, apart := false, laid := [("filigree/ast.kinds", laid_filigree_ast_kinds), ("filigree/ast.shapes", laid_filigree_ast_shapes)] }
def NamesOrderSaid : Prop := namesOrderRow.holds Tryd.pinned (OpenSpec.ofChange namesOrderSpec)

/-- ITS FALSE NEIGHBOUR: 'it returns false'. Refute it at one input. -/
def namesOrderWrong : ChangeSpec := { name := "namesOrder", fn := fun _ => fun
  | [d] => { results := [.lit (.bool false)], args := [d] }
  | _ => none }
def NamesOrderWrongFalsely : Prop := namesOrderRow.holds Tryd.pinned (OpenSpec.ofChange namesOrderWrong)

/-- 'filigreelaw07.NamesBelow': WHATEVER THE INPUT: true; the input reads as it did. -/
def namesBelowSpec : ChangeSpec := { name := "namesBelow", fn := fun _ => fun
  | [d1, d2] => { results := [.lit (.bool true)], args := [d1, d2] }
  | _ => none }
def namesBelowRow : OpenClaim := { program := "ytjoglnjpgkobeaadoor", sum := "a54a16d4b187371d71da2cc15794b1612b4abbd55f700693b84c3d4e1a28acb0", func := "filigree/filigreelaw07.NamesBelow", spec := "namesBelow", inPlace := ["internal/bytealg.IndexByteString", "internal/bytealg.IndexString"], unfollowed := true, recurses := true, named := ["internal/bytealg.MaxLen", "filigree/ast.kinds", "filigree/ast.shapes"], loops := true, apart := false, laid := [("filigree/ast.kinds", laid_filigree_ast_kinds), ("filigree/ast.shapes", laid_filigree_ast_shapes)] }
def NamesBelowSaid : Prop := namesBelowRow.holds Tryd.pinned (OpenSpec.ofChange namesBelowSpec)

/-- ITS FALSE NEIGHBOUR: 'it returns false'. Refute it at one input. -/
def namesBelowWrong : ChangeSpec := { name := "namesBelow", fn := fun _ => fun
  | [d1, d2] => { results := [.lit (.bool false)], args := [d1, d2] }
  | _ => none }
def NamesBelowWrongFalsely : Prop := namesBelowRow.holds Tryd.pinned (OpenSpec.ofChange namesBelowWrong)

/-- 'filigreelaw07.NamesTwice': WHATEVER THE INPUT: true; the input reads as it did. -/
def namesTwiceSpec : ChangeSpec := { name := "namesTwice", fn := fun _ => fun
  | [d1, d2, d3] => { results := [.lit (.bool true)], args := [d1, d2, d3] }
  | _ => none }
def namesTwiceRow : OpenClaim := { program := "ytjoglnjpgkobeaadoor", sum := "a54a16d4b187371d71da2cc15794b1612b4abbd55f700693b84c3d4e1a28acb0", func := "filigree/filigreelaw07.NamesTwice", spec := "namesTwice", inPlace := ["internal/bytealg.IndexByteString", "internal/bytealg.IndexString"], unfollowed := true, recurses := true, named := ["internal/bytealg.MaxLen", "filigree/ast.kinds", "filigree/ast.shapes"], loops := true, apart := false, laid := [("filigree/ast.kinds", laid_filigree_ast_kinds), ("filigree/ast.shapes", laid_filigree_ast_shapes)] }
def NamesTwiceSaid : Prop := namesTwiceRow.holds Tryd.pinned (OpenSpec.ofChange namesTwiceSpec)

/-- ITS FALSE NEIGHBOUR: 'it returns false'. Refute it at one input. -/
def namesTwiceWrong : ChangeSpec := { name := "namesTwice", fn := fun _ => fun
  | [d1, d2, d3] => { results := [.lit (.bool false)], args := [d1, d2, d3] }
  | _ => none }
def NamesTwiceWrongFalsely : Prop := namesTwiceRow.holds Tryd.pinned (OpenSpec.ofChange namesTwiceWrong)

/-- 'filigreelaw07.NamesSides': WHATEVER THE INPUT: true; the input reads as it did. -/
def namesSidesSpec : ChangeSpec := { name := "namesSides", fn := fun _ => fun
  | [d1, d2] => { results := [.lit (.bool true)], args := [d1, d2] }
  | _ => none }
def namesSidesRow : OpenClaim := { program := "ytjoglnjpgkobeaadoor", sum := "a54a16d4b187371d71da2cc15794b1612b4abbd55f700693b84c3d4e1a28acb0", func := "filigree/filigreelaw07.NamesSides", spec := "namesSides", inPlace := ["internal/bytealg.IndexByteString", "internal/bytealg.IndexString"], unfollowed := true, recurses := true, named := ["internal/bytealg.MaxLen", "filigree/ast.kinds", "filigree/ast.shapes"], loops := true, apart := false, laid := [("filigree/ast.kinds", laid_filigree_ast_kinds), ("filigree/ast.shapes", laid_filigree_ast_shapes)] }
def NamesSidesSaid : Prop := namesSidesRow.holds Tryd.pinned (OpenSpec.ofChange namesSidesSpec)

/-- ITS FALSE NEIGHBOUR: 'it returns false'. Refute it at one input. -/
def namesSidesWrong : ChangeSpec := { name := "namesSides", fn := fun _ => fun
  | [d1, d2] => { results := [.lit (.bool false)], args := [d1, d2] }
  | _ => none }
def NamesSidesWrongFalsely : Prop := namesSidesRow.holds Tryd.pinned (OpenSpec.ofChange namesSidesWrong)

/-- 'filigreelaw07.NamesLoops': WHATEVER THE INPUT: true; the input reads as it did. -/
def namesLoopsSpec : ChangeSpec := { name := "namesLoops", fn := fun _ => fun
  | [d1, d2, d3] => { results := [.lit (.bool true)], args := [d1, d2, d3] }
  | _ => none }
def namesLoopsRow : OpenClaim := { program := "ytjoglnjpgkobeaadoor", sum := "a54a16d4b187371d71da2cc15794b1612b4abbd55f700693b84c3d4e1a28acb0", func := "filigree/filigreelaw07.NamesLoops", spec := "namesLoops", inPlace := ["internal/bytealg.IndexByteString", "internal/bytealg.IndexString"], unfollowed := true, recurses := true, named := ["internal/bytealg.MaxLen", "filigree/ast.kinds", "filigree/ast.shapes"], loops := true, apart := false, laid := [("filigree/ast.kinds", laid_filigree_ast_kinds), ("filigree/ast.shapes", laid_filigree_ast_shapes)] }
def NamesLoopsSaid : Prop := namesLoopsRow.holds Tryd.pinned (OpenSpec.ofChange namesLoopsSpec)

/-- ITS FALSE NEIGHBOUR: 'it returns false'. Refute it at one input. -/
def namesLoopsWrong : ChangeSpec := { name := "namesLoops", fn := fun _ => fun
  | [d1, d2, d3] => { results := [.lit (.bool false)], args := [d1, d2, d3] }
  | _ => none }
def NamesLoopsWrongFalsely : Prop := namesLoopsRow.holds Tryd.pinned (OpenSpec.ofChange namesLoopsWrong)

/-- 'filigreelaw07.NamesWithout': WHATEVER THE INPUT: true; the input reads as it did. -/
def namesWithoutSpec : ChangeSpec := { name := "namesWithout", fn := fun _ => fun
  | [d1, d2] => { results := [.lit (.bool true)], args := [d1, d2] }
  | _ => none }
def namesWithoutRow : OpenClaim := { program := "ytjoglnjpgkobeaadoor", sum := "a54a16d4b187371d71da2cc15794b1612b4abbd55f700693b84c3d4e1a28acb0", func := "filigree/filigreelaw07.NamesWithout", spec := "namesWithout", inPlace := ["internal/bytealg.IndexByteString", "internal/bytealg.IndexString"], unfollowed := true, recurses := true, named := ["internal/bytealg.MaxLen", "filigree/ast.kinds", "filigree/ast.shapes"], loops := true, apart := false, laid := [("filigree/ast.kinds", laid_filigree_ast_kinds), ("filigree/ast.shapes", laid_filigree_ast_shapes)] }
def NamesWithoutSaid : Prop := namesWithoutRow.holds Tryd.pinned (OpenSpec.ofChange namesWithoutSpec)

/-- ITS FALSE NEIGHBOUR: 'it returns false'. Refute it at one input. -/
def namesWithoutWrong : ChangeSpec := { name := "namesWithout", fn := fun _ => fun
  | [d1, d2] => { results := [.lit (.bool false)], args := [d1, d2] }
  | _ => none }
def NamesWithoutWrongFalsely : Prop := namesWithoutRow.holds Tryd.pinned (OpenSpec.ofChange namesWithoutWrong)

/- THE SECOND FORM. 'bulk': how many values and letters a reading holds, each counted each time it is reached (what is shared counts as often as it is met; a slice's spare places count too). A statement '..UptoSaid' is the law's where the arguments, and the package variables that the reading takes, are together of bulk at most 1048576: NARROWER than '..Said'. Prove '..Said' where nothing that the law and all that it calls make is longer than what came in: it says more and counts as full. Else prove '..UptoSaid'. A law counts once. -/
mutual
def uptoBulk {H : Type} : DataW H → Nat
  | .lit (.string bytes) => bytes.length + 1
  | .lit _ => 1
  | .nil => 1
  | .ptr d => uptoBulk d + 1
  | .slice elems spare => uptoBulkAll elems + uptoBulkAll spare + 1
  | .agg parts => uptoBulkAll parts + 1
  | .iface _ d => uptoBulk d + 1
  | .map entries => uptoBulkEntries entries + 1
  | .held _ => 1
def uptoBulkAll {H : Type} : List (DataW H) → Nat
  | [] => 0
  | d :: r => uptoBulk d + uptoBulkAll r
def uptoBulkEntries {H : Type} : List (Lit × DataW H) → Nat
  | [] => 0
  | x :: r => uptoBulkEntry x + uptoBulkEntries r
def uptoBulkEntry {H : Type} : Lit × DataW H → Nat
  | (.string bytes, d) => bytes.length + uptoBulk d + 1
  | (_, d) => uptoBulk d + 1
 end
def uptoSmall : (H : Type) → List (DataW H) → Bool := fun _ ds => decide (uptoBulkAll ds ≤ 1048576)
def OpenSpec.upto (s : _root_.Go.ChangeSpec) : _root_.Go.OpenSpec := { _root_.Go.OpenSpec.ofChange s with cond := some uptoSmall }

/-- 'filigreelaw07.NamesOrder', WHERE WHAT IT READS IS OF BULK AT MOST 1048576: true; the input reads as it did. -/
def namesOrderUptoRow : OpenClaim := { program := "ytjoglnjpgkobeaadoor", sum := "a54a16d4b187371d71da2cc15794b1612b4abbd55f700693b84c3d4e1a28acb0", func := "filigree/filigreelaw07.NamesOrder", spec := "namesOrder", inPlace := ["internal/bytealg.IndexByteString", "internal/bytealg.IndexString"], unfollowed := true, recurses := true, named := ["internal/bytealg.MaxLen", "filigree/ast.kinds", "filigree/ast.shapes"], loops := true, apart := false, laid := [("filigree/ast.kinds", laid_filigree_ast_kinds), ("filigree/ast.shapes", laid_filigree_ast_shapes)], narrowed := true }
def NamesOrderUptoSaid : Prop := namesOrderUptoRow.holds Tryd.pinned (OpenSpec.upto namesOrderSpec)

/-- 'filigreelaw07.NamesBelow', WHERE WHAT IT READS IS OF BULK AT MOST 1048576: true; the input reads as it did. -/
def namesBelowUptoRow : OpenClaim := { program := "ytjoglnjpgkobeaadoor", sum := "a54a16d4b187371d71da2cc15794b1612b4abbd55f700693b84c3d4e1a28acb0", func := "filigree/filigreelaw07.NamesBelow", spec := "namesBelow", inPlace := ["internal/bytealg.IndexByteString", "internal/bytealg.IndexString"], unfollowed := true, recurses := true, named := ["internal/bytealg.MaxLen", "filigree/ast.kinds", "filigree/ast.shapes"], loops := true, apart := false, laid := [("filigree/ast.kinds", laid_filigree_ast_kinds), ("filigree/ast.shapes", laid_filigree_ast_shapes)], narrowed := true }
def NamesBelowUptoSaid : Prop := namesBelowUptoRow.holds Tryd.pinned (OpenSpec.upto namesBelowSpec)

/-- 'filigreelaw07.NamesTwice', WHERE WHAT IT READS IS OF BULK AT MOST 1048576: true; the input reads as it did. -/
def namesTwiceUptoRow : OpenClaim := { program := "ytjoglnjpgkobeaadoor", sum := "a54a16d4b187371d71da2cc15794b1612b4abbd55f700693b84c3d4e1a28acb0", func := "filigree/filigreelaw07.NamesTwice", spec := "namesTwice", inPlace := ["internal/bytealg.IndexByteString", "internal/bytealg.IndexString"], unfollowed := true, recurses := true, named := ["internal/bytealg.MaxLen", "filigree/ast.kinds", "filigree/ast.shapes"], loops := true, apart := false, laid := [("filigree/ast.kinds", laid_filigree_ast_kinds), ("filigree/ast.shapes", laid_filigree_ast_shapes)], narrowed := true }
def NamesTwiceUptoSaid : Prop := namesTwiceUptoRow.holds Tryd.pinned (OpenSpec.upto namesTwiceSpec)

/-- 'filigreelaw07.NamesSides', WHERE WHAT IT READS IS OF BULK AT MOST 1048576: true; the input reads as it did. -/
def namesSidesUptoRow : OpenClaim := { program := "ytjoglnjpgkobeaadoor", sum := "a54a16d4b187371d71da2cc15794b1612b4abbd55f700693b84c3d4e1a28acb0", func := "filigree/filigreelaw07.NamesSides", spec := "namesSides", inPlace := ["internal/bytealg.IndexByteString", "internal/bytealg.IndexString"], unfollowed := true, recurses := true, named := ["internal/bytealg.MaxLen", "filigree/ast.kinds", "filigree/ast.shapes"], loops := true, apart := false, laid := [("filigree/ast.kinds", laid_filigree_ast_kinds), ("filigree/ast.shapes", laid_filigree_ast_shapes)], narrowed := true }
def NamesSidesUptoSaid : Prop := namesSidesUptoRow.holds Tryd.pinned (OpenSpec.upto namesSidesSpec)

/-- 'filigreelaw07.NamesLoops', WHERE WHAT IT READS IS OF BULK AT MOST 1048576: true; the input reads as it did. -/
def namesLoopsUptoRow : OpenClaim := { program := "ytjoglnjpgkobeaadoor", sum := "a54a16d4b187371d71da2cc15794b1612b4abbd55f700693b84c3d4e1a28acb0", func := "filigree/filigreelaw07.NamesLoops", spec := "namesLoops", inPlace := ["internal/bytealg.IndexByteString", "internal/bytealg.IndexString"], unfollowed := true, recurses := true, named := ["internal/bytealg.MaxLen", "filigree/ast.kinds", "filigree/ast.shapes"], loops := true, apart := false, laid := [("filigree/ast.kinds", laid_filigree_ast_kinds), ("filigree/ast.shapes", laid_filigree_ast_shapes)], narrowed := true }
def NamesLoopsUptoSaid : Prop := namesLoopsUptoRow.holds Tryd.pinned (OpenSpec.upto namesLoopsSpec)

/-- 'filigreelaw07.NamesWithout', WHERE WHAT IT READS IS OF BULK AT MOST 1048576: true; the input reads as it did. -/
def namesWithoutUptoRow : OpenClaim := { program := "ytjoglnjpgkobeaadoor", sum := "a54a16d4b187371d71da2cc15794b1612b4abbd55f700693b84c3d4e1a28acb0", func := "filigree/filigreelaw07.NamesWithout", spec := "namesWithout", inPlace := ["internal/bytealg.IndexByteString", "internal/bytealg.IndexString"], unfollowed := true, recurses := true, named := ["internal/bytealg.MaxLen", "filigree/ast.kinds", "filigree/ast.shapes"], loops := true, apart := false, laid := [("filigree/ast.kinds", laid_filigree_ast_kinds), ("filigree/ast.shapes", laid_filigree_ast_shapes)], narrowed := true }
def NamesWithoutUptoSaid : Prop := namesWithoutUptoRow.holds Tryd.pinned (OpenSpec.upto namesWithoutSpec)

end Rows
end Go.Proofs.YtjoglnjpgkobeaaDoor
