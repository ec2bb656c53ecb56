/-
  NARROWER THAN 'FOR EVERY INPUT', by the rows' own cells (each row's printed sentence says how): AstParts: loops, laid · AstSame: loops, laid · AstWhole: loops, laid · AstSpoilt: loops, laid · AstModules: loops, laid · AstNames: loops, laid · AstBound: loops, laid · AstEqual: loops, laid.
  DERIVED. THE GIVEN ROWS OF THIS SEAT. 8 by the template 'for every input the law returns true; each argument reads behind the call as it read before'; 0 by the template 'total and deterministic' (their statements: YtmpoheemnjpoeaaDoorTotals.lean).
  GIVEN WITH THE SEED: the statements are not yours to turn. If you find one false, say at which input.
  Laid BY PROGRAM, IN A SANDBOX (cutbox-rows.mjs): the forced cells as the released guide's own fill.sh prints them over the translation 9ab3b8a03ab32514… (all of the seat's roots in one cut). By AI agents, Wed Nov 11 2026. No macro, syntax, notation, axiom, sorry.
-/
import Derived.Test.YtmpoheemnjpoeaaDoorChecked
import GoSem.Claim
import GoSem.ClaimJoined
import GoSem.ClaimMapViews
import Derived.JoinedTies
import Derived.KernelRfl
namespace Go.Proofs.YtmpoheemnjpoeaaDoor
/- THE CELL 'sum', in the pinned program and in every row, IS THE sha256 OF THE DUMP (.gsa) THAT YtmpoheemnjpoeaaDoorProg.lean LOADS. Nothing in Lean hashes anything: it is a label: what it is worth is what the hold of that sum in a sandbox is worth. -/
noncomputable def Tryd.pinned : Pinned := { name := "ytmpoheemnjpoeaadoor", sum := "9ab3b8a03ab32514ae38a4886fe72c82c500a23ff4b85d3a739e4d38d8ebc539", checked := Tryd.checked }
namespace Rows
def none {H : Type} : Left H := { results := [], args := [] }

/- WHAT THE LISTED PACKAGE-LEVEL VARIABLES READ AS WHEN THE CALL BEGINS. Each datum BY PROGRAM (the guide's laid-datum.mjs) off the statement by which the dump's own 'gosem.cut.vars' lays the variable. In a bare row this is a premise. The card (YtmpoheemnjpoeaaDoorCards.lean) ties it to the program's text. -/
def laid_filigree_ast_kinds {H : Type} : DataW H := .agg [.agg [.lit (.bool false), .lit (.int .i64 0), .lit (.int .i64 0), .lit (.int .i64 0), .lit (.int .i64 0)], .agg [.lit (.bool false), .lit (.int .i64 0), .lit (.int .i64 0), .lit (.int .i64 0), .lit (.int .i64 0)], .agg [.lit (.bool true), .lit (.int .i64 0), .lit (.int .i64 0), .lit (.int .i64 0), .lit (.int .i64 0)], .agg [.lit (.bool true), .lit (.int .i64 2), .lit (.int .i64 2), .lit (.int .i64 0), .lit (.int .i64 0)], .agg [.lit (.bool true), .lit (.int .i64 1), .lit (.int .i64 1), .lit (.int .i64 0), .lit (.int .i64 0)], .agg [.lit (.bool false), .lit (.int .i64 1), .lit (.int .i64 1), .lit (.int .i64 1), .lit (.int .i64 6)], .agg [.lit (.bool false), .lit (.int .i64 2), .lit (.int .i64 2), .lit (.int .i64 11), .lit (.int .i64 26)], .agg [.lit (.bool false), .lit (.int .i64 3), .lit (.int .i64 3), .lit (.int .i64 0), .lit (.int .i64 0)], .agg [.lit (.bool false), .lit (.int .i64 1), .lit (.int .i64 65536), .lit (.int .i64 0), .lit (.int .i64 0)], .agg [.lit (.bool false), .lit (.int .i64 2), .lit (.int .i64 2), .lit (.int .i64 0), .lit (.int .i64 0)], .agg [.lit (.bool false), .lit (.int .i64 2), .lit (.int .i64 2), .lit (.int .i64 31), .lit (.int .i64 33)]]
def laid_filigree_ast_shapes {H : Type} : DataW H := .agg [.agg [.lit (.bool false), .lit (.bool false), .lit (.int .i64 0), .lit (.bool false), .lit (.bool false), .lit (.bool false), .lit (.bool false)], .agg [.lit (.bool true), .lit (.bool false), .lit (.int .i64 1), .lit (.bool false), .lit (.bool false), .lit (.bool false), .lit (.bool false)], .agg [.lit (.bool true), .lit (.bool false), .lit (.int .i64 1), .lit (.bool false), .lit (.bool false), .lit (.bool false), .lit (.bool false)], .agg [.lit (.bool true), .lit (.bool false), .lit (.int .i64 2), .lit (.bool false), .lit (.bool false), .lit (.bool false), .lit (.bool false)], .agg [.lit (.bool false), .lit (.bool false), .lit (.int .i64 2), .lit (.bool false), .lit (.bool false), .lit (.bool false), .lit (.bool false)], .agg [.lit (.bool false), .lit (.bool false), .lit (.int .i64 0), .lit (.bool true), .lit (.bool false), .lit (.bool false), .lit (.bool false)], .agg [.lit (.bool false), .lit (.bool false), .lit (.int .i64 0), .lit (.bool true), .lit (.bool false), .lit (.bool false), .lit (.bool false)], .agg [.lit (.bool true), .lit (.bool true), .lit (.int .i64 0), .lit (.bool false), .lit (.bool false), .lit (.bool false), .lit (.bool true)], .agg [.lit (.bool false), .lit (.bool false), .lit (.int .i64 1), .lit (.bool false), .lit (.bool true), .lit (.bool true), .lit (.bool false)], .agg [.lit (.bool true), .lit (.bool true), .lit (.int .i64 2), .lit (.bool false), .lit (.bool true), .lit (.bool false), .lit (.bool false)], .agg [.lit (.bool true), .lit (.bool false), .lit (.int .i64 1), .lit (.bool false), .lit (.bool false), .lit (.bool false), .lit (.bool false)]]

/-- 'filigreelaw03.AstParts': WHATEVER THE INPUT: true; the input reads as it did. -/
def astPartsSpec : ChangeSpec := { name := "astParts", fn := fun _ => fun
  | [d1, d2] => { results := [.lit (.bool true)], args := [d1, d2] }
  | _ => none }
def astPartsRow : OpenClaim := { program := "ytmpoheemnjpoeaadoor", sum := "9ab3b8a03ab32514ae38a4886fe72c82c500a23ff4b85d3a739e4d38d8ebc539", func := "filigree/filigreelaw03.AstParts", spec := "astParts", inPlace := ["internal/bytealg.IndexByteString", "internal/bytealg.IndexString"], unfollowed := true, recurses := true, named := ["filigree/ast.kinds", "internal/bytealg.MaxLen", "filigree/ast.shapes"], loops := true, apart := false, laid := [("filigree/ast.kinds", laid_filigree_ast_kinds), ("filigree/ast.shapes", laid_filigree_ast_shapes)] }
def AstPartsSaid : Prop := astPartsRow.holds Tryd.pinned (OpenSpec.ofChange astPartsSpec)

/-- ITS FALSE NEIGHBOUR: 'it returns false'. Refute it at one input. -/
def astPartsWrong : ChangeSpec := { name := "astParts", fn := fun _ => fun
  | [d1, d2] => { results := [.lit (.bool false)], args := [d1, d2] }
  | _ => none }
def AstPartsWrongFalsely : Prop := astPartsRow.holds Tryd.pinned (OpenSpec.ofChange astPartsWrong)

/-- 'filigreelaw03.AstSame': WHATEVER THE INPUT: true; the input reads as it did. -/
def astSameSpec : ChangeSpec := { name := "astSame", fn := fun _ => fun
  | [d1, d2, d3, d4, d5, d6] => { results := [.lit (.bool true)], args := [d1, d2, d3, d4, d5, d6] }
  | _ => none }
def astSameRow : OpenClaim := { program := "ytmpoheemnjpoeaadoor", sum := "9ab3b8a03ab32514ae38a4886fe72c82c500a23ff4b85d3a739e4d38d8ebc539", func := "filigree/filigreelaw03.AstSame", spec := "astSame", inPlace := ["internal/bytealg.IndexByteString", "internal/bytealg.IndexString"], unfollowed := true, recurses := true, named := ["filigree/ast.kinds", "internal/bytealg.MaxLen", "filigree/ast.shapes"], loops := true, apart := false, laid := [("filigree/ast.kinds", laid_filigree_ast_kinds), ("filigree/ast.shapes", laid_filigree_ast_shapes)] }
def AstSameSaid : Prop := astSameRow.holds Tryd.pinned (OpenSpec.ofChange astSameSpec)

/-- ITS FALSE NEIGHBOUR: 'it returns false'. Refute it at one input. -/
def astSameWrong : ChangeSpec := { name := "astSame", fn := fun _ => fun
  | [d1, d2, d3, d4, d5, d6] => { results := [.lit (.bool false)], args := [d1, d2, d3, d4, d5, d6] }
  | _ => none }
def AstSameWrongFalsely : Prop := astSameRow.holds Tryd.pinned (OpenSpec.ofChange astSameWrong)

/-- 'filigreelaw03.AstWhole': WHATEVER THE INPUT: true; the input reads as it did. -/
def astWholeSpec : ChangeSpec := { name := "astWhole", fn := fun _ => fun
  | [d1, d2] => { results := [.lit (.bool true)], args := [d1, d2] }
  | _ => none }
def astWholeRow : OpenClaim := { program := "ytmpoheemnjpoeaadoor", sum := "9ab3b8a03ab32514ae38a4886fe72c82c500a23ff4b85d3a739e4d38d8ebc539", func := "filigree/filigreelaw03.AstWhole", spec := "astWhole", inPlace := ["internal/bytealg.IndexByteString", "internal/bytealg.IndexString"], unfollowed := true, recurses := true, named := ["filigree/ast.kinds", "internal/bytealg.MaxLen", "filigree/ast.shapes"], loops := true, apart := false, laid := [("filigree/ast.kinds", laid_filigree_ast_kinds), ("filigree/ast.shapes", laid_filigree_ast_shapes)] }
def AstWholeSaid : Prop := astWholeRow.holds Tryd.pinned (OpenSpec.ofChange astWholeSpec)

/-- ITS FALSE NEIGHBOUR: 'it returns false'. Refute it at one input. -/
def astWholeWrong : ChangeSpec := { name := "astWhole", fn := fun _ => fun
  | [d1, d2] => { results := [.lit (.bool false)], args := [d1, d2] }
  | _ => none }
def AstWholeWrongFalsely : Prop := astWholeRow.holds Tryd.pinned (OpenSpec.ofChange astWholeWrong)

/-- 'filigreelaw03.AstSpoilt': WHATEVER THE INPUT: true; the input reads as it did. -/
def astSpoiltSpec : ChangeSpec := { name := "astSpoilt", fn := fun _ => fun
  | [d1, d2] => { results := [.lit (.bool true)], args := [d1, d2] }
  | _ => none }
def astSpoiltRow : OpenClaim := { program := "ytmpoheemnjpoeaadoor", sum := "9ab3b8a03ab32514ae38a4886fe72c82c500a23ff4b85d3a739e4d38d8ebc539", func := "filigree/filigreelaw03.AstSpoilt", spec := "astSpoilt", inPlace := ["internal/bytealg.IndexByteString", "internal/bytealg.IndexString"], unfollowed := true, recurses := true, named := ["filigree/ast.kinds", "internal/bytealg.MaxLen", "filigree/ast.shapes"], loops := true, apart := false, laid := [("filigree/ast.kinds", laid_filigree_ast_kinds), ("filigree/ast.shapes", laid_filigree_ast_shapes)] }
def AstSpoiltSaid : Prop := astSpoiltRow.holds Tryd.pinned (OpenSpec.ofChange astSpoiltSpec)

/-- ITS FALSE NEIGHBOUR: 'it returns false'. Refute it at one input. -/
def astSpoiltWrong : ChangeSpec := { name := "astSpoilt", fn := fun _ => fun
  | [d1, d2] => { results := [.lit (.bool false)], args := [d1, d2] }
  | _ => none }
def AstSpoiltWrongFalsely : Prop := astSpoiltRow.holds Tryd.pinned (OpenSpec.ofChange astSpoiltWrong)

/-- 'filigreelaw03.AstModules': WHATEVER THE INPUT: true; the input reads as it did. -/
def astModulesSpec : ChangeSpec := { name := "astModules", fn := fun _ => fun
  | [d1, d2] => { results := [.lit (.bool true)], args := [d1, d2] }
  | _ => none }
def astModulesRow : OpenClaim := { program := "ytmpoheemnjpoeaadoor", sum := "9ab3b8a03ab32514ae38a4886fe72c82c500a23ff4b85d3a739e4d38d8ebc539", func := "filigree/filigreelaw03.AstModules", spec := "astModules", inPlace := ["internal/bytealg.IndexByteString", "internal/bytealg.IndexString"], unfollowed := true, recurses := true, named := ["filigree/ast.kinds", "internal/bytealg.MaxLen", "filigree/ast.shapes"], loops := true, apart := false, laid := [("filigree/ast.kinds", laid_filigree_ast_kinds), ("filigree/ast.shapes", laid_filigree_ast_shapes)] }
def AstModulesSaid : Prop := astModulesRow.holds Tryd.pinned (OpenSpec.ofChange astModulesSpec)

/-- ITS FALSE NEIGHBOUR: 'it returns false'. Refute it at one input. -/
def astModulesWrong : ChangeSpec := { name := "astModules", fn := fun _ => fun
  | [d1, d2] => { results := [.lit (.bool false)], args := [d1, d2] }
  | _ => none }
def AstModulesWrongFalsely : Prop := astModulesRow.holds Tryd.pinned (OpenSpec.ofChange astModulesWrong)

/-- 'filigreelaw03.AstNames': WHATEVER THE INPUT: true; the input reads as it did. -/
def astNamesSpec : ChangeSpec := { name := "astNames", fn := fun _ => fun
  | [d1, d2] => { results := [.lit (.bool true)], args := [d1, d2] }
  | _ => none }
def astNamesRow : OpenClaim := { program := "ytmpoheemnjpoeaadoor", sum := "9ab3b8a03ab32514ae38a4886fe72c82c500a23ff4b85d3a739e4d38d8ebc539", func := "filigree/filigreelaw03.AstNames", spec := "astNames", inPlace := ["internal/bytealg.IndexByteString", "internal/bytealg.IndexString"], unfollowed := true, recurses := true, named := ["filigree/ast.kinds", "internal/bytealg.MaxLen", "filigree/ast.shapes"], loops := true, apart := false, laid := [("filigree/ast.kinds", laid_filigree_ast_kinds), ("filigree/ast.shapes", laid_filigree_ast_shapes)] }
def AstNamesSaid : Prop := astNamesRow.holds Tryd.pinned (OpenSpec.ofChange astNamesSpec)

/-- ITS FALSE NEIGHBOUR: 'it returns false'. Refute it at one input. -/
def astNamesWrong : ChangeSpec := { name := "astNames", fn := fun _ => fun
  | [d1, d2] => { results := [.lit (.bool false)], args := [d1, d2] }
  | _ => none }
def AstNamesWrongFalsely : Prop := astNamesRow.holds Tryd.pinned (OpenSpec.ofChange astNamesWrong)

/-- 'filigreelaw03.AstBound': WHATEVER THE INPUT: true; the input reads as it did. -/
def astBoundSpec : ChangeSpec := { name := "astBound", fn := fun _ => fun
  | [d1, d2] => { results := [.lit (.bool true)], args := [d1, d2] }
  | _ => none }
def astBoundRow : OpenClaim := { program := "ytmpoheemnjpoeaadoor", sum := "9ab3b8a03ab32514ae38a4886fe72c82c500a23ff4b85d3a739e4d38d8ebc539", func := "filigree/filigreelaw03.AstBound", spec := "astBound", inPlace := ["internal/bytealg.IndexByteString", "internal/bytealg.IndexString"], unfollowed := true, recurses := true, named := ["filigree/ast.kinds", "internal/bytealg.MaxLen", "filigree/ast.shapes"], loops := true, apart := false, laid := [("filigree/ast.kinds", laid_filigree_ast_kinds), ("filigree/ast.shapes", laid_filigree_ast_shapes)] }
def AstBoundSaid : Prop := astBoundRow.holds Tryd.pinned (OpenSpec.ofChange astBoundSpec)

/-- ITS FALSE NEIGHBOUR: 'it returns false'. Refute it at one input. -/
def astBoundWrong : ChangeSpec := { name := "astBound", fn := fun _ => fun
  | [d1, d2] => { results := [.lit (.bool false)], args := [d1, d2] }
  | _ => none }
def AstBoundWrongFalsely : Prop := astBoundRow.holds Tryd.pinned (OpenSpec.ofChange astBoundWrong)

/-- 'filigreelaw03.AstEqual': WHATEVER THE INPUT: true; the input reads as it did. -/
def astEqualSpec : ChangeSpec := { name := "astEqual", fn := fun _ => fun
  | [d1, d2, d3] => { results := [.lit (.bool true)], args := [d1, d2, d3] }
  | _ => none }
def astEqualRow : OpenClaim := { program := "ytmpoheemnjpoeaadoor", sum := "9ab3b8a03ab32514ae38a4886fe72c82c500a23ff4b85d3a739e4d38d8ebc539", func := "filigree/filigreelaw03.AstEqual", spec := "astEqual", inPlace := ["internal/bytealg.IndexByteString", "internal/bytealg.IndexString"], unfollowed := true, recurses := true, named := ["filigree/ast.kinds", "internal/bytealg.MaxLen", "filigree/ast.shapes"], loops := true, apart := false, laid := [("filigree/ast.kinds", laid_filigree_ast_kinds), ("filigree/ast.shapes", laid_filigree_ast_shapes)] }
def AstEqualSaid : Prop := astEqualRow.holds Tryd.pinned (OpenSpec.ofChange astEqualSpec)

/-- ITS FALSE NEIGHBOUR: 'it returns false'. Refute it at one input. -/
def astEqualWrong : ChangeSpec := { name := "astEqual", fn := fun _ => fun
  | [d1, d2, d3] => { results := [.lit (.bool false)], args := [d1, d2, d3] }
  | _ => none }
def AstEqualWrongFalsely : Prop := astEqualRow.holds Tryd.pinned (OpenSpec.ofChange astEqualWrong)

/- THE SECOND FORM. 'bulk': how many values and letters a reading holds, each counted each time it is reached (what is shared counts as often as it is met; a slice's spare places count too). A statement '..UptoSaid' is the law's where the arguments, and the package variables that the reading takes, are together of bulk at most 1048576: NARROWER than '..Said'. Prove '..Said' where nothing that the law and all that it calls make is longer than what came in: it says more and counts as full. Else prove '..UptoSaid'. A law counts once. -/
mutual
def uptoBulk {H : Type} : DataW H → Nat
  | .lit (.string bytes) => bytes.length + 1
  | .lit _ => 1
  | .nil => 1
  | .ptr d => uptoBulk d + 1
  | .slice elems spare => uptoBulkAll elems + uptoBulkAll spare + 1
  | .agg parts => uptoBulkAll parts + 1
  | .iface _ d => uptoBulk d + 1
  | .map entries => uptoBulkEntries entries + 1
  | .held _ => 1
def uptoBulkAll {H : Type} : List (DataW H) → Nat
  | [] => 0
  | d :: r => uptoBulk d + uptoBulkAll r
def uptoBulkEntries {H : Type} : List (Lit × DataW H) → Nat
  | [] => 0
  | x :: r => uptoBulkEntry x + uptoBulkEntries r
def uptoBulkEntry {H : Type} : Lit × DataW H → Nat
  | (.string bytes, d) => bytes.length + uptoBulk d + 1
  | (_, d) => uptoBulk d + 1
 end
def uptoSmall : (H : Type) → List (DataW H) → Bool := fun _ ds => decide (uptoBulkAll ds ≤ 1048576)
def OpenSpec.upto (s : _root_.Go.ChangeSpec) : _root_.Go.OpenSpec := { _root_.Go.OpenSpec.ofChange s with cond := some uptoSmall }

/-- 'filigreelaw03.AstParts', WHERE WHAT IT READS IS OF BULK AT MOST 1048576: true; the input reads as it did. -/
def astPartsUptoRow : OpenClaim := { program := "ytmpoheemnjpoeaadoor", sum := "9ab3b8a03ab32514ae38a4886fe72c82c500a23ff4b85d3a739e4d38d8ebc539", func := "filigree/filigreelaw03.AstParts", spec := "astParts", inPlace := ["internal/bytealg.IndexByteString", "internal/bytealg.IndexString"], unfollowed := true, recurses := true, named := ["filigree/ast.kinds", "internal/bytealg.MaxLen", "filigree/ast.shapes"], loops := true, apart := false, laid := [("filigree/ast.kinds", laid_filigree_ast_kinds), ("filigree/ast.shapes", laid_filigree_ast_shapes)], narrowed := true }
def AstPartsUptoSaid : Prop := astPartsUptoRow.holds Tryd.pinned (OpenSpec.upto astPartsSpec)

/-- 'filigreelaw03.AstSame', WHERE WHAT IT READS IS OF BULK AT MOST 1048576: true; the input reads as it did. -/
def astSameUptoRow : OpenClaim := { program := "ytmpoheemnjpoeaadoor", sum := "9ab3b8a03ab32514ae38a4886fe72c82c500a23ff4b85d3a739e4d38d8ebc539", func := "filigree/filigreelaw03.AstSame", spec := "astSame", inPlace := ["internal/bytealg.IndexByteString", "internal/bytealg.IndexString"], unfollowed := true, recurses := true, named := ["filigree/ast.kinds", "internal/bytealg.MaxLen", "filigree/ast.shapes"], loops := true, apart := false, laid := [("filigree/ast.kinds", laid_filigree_ast_kinds), ("filigree/ast.shapes", laid_filigree_ast_shapes)], narrowed := true }
def AstSameUptoSaid : Prop := astSameUptoRow.holds Tryd.pinned (OpenSpec.upto astSameSpec)

/-- 'filigreelaw03.AstWhole', WHERE WHAT IT READS IS OF BULK AT MOST 1048576: true; the input reads as it did. -/
def astWholeUptoRow : OpenClaim := { program := "ytmpoheemnjpoeaadoor", sum := "9ab3b8a03ab32514ae38a4886fe72c82c500a23ff4b85d3a739e4d38d8ebc539", func := "filigree/filigreelaw03.AstWhole", spec := "astWhole", inPlace := ["internal/bytealg.IndexByteString", "internal/bytealg.IndexString"], unfollowed := true, recurses := true, named := ["filigree/ast.kinds", "internal/bytealg.MaxLen", "filigree/ast.shapes"], loops := true, apart := false, laid := [("filigree/ast.kinds", laid_filigree_ast_kinds), ("filigree/ast.shapes", laid_filigree_ast_shapes)], narrowed := true }
def AstWholeUptoSaid : Prop := astWholeUptoRow.holds Tryd.pinned (OpenSpec.upto astWholeSpec)

/-- 'filigreelaw03.AstSpoilt', WHERE WHAT IT READS IS OF BULK AT MOST 1048576: true; the input reads as it did. -/
def astSpoiltUptoRow : OpenClaim := { program := "ytmpoheemnjpoeaadoor", sum := "9ab3b8a03ab32514ae38a4886fe72c82c500a23ff4b85d3a739e4d38d8ebc539", func := "filigree/filigreelaw03.AstSpoilt", spec := "astSpoilt", inPlace := ["internal/bytealg.IndexByteString", "internal/bytealg.IndexString"], unfollowed := true, recurses := true, named := ["filigree/ast.kinds", "internal/bytealg.MaxLen", "filigree/ast.shapes"], loops := true, apart := false, laid := [("filigree/ast.kinds", laid_filigree_ast_kinds), ("filigree/ast.shapes", laid_filigree_ast_shapes)], narrowed := true }
def AstSpoiltUptoSaid : Prop := astSpoiltUptoRow.holds Tryd.pinned (OpenSpec.upto astSpoiltSpec)

/-- 'filigreelaw03.AstModules', WHERE WHAT IT READS IS OF BULK AT MOST 1048576: true; the input reads as it did. -/
def astModulesUptoRow : OpenClaim := { program := "ytmpoheemnjpoeaadoor", sum := "9ab3b8a03ab32514ae38a4886fe72c82c500a23ff4b85d3a739e4d38d8ebc539", func := "filigree/filigreelaw03.AstModules", spec := "astModules", inPlace := ["internal/bytealg.IndexByteString", "internal/bytealg.IndexString"], unfollowed := true, recurses := true, named := ["filigree/ast.kinds", "internal/bytealg.MaxLen", "filigree/ast.shapes"], loops := true, apart := false, laid := [("filigree/ast.kinds", laid_filigree_ast_kinds), ("filigree/ast.shapes", laid_filigree_ast_shapes)], narrowed := true }
def AstModulesUptoSaid : Prop := astModulesUptoRow.holds Tryd.pinned (OpenSpec.upto astModulesSpec)

/-- 'filigreelaw03.AstNames', WHERE WHAT IT READS IS OF BULK AT MOST 1048576: true; the input reads as it did. -/
def astNamesUptoRow : OpenClaim := { program := "ytmpoheemnjpoeaadoor", sum := "9ab3b8a03ab32514ae38a4886fe72c82c500a23ff4b85d3a739e4d38d8ebc539", func := "filigree/filigreelaw03.AstNames", spec := "astNames", inPlace := ["internal/bytealg.IndexByteString", "internal/bytealg.IndexString"], unfollowed := true, recurses := true, named := ["filigree/ast.kinds", "internal/bytealg.MaxLen", "filigree/ast.shapes"], loops := true, apart := false, laid := [("filigree/ast.kinds", laid_filigree_ast_kinds), ("filigree/ast.shapes", laid_filigree_ast_shapes)], narrowed := true }
def AstNamesUptoSaid : Prop := astNamesUptoRow.holds Tryd.pinned (OpenSpec.upto astNamesSpec)

/-- 'filigreelaw03.AstBound', WHERE WHAT IT READS IS OF BULK AT MOST 1048576: true; the input reads as it did. -/
def astBoundUptoRow : OpenClaim := { program := "ytmpoheemnjpoeaadoor", sum := "9ab3b8a03ab32514ae38a4886fe72c82c500a23ff4b85d3a739e4d38d8ebc539", func := "filigree/filigreelaw03.AstBound", spec := "astBound", inPlace := ["internal/bytealg.IndexByteString", "internal/bytealg.IndexString"], unfollowed := true, recurses := true, named := ["filigree/ast.kinds", "internal/bytealg.MaxLen", "filigree/ast.shapes"], loops := true, apart := false, laid := [("filigree/ast.kinds", laid_filigree_ast_kinds), ("filigree/ast.shapes", laid_filigree_ast_shapes)], narrowed := true }
def AstBoundUptoSaid : Prop := astBoundUptoRow.holds Tryd.pinned (OpenSpec.upto astBoundSpec)

/-- 'filigreelaw03.AstEqual', WHERE WHAT IT READS IS OF BULK AT MOST 1048576: true; the input reads as it did. -/
def astEqualUptoRow : OpenClaim := { program := "ytmpoheemnjpoeaadoor", sum := "9ab3b8a03ab32514ae38a4886fe72c82c500a23ff4b85d3a739e4d38d8ebc539", func := "filigree/filigreelaw03.AstEqual", spec := "astEqual", inPlace := ["internal/bytealg.IndexByteString", "internal/bytealg.IndexString"], unfollowed := true, recurses := true, named := ["filigree/ast.kinds", "internal/bytealg.MaxLen", "filigree/ast.shapes"], loops := true, apart := false, laid := [("filigree/ast.kinds", laid_filigree_ast_kinds), ("filigree/ast.shapes", laid_filigree_ast_shapes)], narrowed := true }
def AstEqualUptoSaid : Prop := astEqualUptoRow.holds Tryd.pinned (OpenSpec.upto astEqualSpec)

end Rows
end Go.Proofs.YtmpoheemnjpoeaaDoor
