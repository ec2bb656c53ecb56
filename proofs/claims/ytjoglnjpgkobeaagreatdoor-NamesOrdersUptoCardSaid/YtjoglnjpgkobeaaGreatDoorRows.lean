/-
  NARROWER THAN 'FOR EVERY INPUT', by the rows' own cells (each row's printed sentence says how): NamesChecks: loops, laid · NamesFinds: loops, laid · NamesOrders: loops, laid · NamesFresh: loops, laid · NamesRing: loops, laid.
  DERIVED. THE GIVEN ROWS OF THIS SEAT. 5 by the template 'for every input the law returns true; each argument reads behind the call as it read before'; 0 by the template 'total and deterministic' (their statements: YtjoglnjpgkobeaaGreatDoorTotals.lean).
  GIVEN WITH THE SEED: the statements are not yours to turn. If you find one false, say at which input.
  Laid BY PROGRAM, IN A SANDBOX (cutbox-rows.mjs): the forced cells as the released guide's own fill.sh prints them over the translation d63b7c1ad94f99be… (all of the seat's roots in one cut). By AI agents, Wed Nov 11 2026. No macro, syntax, notation, axiom, sorry.
-/
import Derived.Test.YtjoglnjpgkobeaaGreatDoorChecked
import GoSem.Claim
import GoSem.ClaimJoined
import GoSem.ClaimMapViews
import Derived.JoinedTies
import Derived.KernelRfl
namespace Go.Proofs.YtjoglnjpgkobeaaGreatDoor
/- THE CELL 'sum', in the pinned program and in every row, IS THE sha256 OF THE DUMP (.gsa) THAT YtjoglnjpgkobeaaGreatDoorProg.lean LOADS. Nothing in Lean hashes anything: it is a label: what it is worth is what the hold of that sum in a sandbox is worth. -/
noncomputable def Tryz.pinned : Pinned := { name := "ytjoglnjpgkobeaagreatdoor", sum := "d63b7c1ad94f99be90e77de875ab4c507e32a00a7f044f1a9d5b06b62c352ca8", checked := Tryz.checked }
namespace Rows
def none {H : Type} : Left H := { results := [], args := [] }

/- WHAT THE LISTED PACKAGE-LEVEL VARIABLES READ AS WHEN THE CALL BEGINS. Each datum BY PROGRAM (the guide's laid-datum.mjs) off the statement by which the dump's own 'gosem.cut.vars' lays the variable. In a bare row this is a premise. The card (YtjoglnjpgkobeaaGreatDoorCards.lean) ties it to the program's text. -/
def laid_filigree_ast_kinds {H : Type} : DataW H := .agg [.agg [.lit (.bool false), .lit (.int .i64 0), .lit (.int .i64 0), .lit (.int .i64 0), .lit (.int .i64 0)], .agg [.lit (.bool false), .lit (.int .i64 0), .lit (.int .i64 0), .lit (.int .i64 0), .lit (.int .i64 0)], .agg [.lit (.bool true), .lit (.int .i64 0), .lit (.int .i64 0), .lit (.int .i64 0), .lit (.int .i64 0)], .agg [.lit (.bool true), .lit (.int .i64 2), .lit (.int .i64 2), .lit (.int .i64 0), .lit (.int .i64 0)], .agg [.lit (.bool true), .lit (.int .i64 1), .lit (.int .i64 1), .lit (.int .i64 0), .lit (.int .i64 0)], .agg [.lit (.bool false), .lit (.int .i64 1), .lit (.int .i64 1), .lit (.int .i64 1), .lit (.int .i64 6)], .agg [.lit (.bool false), .lit (.int .i64 2), .lit (.int .i64 2), .lit (.int .i64 11), .lit (.int .i64 26)], .agg [.lit (.bool false), .lit (.int .i64 3), .lit (.int .i64 3), .lit (.int .i64 0), .lit (.int .i64 0)], .agg [.lit (.bool false), .lit (.int .i64 1), .lit (.int .i64 65536), .lit (.int .i64 0), .lit (.int .i64 0)], .agg [.lit (.bool false), .lit (.int .i64 2), .lit (.int .i64 2), .lit (.int .i64 0), .lit (.int .i64 0)], .agg [.lit (.bool false), .lit (.int .i64 2), .lit (.int .i64 2), .lit (.int .i64 31), .lit (.int .i64 33)]]
def laid_filigree_ast_shapes {H : Type} : DataW H := .agg [.agg [.lit (.bool false), .lit (.bool false), .lit (.int .i64 0), .lit (.bool false), .lit (.bool false), .lit (.bool false), .lit (.bool false)], .agg [.lit (.bool true), .lit (.bool false), .lit (.int .i64 1), .lit (.bool false), .lit (.bool false), .lit (.bool false), .lit (.bool false)], .agg [.lit (.bool true), .lit (.bool false), .lit (.int .i64 1), .lit (.bool false), .lit (.bool false), .lit (.bool false), .lit (.bool false)], .agg [.lit (.bool true), .lit (.bool false), .lit (.int .i64 2), .lit (.bool false), .lit (.bool false), .lit (.bool false), .lit (.bool false)], .agg [.lit (.bool false), .lit (.bool false), .lit (.int .i64 2), .lit (.bool false), .lit (.bool false), .lit (.bool false), .lit (.bool false)], .agg [.lit (.bool false), .lit (.bool false), .lit (.int .i64 0), .lit (.bool true), .lit (.bool false), .lit (.bool false), .lit (.bool false)], .agg [.lit (.bool false), .lit (.bool false), .lit (.int .i64 0), .lit (.bool true), .lit (.bool false), .lit (.bool false), .lit (.bool false)], .agg [.lit (.bool true), .lit (.bool true), .lit (.int .i64 0), .lit (.bool false), .lit (.bool false), .lit (.bool false), .lit (.bool true)], .agg [.lit (.bool false), .lit (.bool false), .lit (.int .i64 1), .lit (.bool false), .lit (.bool true), .lit (.bool true), .lit (.bool false)], .agg [.lit (.bool true), .lit (.bool true), .lit (.int .i64 2), .lit (.bool false), .lit (.bool true), .lit (.bool false), .lit (.bool false)], .agg [.lit (.bool true), .lit (.bool false), .lit (.int .i64 1), .lit (.bool false), .lit (.bool false), .lit (.bool false), .lit (.bool false)]]

/-- 'filigreelaw07.NamesChecks': WHATEVER THE INPUT: true; the input reads as it did. -/
def namesChecksSpec : ChangeSpec := { name := "namesChecks", fn := fun _ => fun
  | [d] => { results := [.lit (.bool true)], args := [d] }
  | _ => none }
def namesChecksRow : OpenClaim := { program := "ytjoglnjpgkobeaagreatdoor", sum := "d63b7c1ad94f99be90e77de875ab4c507e32a00a7f044f1a9d5b06b62c352ca8", func := "filigree/filigreelaw07.NamesChecks", spec := "namesChecks", inPlace := ["internal/bytealg.IndexByteString", "internal/bytealg.IndexString"], unfollowed := true, recurses := true, named := ["internal/bytealg.MaxLen", "filigree/ast.kinds", "filigree/ast.shapes"], loops := true, apart := false, laid := [("filigree/ast.kinds", laid_filigree_ast_kinds), ("filigree/ast.shapes", laid_filigree_ast_shapes)] }
def NamesChecksSaid : Prop := namesChecksRow.holds Tryz.pinned (OpenSpec.ofChange namesChecksSpec)

/-- ITS FALSE NEIGHBOUR: 'it returns false'. Refute it at one input. -/
def namesChecksWrong : ChangeSpec := { name := "namesChecks", fn := fun _ => fun
  | [d] => { results := [.lit (.bool false)], args := [d] }
  | _ => none }
def NamesChecksWrongFalsely : Prop := namesChecksRow.holds Tryz.pinned (OpenSpec.ofChange namesChecksWrong)

/-- 'filigreelaw07.NamesFinds': WHATEVER THE INPUT: true; the input reads as it did. -/
def namesFindsSpec : ChangeSpec := { name := "namesFinds", fn := fun _ => fun
  | [d1, d2, d3] => { results := [.lit (.bool true)], args := [d1, d2, d3] }
  | _ => none }
def namesFindsRow : OpenClaim := { program := "ytjoglnjpgkobeaagreatdoor", sum := "d63b7c1ad94f99be90e77de875ab4c507e32a00a7f044f1a9d5b06b62c352ca8", func := "filigree/filigreelaw07.NamesFinds", spec := "namesFinds", inPlace := ["internal/bytealg.IndexByteString", "internal/bytealg.IndexString"], unfollowed := true, recurses := true, named := ["internal/bytealg.MaxLen", "filigree/ast.kinds", "filigree/ast.shapes"], loops := true, apart := false, laid := [("filigree/ast.kinds", laid_filigree_ast_kinds), ("filigree/ast.shapes", laid_filigree_ast_shapes)] }
def NamesFindsSaid : Prop := namesFindsRow.holds Tryz.pinned (OpenSpec.ofChange namesFindsSpec)

/-- ITS FALSE NEIGHBOUR: 'it returns false'. Refute it at one input. -/
def namesFindsWrong : ChangeSpec := { name := "namesFinds", fn := fun _ => fun
  | [d1, d2, d3] => { results := [.lit (.bool false)], args := [d1, d2, d3] }
  | _ => none }
def NamesFindsWrongFalsely : Prop := namesFindsRow.holds Tryz.pinned (OpenSpec.ofChange namesFindsWrong)

/-- 'filigreelaw07.NamesOrders': WHATEVER THE INPUT: true; the input reads as it did. -/
def namesOrdersSpec : ChangeSpec := { name := "namesOrders", fn := fun _ => fun
  | [d1, d2] => { results := [.lit (.bool true)], args := [d1, d2] }
  | _ => none }
def namesOrdersRow : OpenClaim := { program := "ytjoglnjpgkobeaagreatdoor", sum := "d63b7c1ad94f99be90e77de875ab4c507e32a00a7f044f1a9d5b06b62c352ca8", func := "filigree/filigreelaw07.NamesOrders", spec := "namesOrders", inPlace := ["internal/bytealg.IndexByteString", "internal/bytealg.IndexString"], unfollowed := true, recurses := true, named := ["internal/bytealg.MaxLen", "filigree/ast.kinds", "filigree/ast.shapes"], loops := true, apart := false, laid := [("filigree/ast.kinds", laid_filigree_ast_kinds), ("filigree/ast.shapes", laid_filigree_ast_shapes)] }
def NamesOrdersSaid : Prop := namesOrdersRow.holds Tryz.pinned (OpenSpec.ofChange namesOrdersSpec)

/-- ITS FALSE NEIGHBOUR: 'it returns false'. Refute it at one input. -/
def namesOrdersWrong : ChangeSpec := { name := "namesOrders", fn := fun _ => fun
  | [d1, d2] => { results := [.lit (.bool false)], args := [d1, d2] }
  | _ => none }
def NamesOrdersWrongFalsely : Prop := namesOrdersRow.holds Tryz.pinned (OpenSpec.ofChange namesOrdersWrong)

/-- 'filigreelaw07.NamesFresh': WHATEVER THE INPUT: true; the input reads as it did. -/
def namesFreshSpec : ChangeSpec := { name := "namesFresh", fn := fun _ => fun
  | [d1, d2, d3] => { results := [.lit (.bool true)], args := [d1, d2, d3] }
  | _ => none }
def namesFreshRow : OpenClaim := { program := "ytjoglnjpgkobeaagreatdoor", sum := "d63b7c1ad94f99be90e77de875ab4c507e32a00a7f044f1a9d5b06b62c352ca8", func := "filigree/filigreelaw07.NamesFresh", spec := "namesFresh", inPlace := ["internal/bytealg.IndexByteString", "internal/bytealg.IndexString"], unfollowed := true, recurses := true, named := ["internal/bytealg.MaxLen", "filigree/ast.kinds", "filigree/ast.shapes"], loops := true, apart := false, laid := [("filigree/ast.kinds", laid_filigree_ast_kinds), ("filigree/ast.shapes", laid_filigree_ast_shapes)] }
def NamesFreshSaid : Prop := namesFreshRow.holds Tryz.pinned (OpenSpec.ofChange namesFreshSpec)

/-- ITS FALSE NEIGHBOUR: 'it returns false'. Refute it at one input. -/
def namesFreshWrong : ChangeSpec := { name := "namesFresh", fn := fun _ => fun
  | [d1, d2, d3] => { results := [.lit (.bool false)], args := [d1, d2, d3] }
  | _ => none }
def NamesFreshWrongFalsely : Prop := namesFreshRow.holds Tryz.pinned (OpenSpec.ofChange namesFreshWrong)

/-- 'filigreelaw07.NamesRing': WHATEVER THE INPUT: true; the input reads as it did. -/
def namesRingSpec : ChangeSpec := { name := "namesRing", fn := fun _ => fun
  | [d1, d2, d3, d4] => { results := [.lit (.bool true)], args := [d1, d2, d3, d4] }
  | _ => none }
def namesRingRow : OpenClaim := { program := "ytjoglnjpgkobeaagreatdoor", sum := "d63b7c1ad94f99be90e77de875ab4c507e32a00a7f044f1a9d5b06b62c352ca8", func := "filigree/filigreelaw07.NamesRing", spec := "namesRing", inPlace := ["internal/bytealg.IndexByteString", "internal/bytealg.IndexString"], unfollowed := true, recurses := true, named := ["internal/bytealg.MaxLen", "filigree/ast.kinds", "filigree/ast.shapes"], loops := true, apart := false, laid := [("filigree/ast.kinds", laid_filigree_ast_kinds), ("filigree/ast.shapes", laid_filigree_ast_shapes)] }
def NamesRingSaid : Prop := namesRingRow.holds Tryz.pinned (OpenSpec.ofChange namesRingSpec)

/-- ITS FALSE NEIGHBOUR: 'it returns false'. Refute it at one input. -/
def namesRingWrong : ChangeSpec := { name := "namesRing", fn := fun _ => fun
  | [d1, d2, d3, d4] => { results := [.lit (.bool false)], args := [d1, d2, d3, d4] }
  | _ => none }
def NamesRingWrongFalsely : Prop := namesRingRow.holds Tryz.pinned (OpenSpec.ofChange namesRingWrong)

/- THE SECOND FORM. 'bulk': how many values and letters a reading holds, each counted each time it is reached (what is shared counts as often as it is met; a slice's spare places count too). A statement '..UptoSaid' is the law's where the arguments, and the package variables that the reading takes, are together of bulk at most 1048576: NARROWER than '..Said'. Prove '..Said' where nothing that the law and all that it calls make is longer than what came in: it says more and counts as full. Else prove '..UptoSaid'. A law counts once. -/
mutual
def uptoBulk {H : Type} : DataW H → Nat
  | .lit (.string bytes) => bytes.length + 1
  | .lit _ => 1
  | .nil => 1
  | .ptr d => uptoBulk d + 1
  | .slice elems spare => uptoBulkAll elems + uptoBulkAll spare + 1
  | .agg parts => uptoBulkAll parts + 1
  | .iface _ d => uptoBulk d + 1
  | .map entries => uptoBulkEntries entries + 1
  | .held _ => 1
def uptoBulkAll {H : Type} : List (DataW H) → Nat
  | [] => 0
  | d :: r => uptoBulk d + uptoBulkAll r
def uptoBulkEntries {H : Type} : List (Lit × DataW H) → Nat
  | [] => 0
  | x :: r => uptoBulkEntry x + uptoBulkEntries r
def uptoBulkEntry {H : Type} : Lit × DataW H → Nat
  | (.string bytes, d) => bytes.length + uptoBulk d + 1
  | (_, d) => uptoBulk d + 1
 end
def uptoSmall : (H : Type) → List (DataW H) → Bool := fun _ ds => decide (uptoBulkAll ds ≤ 1048576)
def OpenSpec.upto (s : _root_.Go.ChangeSpec) : _root_.Go.OpenSpec := { _root_.Go.OpenSpec.ofChange s with cond := some uptoSmall }

/-- 'filigreelaw07.NamesChecks', WHERE WHAT IT READS IS OF BULK AT MOST 1048576: true; the input reads as it did. -/
def namesChecksUptoRow : OpenClaim := { program := "ytjoglnjpgkobeaagreatdoor", sum := "d63b7c1ad94f99be90e77de875ab4c507e32a00a7f044f1a9d5b06b62c352ca8", func := "filigree/filigreelaw07.NamesChecks", spec := "namesChecks", inPlace := ["internal/bytealg.IndexByteString", "internal/bytealg.IndexString"], unfollowed := true, recurses := true, named := ["internal/bytealg.MaxLen", "filigree/ast.kinds", "filigree/ast.shapes"], loops := true, apart := false, laid := [("filigree/ast.kinds", laid_filigree_ast_kinds), ("filigree/ast.shapes", laid_filigree_ast_shapes)], narrowed := true }
def NamesChecksUptoSaid : Prop := namesChecksUptoRow.holds Tryz.pinned (OpenSpec.upto namesChecksSpec)

/-- 'filigreelaw07.NamesFinds', WHERE WHAT IT READS IS OF BULK AT MOST 1048576: true; the input reads as it did. -/
def namesFindsUptoRow : OpenClaim := { program := "ytjoglnjpgkobeaagreatdoor", sum := "d63b7c1ad94f99be90e77de875ab4c507e32a00a7f044f1a9d5b06b62c352ca8", func := "filigree/filigreelaw07.NamesFinds", spec := "namesFinds", inPlace := ["internal/bytealg.IndexByteString", "internal/bytealg.IndexString"], unfollowed := true, recurses := true, named := ["internal/bytealg.MaxLen", "filigree/ast.kinds", "filigree/ast.shapes"], loops := true, apart := false, laid := [("filigree/ast.kinds", laid_filigree_ast_kinds), ("filigree/ast.shapes", laid_filigree_ast_shapes)], narrowed := true }
def NamesFindsUptoSaid : Prop := namesFindsUptoRow.holds Tryz.pinned (OpenSpec.upto namesFindsSpec)

/-- 'filigreelaw07.NamesOrders', WHERE WHAT IT READS IS OF BULK AT MOST 1048576: true; the input reads as it did. -/
def namesOrdersUptoRow : OpenClaim := { program := "ytjoglnjpgkobeaagreatdoor", sum := "d63b7c1ad94f99be90e77de875ab4c507e32a00a7f044f1a9d5b06b62c352ca8", func := "filigree/filigreelaw07.NamesOrders", spec := "namesOrders", inPlace := ["internal/bytealg.IndexByteString", "internal/bytealg.IndexString"], unfollowed := true, recurses := true, named := ["internal/bytealg.MaxLen", "filigree/ast.kinds", "filigree/ast.shapes"], loops := true, apart := false, laid := [("filigree/ast.kinds", laid_filigree_ast_kinds), ("filigree/ast.shapes", laid_filigree_ast_shapes)], narrowed := true }
def NamesOrdersUptoSaid : Prop := namesOrdersUptoRow.holds Tryz.pinned (OpenSpec.upto namesOrdersSpec)

/-- 'filigreelaw07.NamesFresh', WHERE WHAT IT READS IS OF BULK AT MOST 1048576: true; the input reads as it did. -/
def namesFreshUptoRow : OpenClaim := { program := "ytjoglnjpgkobeaagreatdoor", sum := "d63b7c1ad94f99be90e77de875ab4c507e32a00a7f044f1a9d5b06b62c352ca8", func := "filigree/filigreelaw07.NamesFresh", spec := "namesFresh", inPlace := ["internal/bytealg.IndexByteString", "internal/bytealg.IndexString"], unfollowed := true, recurses := true, named := ["internal/bytealg.MaxLen", "filigree/ast.kinds", "filigree/ast.shapes"], loops := true, apart := false, laid := [("filigree/ast.kinds", laid_filigree_ast_kinds), ("filigree/ast.shapes", laid_filigree_ast_shapes)], narrowed := true }
def NamesFreshUptoSaid : Prop := namesFreshUptoRow.holds Tryz.pinned (OpenSpec.upto namesFreshSpec)

/-- 'filigreelaw07.NamesRing', WHERE WHAT IT READS IS OF BULK AT MOST 1048576: true; the input reads as it did. -/
def namesRingUptoRow : OpenClaim := { program := "ytjoglnjpgkobeaagreatdoor", sum := "d63b7c1ad94f99be90e77de875ab4c507e32a00a7f044f1a9d5b06b62c352ca8", func := "filigree/filigreelaw07.NamesRing", spec := "namesRing", inPlace := ["internal/bytealg.IndexByteString", "internal/bytealg.IndexString"], unfollowed := true, recurses := true, named := ["internal/bytealg.MaxLen", "filigree/ast.kinds", "filigree/ast.shapes"], loops := true, apart := false, laid := [("filigree/ast.kinds", laid_filigree_ast_kinds), ("filigree/ast.shapes", laid_filigree_ast_shapes)], narrowed := true }
def NamesRingUptoSaid : Prop := namesRingUptoRow.holds Tryz.pinned (OpenSpec.upto namesRingSpec)

end Rows
end Go.Proofs.YtjoglnjpgkobeaaGreatDoor
