/-
  NARROWER THAN 'FOR EVERY INPUT', by the rows' own cells (each row's printed sentence says how): KonstEval: loops, laid · KonstPlaces: loops, laid · KonstSums: laid · KonstTurns: laid · KonstLogic: loops, laid · KonstChoice: loops, laid · KonstBounds: loops, laid · KonstSubst: loops, laid · KonstFree: loops, laid.
  DERIVED. THE GIVEN ROWS OF THIS SEAT. 9 by the template 'for every input the law returns true; each argument reads behind the call as it read before'; 0 by the template 'total and deterministic' (their statements: YtonbgnaopkopoaaDoorTotals.lean).
  GIVEN WITH THE SEED: the statements are not yours to turn. If you find one false, say at which input.
  Laid BY PROGRAM, IN A SANDBOX (cutbox-rows.mjs): the forced cells as the released guide's own fill.sh prints them over the translation 48cd055eecd3924c… (all of the seat's roots in one cut). By AI agents, Wed Nov 11 2026. No macro, syntax, notation, axiom, sorry.
-/
import Derived.Test.YtonbgnaopkopoaaDoorChecked
import GoSem.Claim
import GoSem.ClaimJoined
import GoSem.ClaimMapViews
import Derived.JoinedTies
import Derived.KernelRfl
namespace Go.Proofs.YtonbgnaopkopoaaDoor
/- THE CELL 'sum', in the pinned program and in every row, IS THE sha256 OF THE DUMP (.gsa) THAT YtonbgnaopkopoaaDoorProg.lean LOADS. Nothing in Lean hashes anything: it is a label: what it is worth is what the hold of that sum in a sandbox is worth. -/
noncomputable def Tryd.pinned : Pinned := { name := "ytonbgnaopkopoaadoor", sum := "48cd055eecd3924c481001f67a03170a0aeebe2f187aa44553502e6e142bb281", checked := Tryd.checked }
namespace Rows
def none {H : Type} : Left H := { results := [], args := [] }

/- WHAT THE LISTED PACKAGE-LEVEL VARIABLES READ AS WHEN THE CALL BEGINS. Each datum BY PROGRAM (the guide's laid-datum.mjs) off the statement by which the dump's own 'gosem.cut.vars' lays the variable. In a bare row this is a premise. The card (YtonbgnaopkopoaaDoorCards.lean) ties it to the program's text. -/
def laid_filigree_ast_kinds {H : Type} : DataW H := .agg [.agg [.lit (.bool false), .lit (.int .i64 0), .lit (.int .i64 0), .lit (.int .i64 0), .lit (.int .i64 0)], .agg [.lit (.bool false), .lit (.int .i64 0), .lit (.int .i64 0), .lit (.int .i64 0), .lit (.int .i64 0)], .agg [.lit (.bool true), .lit (.int .i64 0), .lit (.int .i64 0), .lit (.int .i64 0), .lit (.int .i64 0)], .agg [.lit (.bool true), .lit (.int .i64 2), .lit (.int .i64 2), .lit (.int .i64 0), .lit (.int .i64 0)], .agg [.lit (.bool true), .lit (.int .i64 1), .lit (.int .i64 1), .lit (.int .i64 0), .lit (.int .i64 0)], .agg [.lit (.bool false), .lit (.int .i64 1), .lit (.int .i64 1), .lit (.int .i64 1), .lit (.int .i64 6)], .agg [.lit (.bool false), .lit (.int .i64 2), .lit (.int .i64 2), .lit (.int .i64 11), .lit (.int .i64 26)], .agg [.lit (.bool false), .lit (.int .i64 3), .lit (.int .i64 3), .lit (.int .i64 0), .lit (.int .i64 0)], .agg [.lit (.bool false), .lit (.int .i64 1), .lit (.int .i64 65536), .lit (.int .i64 0), .lit (.int .i64 0)], .agg [.lit (.bool false), .lit (.int .i64 2), .lit (.int .i64 2), .lit (.int .i64 0), .lit (.int .i64 0)], .agg [.lit (.bool false), .lit (.int .i64 2), .lit (.int .i64 2), .lit (.int .i64 31), .lit (.int .i64 33)]]

/-- 'filigreelaw06.KonstEval': WHATEVER THE INPUT: true; the input reads as it did. -/
def konstEvalSpec : ChangeSpec := { name := "konstEval", fn := fun _ => fun
  | [d1, d2, d3] => { results := [.lit (.bool true)], args := [d1, d2, d3] }
  | _ => none }
def konstEvalRow : OpenClaim := { program := "ytonbgnaopkopoaadoor", sum := "48cd055eecd3924c481001f67a03170a0aeebe2f187aa44553502e6e142bb281", func := "filigree/filigreelaw06.KonstEval", spec := "konstEval", inPlace := ["internal/bytealg.IndexByteString", "internal/bytealg.IndexString"], unfollowed := true, recurses := true, named := ["filigree/ast.kinds", "internal/bytealg.MaxLen"], loops := true, apart := false, laid := [("filigree/ast.kinds", laid_filigree_ast_kinds)] }
def KonstEvalSaid : Prop := konstEvalRow.holds Tryd.pinned (OpenSpec.ofChange konstEvalSpec)

/-- ITS FALSE NEIGHBOUR: 'it returns false'. Refute it at one input. -/
def konstEvalWrong : ChangeSpec := { name := "konstEval", fn := fun _ => fun
  | [d1, d2, d3] => { results := [.lit (.bool false)], args := [d1, d2, d3] }
  | _ => none }
def KonstEvalWrongFalsely : Prop := konstEvalRow.holds Tryd.pinned (OpenSpec.ofChange konstEvalWrong)

/-- 'filigreelaw06.KonstPlaces': WHATEVER THE INPUT: true; the input reads as it did. -/
def konstPlacesSpec : ChangeSpec := { name := "konstPlaces", fn := fun _ => fun
  | [d1, d2] => { results := [.lit (.bool true)], args := [d1, d2] }
  | _ => none }
def konstPlacesRow : OpenClaim := { program := "ytonbgnaopkopoaadoor", sum := "48cd055eecd3924c481001f67a03170a0aeebe2f187aa44553502e6e142bb281", func := "filigree/filigreelaw06.KonstPlaces", spec := "konstPlaces", inPlace := ["internal/bytealg.IndexByteString", "internal/bytealg.IndexString"], unfollowed := true, recurses := true, named := ["filigree/ast.kinds", "internal/bytealg.MaxLen"], loops := true, apart := false, laid := [("filigree/ast.kinds", laid_filigree_ast_kinds)] }
def KonstPlacesSaid : Prop := konstPlacesRow.holds Tryd.pinned (OpenSpec.ofChange konstPlacesSpec)

/-- ITS FALSE NEIGHBOUR: 'it returns false'. Refute it at one input. -/
def konstPlacesWrong : ChangeSpec := { name := "konstPlaces", fn := fun _ => fun
  | [d1, d2] => { results := [.lit (.bool false)], args := [d1, d2] }
  | _ => none }
def KonstPlacesWrongFalsely : Prop := konstPlacesRow.holds Tryd.pinned (OpenSpec.ofChange konstPlacesWrong)

/-- 'filigreelaw06.KonstSums': WHATEVER THE INPUT: true; the input reads as it did. -/
def konstSumsSpec : ChangeSpec := { name := "konstSums", fn := fun _ => fun
  | [d1, d2] => { results := [.lit (.bool true)], args := [d1, d2] }
  | _ => none }
def konstSumsRow : OpenClaim := { program := "ytonbgnaopkopoaadoor", sum := "48cd055eecd3924c481001f67a03170a0aeebe2f187aa44553502e6e142bb281", func := "filigree/filigreelaw06.KonstSums", spec := "konstSums", inPlace := ["internal/bytealg.IndexByteString", "internal/bytealg.IndexString"], unfollowed := true, recurses := true, named := ["filigree/ast.kinds", "internal/bytealg.MaxLen"], apart := false, laid := [("filigree/ast.kinds", laid_filigree_ast_kinds)] }
def KonstSumsSaid : Prop := konstSumsRow.holds Tryd.pinned (OpenSpec.ofChange konstSumsSpec)

/-- ITS FALSE NEIGHBOUR: 'it returns false'. Refute it at one input. -/
def konstSumsWrong : ChangeSpec := { name := "konstSums", fn := fun _ => fun
  | [d1, d2] => { results := [.lit (.bool false)], args := [d1, d2] }
  | _ => none }
def KonstSumsWrongFalsely : Prop := konstSumsRow.holds Tryd.pinned (OpenSpec.ofChange konstSumsWrong)

/-- 'filigreelaw06.KonstTurns': WHATEVER THE INPUT: true; the input reads as it did. -/
def konstTurnsSpec : ChangeSpec := { name := "konstTurns", fn := fun _ => fun
  | [d1, d2] => { results := [.lit (.bool true)], args := [d1, d2] }
  | _ => none }
def konstTurnsRow : OpenClaim := { program := "ytonbgnaopkopoaadoor", sum := "48cd055eecd3924c481001f67a03170a0aeebe2f187aa44553502e6e142bb281", func := "filigree/filigreelaw06.KonstTurns", spec := "konstTurns", inPlace := ["internal/bytealg.IndexByteString", "internal/bytealg.IndexString"], unfollowed := true, recurses := true, named := ["filigree/ast.kinds", "internal/bytealg.MaxLen"], apart := false, laid := [("filigree/ast.kinds", laid_filigree_ast_kinds)] }
def KonstTurnsSaid : Prop := konstTurnsRow.holds Tryd.pinned (OpenSpec.ofChange konstTurnsSpec)

/-- ITS FALSE NEIGHBOUR: 'it returns false'. Refute it at one input. -/
def konstTurnsWrong : ChangeSpec := { name := "konstTurns", fn := fun _ => fun
  | [d1, d2] => { results := [.lit (.bool false)], args := [d1, d2] }
  | _ => none }
def KonstTurnsWrongFalsely : Prop := konstTurnsRow.holds Tryd.pinned (OpenSpec.ofChange konstTurnsWrong)

/-- 'filigreelaw06.KonstLogic': WHATEVER THE INPUT: true; the input reads as it did. -/
def konstLogicSpec : ChangeSpec := { name := "konstLogic", fn := fun _ => fun
  | [d1, d2, d3] => { results := [.lit (.bool true)], args := [d1, d2, d3] }
  | _ => none }
def konstLogicRow : OpenClaim := { program := "ytonbgnaopkopoaadoor", sum := "48cd055eecd3924c481001f67a03170a0aeebe2f187aa44553502e6e142bb281", func := "filigree/filigreelaw06.KonstLogic", spec := "konstLogic", inPlace := ["internal/bytealg.IndexByteString", "internal/bytealg.IndexString"], unfollowed := true, recurses := true, named := ["filigree/ast.kinds", "internal/bytealg.MaxLen"], loops := true, apart := false, laid := [("filigree/ast.kinds", laid_filigree_ast_kinds)] }
def KonstLogicSaid : Prop := konstLogicRow.holds Tryd.pinned (OpenSpec.ofChange konstLogicSpec)

/-- ITS FALSE NEIGHBOUR: 'it returns false'. Refute it at one input. -/
def konstLogicWrong : ChangeSpec := { name := "konstLogic", fn := fun _ => fun
  | [d1, d2, d3] => { results := [.lit (.bool false)], args := [d1, d2, d3] }
  | _ => none }
def KonstLogicWrongFalsely : Prop := konstLogicRow.holds Tryd.pinned (OpenSpec.ofChange konstLogicWrong)

/-- 'filigreelaw06.KonstChoice': WHATEVER THE INPUT: true; the input reads as it did. -/
def konstChoiceSpec : ChangeSpec := { name := "konstChoice", fn := fun _ => fun
  | [d1, d2, d3, d4] => { results := [.lit (.bool true)], args := [d1, d2, d3, d4] }
  | _ => none }
def konstChoiceRow : OpenClaim := { program := "ytonbgnaopkopoaadoor", sum := "48cd055eecd3924c481001f67a03170a0aeebe2f187aa44553502e6e142bb281", func := "filigree/filigreelaw06.KonstChoice", spec := "konstChoice", inPlace := ["internal/bytealg.IndexByteString", "internal/bytealg.IndexString"], unfollowed := true, recurses := true, named := ["filigree/ast.kinds", "internal/bytealg.MaxLen"], loops := true, apart := false, laid := [("filigree/ast.kinds", laid_filigree_ast_kinds)] }
def KonstChoiceSaid : Prop := konstChoiceRow.holds Tryd.pinned (OpenSpec.ofChange konstChoiceSpec)

/-- ITS FALSE NEIGHBOUR: 'it returns false'. Refute it at one input. -/
def konstChoiceWrong : ChangeSpec := { name := "konstChoice", fn := fun _ => fun
  | [d1, d2, d3, d4] => { results := [.lit (.bool false)], args := [d1, d2, d3, d4] }
  | _ => none }
def KonstChoiceWrongFalsely : Prop := konstChoiceRow.holds Tryd.pinned (OpenSpec.ofChange konstChoiceWrong)

/-- 'filigreelaw06.KonstBounds': WHATEVER THE INPUT: true; the input reads as it did. -/
def konstBoundsSpec : ChangeSpec := { name := "konstBounds", fn := fun _ => fun
  | [d1, d2] => { results := [.lit (.bool true)], args := [d1, d2] }
  | _ => none }
def konstBoundsRow : OpenClaim := { program := "ytonbgnaopkopoaadoor", sum := "48cd055eecd3924c481001f67a03170a0aeebe2f187aa44553502e6e142bb281", func := "filigree/filigreelaw06.KonstBounds", spec := "konstBounds", inPlace := ["internal/bytealg.IndexByteString", "internal/bytealg.IndexString"], unfollowed := true, recurses := true, named := ["filigree/ast.kinds", "internal/bytealg.MaxLen"], loops := true, apart := false, laid := [("filigree/ast.kinds", laid_filigree_ast_kinds)] }
def KonstBoundsSaid : Prop := konstBoundsRow.holds Tryd.pinned (OpenSpec.ofChange konstBoundsSpec)

/-- ITS FALSE NEIGHBOUR: 'it returns false'. Refute it at one input. -/
def konstBoundsWrong : ChangeSpec := { name := "konstBounds", fn := fun _ => fun
  | [d1, d2] => { results := [.lit (.bool false)], args := [d1, d2] }
  | _ => none }
def KonstBoundsWrongFalsely : Prop := konstBoundsRow.holds Tryd.pinned (OpenSpec.ofChange konstBoundsWrong)

/-- 'filigreelaw06.KonstSubst': WHATEVER THE INPUT: true; the input reads as it did. -/
def konstSubstSpec : ChangeSpec := { name := "konstSubst", fn := fun _ => fun
  | [d1, d2] => { results := [.lit (.bool true)], args := [d1, d2] }
  | _ => none }
def konstSubstRow : OpenClaim := { program := "ytonbgnaopkopoaadoor", sum := "48cd055eecd3924c481001f67a03170a0aeebe2f187aa44553502e6e142bb281", func := "filigree/filigreelaw06.KonstSubst", spec := "konstSubst", inPlace := ["internal/bytealg.IndexByteString", "internal/bytealg.IndexString"], unfollowed := true, recurses := true, named := ["filigree/ast.kinds", "internal/bytealg.MaxLen"], loops := true, apart := false, laid := [("filigree/ast.kinds", laid_filigree_ast_kinds)] }
def KonstSubstSaid : Prop := konstSubstRow.holds Tryd.pinned (OpenSpec.ofChange konstSubstSpec)

/-- ITS FALSE NEIGHBOUR: 'it returns false'. Refute it at one input. -/
def konstSubstWrong : ChangeSpec := { name := "konstSubst", fn := fun _ => fun
  | [d1, d2] => { results := [.lit (.bool false)], args := [d1, d2] }
  | _ => none }
def KonstSubstWrongFalsely : Prop := konstSubstRow.holds Tryd.pinned (OpenSpec.ofChange konstSubstWrong)

/-- 'filigreelaw06.KonstFree': WHATEVER THE INPUT: true; the input reads as it did. -/
def konstFreeSpec : ChangeSpec := { name := "konstFree", fn := fun _ => fun
  | [d1, d2, d3, d4] => { results := [.lit (.bool true)], args := [d1, d2, d3, d4] }
  | _ => none }
def konstFreeRow : OpenClaim := { program := "ytonbgnaopkopoaadoor", sum := "48cd055eecd3924c481001f67a03170a0aeebe2f187aa44553502e6e142bb281", func := "filigree/filigreelaw06.KonstFree", spec := "konstFree", inPlace := ["internal/bytealg.IndexByteString", "internal/bytealg.IndexString"], unfollowed := true, recurses := true, named := ["filigree/ast.kinds", "internal/bytealg.MaxLen"], loops := true, apart := false, laid := [("filigree/ast.kinds", laid_filigree_ast_kinds)] }
def KonstFreeSaid : Prop := konstFreeRow.holds Tryd.pinned (OpenSpec.ofChange konstFreeSpec)

/-- ITS FALSE NEIGHBOUR: 'it returns false'. Refute it at one input. -/
def konstFreeWrong : ChangeSpec := { name := "konstFree", fn := fun _ => fun
  | [d1, d2, d3, d4] => { results := [.lit (.bool false)], args := [d1, d2, d3, d4] }
  | _ => none }
def KonstFreeWrongFalsely : Prop := konstFreeRow.holds Tryd.pinned (OpenSpec.ofChange konstFreeWrong)

/- THE SECOND FORM. 'bulk': how many values and letters a reading holds, each counted each time it is reached (what is shared counts as often as it is met; a slice's spare places count too). A statement '..UptoSaid' is the law's where the arguments, and the package variables that the reading takes, are together of bulk at most 1048576: NARROWER than '..Said'. Prove '..Said' where nothing that the law and all that it calls make is longer than what came in: it says more and counts as full. Else prove '..UptoSaid'. A law counts once. -/
mutual
def uptoBulk {H : Type} : DataW H → Nat
  | .lit (.string bytes) => bytes.length + 1
  | .lit _ => 1
  | .nil => 1
  | .ptr d => uptoBulk d + 1
  | .slice elems spare => uptoBulkAll elems + uptoBulkAll spare + 1
  | .agg parts => uptoBulkAll parts + 1
  | .iface _ d => uptoBulk d + 1
  | .map entries => uptoBulkEntries entries + 1
  | .held _ => 1
def uptoBulkAll {H : Type} : List (DataW H) → Nat
  | [] => 0
  | d :: r => uptoBulk d + uptoBulkAll r
def uptoBulkEntries {H : Type} : List (Lit × DataW H) → Nat
  | [] => 0
  | x :: r => uptoBulkEntry x + uptoBulkEntries r
def uptoBulkEntry {H : Type} : Lit × DataW H → Nat
  | (.string bytes, d) => bytes.length + uptoBulk d + 1
  | (_, d) => uptoBulk d + 1
 end
def uptoSmall : (H : Type) → List (DataW H) → Bool := fun _ ds => decide (uptoBulkAll ds ≤ 1048576)
def OpenSpec.upto (s : _root_.Go.ChangeSpec) : _root_.Go.OpenSpec := { _root_.Go.OpenSpec.ofChange s with cond := some uptoSmall }

/-- 'filigreelaw06.KonstEval', WHERE WHAT IT READS IS OF BULK AT MOST 1048576: true; the input reads as it did. -/
def konstEvalUptoRow : OpenClaim := { program := "ytonbgnaopkopoaadoor", sum := "48cd055eecd3924c481001f67a03170a0aeebe2f187aa44553502e6e142bb281", func := "filigree/filigreelaw06.KonstEval", spec := "konstEval", inPlace := ["internal/bytealg.IndexByteString", "internal/bytealg.IndexString"], unfollowed := true, recurses := true, named := ["filigree/ast.kinds", "internal/bytealg.MaxLen"], loops := true, apart := false, laid := [("filigree/ast.kinds", laid_filigree_ast_kinds)], narrowed := true }
def KonstEvalUptoSaid : Prop := konstEvalUptoRow.holds Tryd.pinned (OpenSpec.upto konstEvalSpec)

/-- 'filigreelaw06.KonstPlaces', WHERE WHAT IT READS IS OF BULK AT MOST 1048576: true; the input reads as it did. -/
def konstPlacesUptoRow : OpenClaim := { program := "ytonbgnaopkopoaadoor", sum := "48cd055eecd3924c481001f67a03170a0aeebe2f187aa44553502e6e142bb281", func := "filigree/filigreelaw06.KonstPlaces", spec := "konstPlaces", inPlace := ["internal/bytealg.IndexByteString", "internal/bytealg.IndexString"], unfollowed := true, recurses := true, named := ["filigree/ast.kinds", "internal/bytealg.MaxLen"], loops := true, apart := false, laid := [("filigree/ast.kinds", laid_filigree_ast_kinds)], narrowed := true }
def KonstPlacesUptoSaid : Prop := konstPlacesUptoRow.holds Tryd.pinned (OpenSpec.upto konstPlacesSpec)

/-- 'filigreelaw06.KonstSums', WHERE WHAT IT READS IS OF BULK AT MOST 1048576: true; the input reads as it did. -/
def konstSumsUptoRow : OpenClaim := { program := "ytonbgnaopkopoaadoor", sum := "48cd055eecd3924c481001f67a03170a0aeebe2f187aa44553502e6e142bb281", func := "filigree/filigreelaw06.KonstSums", spec := "konstSums", inPlace := ["internal/bytealg.IndexByteString", "internal/bytealg.IndexString"], unfollowed := true, recurses := true, named := ["filigree/ast.kinds", "internal/bytealg.MaxLen"], apart := false, laid := [("filigree/ast.kinds", laid_filigree_ast_kinds)], narrowed := true }
def KonstSumsUptoSaid : Prop := konstSumsUptoRow.holds Tryd.pinned (OpenSpec.upto konstSumsSpec)

/-- 'filigreelaw06.KonstTurns', WHERE WHAT IT READS IS OF BULK AT MOST 1048576: true; the input reads as it did. -/
def konstTurnsUptoRow : OpenClaim := { program := "ytonbgnaopkopoaadoor", sum := "48cd055eecd3924c481001f67a03170a0aeebe2f187aa44553502e6e142bb281", func := "filigree/filigreelaw06.KonstTurns", spec := "konstTurns", inPlace := ["internal/bytealg.IndexByteString", "internal/bytealg.IndexString"], unfollowed := true, recurses := true, named := ["filigree/ast.kinds", "internal/bytealg.MaxLen"], apart := false, laid := [("filigree/ast.kinds", laid_filigree_ast_kinds)], narrowed := true }
def KonstTurnsUptoSaid : Prop := konstTurnsUptoRow.holds Tryd.pinned (OpenSpec.upto konstTurnsSpec)

/-- 'filigreelaw06.KonstLogic', WHERE WHAT IT READS IS OF BULK AT MOST 1048576: true; the input reads as it did. -/
def konstLogicUptoRow : OpenClaim := { program := "ytonbgnaopkopoaadoor", sum := "48cd055eecd3924c481001f67a03170a0aeebe2f187aa44553502e6e142bb281", func := "filigree/filigreelaw06.KonstLogic", spec := "konstLogic", inPlace := ["internal/bytealg.IndexByteString", "internal/bytealg.IndexString"], unfollowed := true, recurses := true, named := ["filigree/ast.kinds", "internal/bytealg.MaxLen"], loops := true, apart := false, laid := [("filigree/ast.kinds", laid_filigree_ast_kinds)], narrowed := true }
def KonstLogicUptoSaid : Prop := konstLogicUptoRow.holds Tryd.pinned (OpenSpec.upto konstLogicSpec)

/-- 'filigreelaw06.KonstChoice', WHERE WHAT IT READS IS OF BULK AT MOST 1048576: true; the input reads as it did. -/
def konstChoiceUptoRow : OpenClaim := { program := "ytonbgnaopkopoaadoor", sum := "48cd055eecd3924c481001f67a03170a0aeebe2f187aa44553502e6e142bb281", func := "filigree/filigreelaw06.KonstChoice", spec := "konstChoice", inPlace := ["internal/bytealg.IndexByteString", "internal/bytealg.IndexString"], unfollowed := true, recurses := true, named := ["filigree/ast.kinds", "internal/bytealg.MaxLen"], loops := true, apart := false, laid := [("filigree/ast.kinds", laid_filigree_ast_kinds)], narrowed := true }
def KonstChoiceUptoSaid : Prop := konstChoiceUptoRow.holds Tryd.pinned (OpenSpec.upto konstChoiceSpec)

/-- 'filigreelaw06.KonstBounds', WHERE WHAT IT READS IS OF BULK AT MOST 1048576: true; the input reads as it did. -/
def konstBoundsUptoRow : OpenClaim := { program := "ytonbgnaopkopoaadoor", sum := "48cd055eecd3924c481001f67a03170a0aeebe2f187aa44553502e6e142bb281", func := "filigree/filigreelaw06.KonstBounds", spec := "konstBounds", inPlace := ["internal/bytealg.IndexByteString", "internal/bytealg.IndexString"], unfollowed := true, recurses := true, named := ["filigree/ast.kinds", "internal/bytealg.MaxLen"], loops := true, apart := false, laid := [("filigree/ast.kinds", laid_filigree_ast_kinds)], narrowed := true }
def KonstBoundsUptoSaid : Prop := konstBoundsUptoRow.holds Tryd.pinned (OpenSpec.upto konstBoundsSpec)

/-- 'filigreelaw06.KonstSubst', WHERE WHAT IT READS IS OF BULK AT MOST 1048576: true; the input reads as it did. -/
def konstSubstUptoRow : OpenClaim := { program := "ytonbgnaopkopoaadoor", sum := "48cd055eecd3924c481001f67a03170a0aeebe2f187aa44553502e6e142bb281", func := "filigree/filigreelaw06.KonstSubst", spec := "konstSubst", inPlace := ["internal/bytealg.IndexByteString", "internal/bytealg.IndexString"], unfollowed := true, recurses := true, named := ["filigree/ast.kinds", "internal/bytealg.MaxLen"], loops := true, apart := false, laid := [("filigree/ast.kinds", laid_filigree_ast_kinds)], narrowed := true }
def KonstSubstUptoSaid : Prop := konstSubstUptoRow.holds Tryd.pinned (OpenSpec.upto konstSubstSpec)

/-- 'filigreelaw06.KonstFree', WHERE WHAT IT READS IS OF BULK AT MOST 1048576: true; the input reads as it did. -/
def konstFreeUptoRow : OpenClaim := { program := "ytonbgnaopkopoaadoor", sum := "48cd055eecd3924c481001f67a03170a0aeebe2f187aa44553502e6e142bb281", func := "filigree/filigreelaw06.KonstFree", spec := "konstFree", inPlace := ["internal/bytealg.IndexByteString", "internal/bytealg.IndexString"], unfollowed := true, recurses := true, named := ["filigree/ast.kinds", "internal/bytealg.MaxLen"], loops := true, apart := false, laid := [("filigree/ast.kinds", laid_filigree_ast_kinds)], narrowed := true }
def KonstFreeUptoSaid : Prop := konstFreeUptoRow.holds Tryd.pinned (OpenSpec.upto konstFreeSpec)

end Rows
end Go.Proofs.YtonbgnaopkopoaaDoor
