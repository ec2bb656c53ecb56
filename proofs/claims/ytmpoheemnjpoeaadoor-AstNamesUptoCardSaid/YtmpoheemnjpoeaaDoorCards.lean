/-
  DERIVED. GIVEN WITH THE SEED: THE CARDS: each row of YtmpoheemnjpoeaaDoorRows.lean that lists a variable, with what it lists TIED to the program's text (the seventh form; the later family's looks); each row that meets fmt, with fmt's text TOLD by the authors' own Lean function (tested against real Go, not proved from fmt's source: count such statements apart). THE CARD IS WHAT COUNTS. Prove the row's statement (the work); the ties are given (YtmpoheemnjpoeaaDoorTie.lean); close each card by the builder's one call (the guide's Derived/Test/ToyasCard.lean, 'card_holds'). Laid BY PROGRAM, IN A SANDBOX (cutbox-door.mjs). By AI agents, Wed Nov 11 2026. No macro, syntax, notation, axiom, sorry.
-/
import Derived.Test.YtmpoheemnjpoeaaDoorRows
import GoSem.ClaimSeven
namespace Go.Proofs.YtmpoheemnjpoeaaDoor
namespace Rows

/-- THE TIED CARD OF 'filigreelaw03.AstParts'. -/
def astPartsCard : Claim7 := { stood := { row := astPartsRow, standIns := [], harness := (true, "32e5119079886c54c1a068d69aa836ce757e23c0d2e5fede082353c922ed62cd"), looks := false }, kinds := [], alts := [], laidByText := true, laidKinds := [.data, .data], laidTests := true, laidLooks := .later }
def AstPartsCardSaid : Prop := Claim7.holds Tryd.pinned (.plain (OpenSpec.ofChange astPartsSpec)) astPartsCard

/-- THE TIED CARD OF 'filigreelaw03.AstSame'. -/
def astSameCard : Claim7 := { stood := { row := astSameRow, standIns := [], harness := (true, "32e5119079886c54c1a068d69aa836ce757e23c0d2e5fede082353c922ed62cd"), looks := false }, kinds := [], alts := [], laidByText := true, laidKinds := [.data, .data], laidTests := true, laidLooks := .later }
def AstSameCardSaid : Prop := Claim7.holds Tryd.pinned (.plain (OpenSpec.ofChange astSameSpec)) astSameCard

/-- THE TIED CARD OF 'filigreelaw03.AstWhole'. -/
def astWholeCard : Claim7 := { stood := { row := astWholeRow, standIns := [], harness := (true, "32e5119079886c54c1a068d69aa836ce757e23c0d2e5fede082353c922ed62cd"), looks := false }, kinds := [], alts := [], laidByText := true, laidKinds := [.data, .data], laidTests := true, laidLooks := .later }
def AstWholeCardSaid : Prop := Claim7.holds Tryd.pinned (.plain (OpenSpec.ofChange astWholeSpec)) astWholeCard

/-- THE TIED CARD OF 'filigreelaw03.AstSpoilt'. -/
def astSpoiltCard : Claim7 := { stood := { row := astSpoiltRow, standIns := [], harness := (true, "32e5119079886c54c1a068d69aa836ce757e23c0d2e5fede082353c922ed62cd"), looks := false }, kinds := [], alts := [], laidByText := true, laidKinds := [.data, .data], laidTests := true, laidLooks := .later }
def AstSpoiltCardSaid : Prop := Claim7.holds Tryd.pinned (.plain (OpenSpec.ofChange astSpoiltSpec)) astSpoiltCard

/-- THE TIED CARD OF 'filigreelaw03.AstModules'. -/
def astModulesCard : Claim7 := { stood := { row := astModulesRow, standIns := [], harness := (true, "32e5119079886c54c1a068d69aa836ce757e23c0d2e5fede082353c922ed62cd"), looks := false }, kinds := [], alts := [], laidByText := true, laidKinds := [.data, .data], laidTests := true, laidLooks := .later }
def AstModulesCardSaid : Prop := Claim7.holds Tryd.pinned (.plain (OpenSpec.ofChange astModulesSpec)) astModulesCard

/-- THE TIED CARD OF 'filigreelaw03.AstNames'. -/
def astNamesCard : Claim7 := { stood := { row := astNamesRow, standIns := [], harness := (true, "32e5119079886c54c1a068d69aa836ce757e23c0d2e5fede082353c922ed62cd"), looks := false }, kinds := [], alts := [], laidByText := true, laidKinds := [.data, .data], laidTests := true, laidLooks := .later }
def AstNamesCardSaid : Prop := Claim7.holds Tryd.pinned (.plain (OpenSpec.ofChange astNamesSpec)) astNamesCard

/-- THE TIED CARD OF 'filigreelaw03.AstBound'. -/
def astBoundCard : Claim7 := { stood := { row := astBoundRow, standIns := [], harness := (true, "32e5119079886c54c1a068d69aa836ce757e23c0d2e5fede082353c922ed62cd"), looks := false }, kinds := [], alts := [], laidByText := true, laidKinds := [.data, .data], laidTests := true, laidLooks := .later }
def AstBoundCardSaid : Prop := Claim7.holds Tryd.pinned (.plain (OpenSpec.ofChange astBoundSpec)) astBoundCard

/-- THE TIED CARD OF 'filigreelaw03.AstEqual'. -/
def astEqualCard : Claim7 := { stood := { row := astEqualRow, standIns := [], harness := (true, "32e5119079886c54c1a068d69aa836ce757e23c0d2e5fede082353c922ed62cd"), looks := false }, kinds := [], alts := [], laidByText := true, laidKinds := [.data, .data], laidTests := true, laidLooks := .later }
def AstEqualCardSaid : Prop := Claim7.holds Tryd.pinned (.plain (OpenSpec.ofChange astEqualSpec)) astEqualCard

/-- THE SECOND FORM's CARD OF 'filigreelaw03.AstParts'. -/
def astPartsUptoCard : Claim7 := { stood := { row := astPartsUptoRow, standIns := [], harness := (true, "32e5119079886c54c1a068d69aa836ce757e23c0d2e5fede082353c922ed62cd"), looks := false }, kinds := [], alts := [], laidByText := true, laidKinds := [.data, .data], laidTests := true, laidLooks := .later }
def AstPartsUptoCardSaid : Prop := Claim7.holds Tryd.pinned (.plain (OpenSpec.upto astPartsSpec)) astPartsUptoCard

/-- THE SECOND FORM's CARD OF 'filigreelaw03.AstSame'. -/
def astSameUptoCard : Claim7 := { stood := { row := astSameUptoRow, standIns := [], harness := (true, "32e5119079886c54c1a068d69aa836ce757e23c0d2e5fede082353c922ed62cd"), looks := false }, kinds := [], alts := [], laidByText := true, laidKinds := [.data, .data], laidTests := true, laidLooks := .later }
def AstSameUptoCardSaid : Prop := Claim7.holds Tryd.pinned (.plain (OpenSpec.upto astSameSpec)) astSameUptoCard

/-- THE SECOND FORM's CARD OF 'filigreelaw03.AstWhole'. -/
def astWholeUptoCard : Claim7 := { stood := { row := astWholeUptoRow, standIns := [], harness := (true, "32e5119079886c54c1a068d69aa836ce757e23c0d2e5fede082353c922ed62cd"), looks := false }, kinds := [], alts := [], laidByText := true, laidKinds := [.data, .data], laidTests := true, laidLooks := .later }
def AstWholeUptoCardSaid : Prop := Claim7.holds Tryd.pinned (.plain (OpenSpec.upto astWholeSpec)) astWholeUptoCard

/-- THE SECOND FORM's CARD OF 'filigreelaw03.AstSpoilt'. -/
def astSpoiltUptoCard : Claim7 := { stood := { row := astSpoiltUptoRow, standIns := [], harness := (true, "32e5119079886c54c1a068d69aa836ce757e23c0d2e5fede082353c922ed62cd"), looks := false }, kinds := [], alts := [], laidByText := true, laidKinds := [.data, .data], laidTests := true, laidLooks := .later }
def AstSpoiltUptoCardSaid : Prop := Claim7.holds Tryd.pinned (.plain (OpenSpec.upto astSpoiltSpec)) astSpoiltUptoCard

/-- THE SECOND FORM's CARD OF 'filigreelaw03.AstModules'. -/
def astModulesUptoCard : Claim7 := { stood := { row := astModulesUptoRow, standIns := [], harness := (true, "32e5119079886c54c1a068d69aa836ce757e23c0d2e5fede082353c922ed62cd"), looks := false }, kinds := [], alts := [], laidByText := true, laidKinds := [.data, .data], laidTests := true, laidLooks := .later }
def AstModulesUptoCardSaid : Prop := Claim7.holds Tryd.pinned (.plain (OpenSpec.upto astModulesSpec)) astModulesUptoCard

/-- THE SECOND FORM's CARD OF 'filigreelaw03.AstNames'. -/
def astNamesUptoCard : Claim7 := { stood := { row := astNamesUptoRow, standIns := [], harness := (true, "32e5119079886c54c1a068d69aa836ce757e23c0d2e5fede082353c922ed62cd"), looks := false }, kinds := [], alts := [], laidByText := true, laidKinds := [.data, .data], laidTests := true, laidLooks := .later }
def AstNamesUptoCardSaid : Prop := Claim7.holds Tryd.pinned (.plain (OpenSpec.upto astNamesSpec)) astNamesUptoCard

/-- THE SECOND FORM's CARD OF 'filigreelaw03.AstBound'. -/
def astBoundUptoCard : Claim7 := { stood := { row := astBoundUptoRow, standIns := [], harness := (true, "32e5119079886c54c1a068d69aa836ce757e23c0d2e5fede082353c922ed62cd"), looks := false }, kinds := [], alts := [], laidByText := true, laidKinds := [.data, .data], laidTests := true, laidLooks := .later }
def AstBoundUptoCardSaid : Prop := Claim7.holds Tryd.pinned (.plain (OpenSpec.upto astBoundSpec)) astBoundUptoCard

/-- THE SECOND FORM's CARD OF 'filigreelaw03.AstEqual'. -/
def astEqualUptoCard : Claim7 := { stood := { row := astEqualUptoRow, standIns := [], harness := (true, "32e5119079886c54c1a068d69aa836ce757e23c0d2e5fede082353c922ed62cd"), looks := false }, kinds := [], alts := [], laidByText := true, laidKinds := [.data, .data], laidTests := true, laidLooks := .later }
def AstEqualUptoCardSaid : Prop := Claim7.holds Tryd.pinned (.plain (OpenSpec.upto astEqualSpec)) astEqualUptoCard
end Rows
end Go.Proofs.YtmpoheemnjpoeaaDoor
