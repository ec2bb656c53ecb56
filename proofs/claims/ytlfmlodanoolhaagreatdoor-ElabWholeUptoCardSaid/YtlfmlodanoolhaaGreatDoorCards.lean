/-
  DERIVED. GIVEN WITH THE SEED: THE CARDS: each row of YtlfmlodanoolhaaGreatDoorRows.lean that lists a variable, with what it lists TIED to the program's text (the seventh form; the later family's looks); each row that meets fmt, with fmt's text TOLD by the authors' own Lean function (tested against real Go, not proved from fmt's source: count such statements apart). THE CARD IS WHAT COUNTS. Prove the row's statement (the work); the ties are given (YtlfmlodanoolhaaGreatDoorTie.lean); close each card by the builder's one call (the guide's Derived/Test/ToyasCard.lean, 'card_holds'). Laid BY PROGRAM, IN A SANDBOX (cutbox-door.mjs). By AI agents, Wed Nov 11 2026. No macro, syntax, notation, axiom, sorry.
-/
import Derived.Test.YtlfmlodanoolhaaGreatDoorRows
import GoSem.ClaimSeven
namespace Go.Proofs.YtlfmlodanoolhaaGreatDoor
namespace Rows

/-- THE TIED CARD OF 'filigreelaw08.ElabInside'. -/
def elabInsideCard : Claim7 := { stood := { row := elabInsideRow, standIns := [], harness := (true, "bcf396e0e70db202e3da92af916c5df720e7ca041d88119fee32f9a806d6ade6"), looks := true }, kinds := [], alts := [], laidByText := true, laidKinds := [.data, .data, .data, .data, .data], laidTests := true, laidLooks := .later }
def ElabInsideCardSaid : Prop := Claim7.holds Tryz.pinned (.plain (OpenSpec.ofChange elabInsideSpec)) elabInsideCard

/-- THE TIED CARD OF 'filigreelaw08.ElabLoops'. -/
def elabLoopsCard : Claim7 := { stood := { row := elabLoopsRow, standIns := [], harness := (true, "bcf396e0e70db202e3da92af916c5df720e7ca041d88119fee32f9a806d6ade6"), looks := true }, kinds := [], alts := [], laidByText := true, laidKinds := [.data, .data, .data, .data, .data], laidTests := true, laidLooks := .later }
def ElabLoopsCardSaid : Prop := Claim7.holds Tryz.pinned (.plain (OpenSpec.ofChange elabLoopsSpec)) elabLoopsCard

/-- THE TIED CARD OF 'filigreelaw08.ElabFinds'. -/
def elabFindsCard : Claim7 := { stood := { row := elabFindsRow, standIns := [], harness := (true, "bcf396e0e70db202e3da92af916c5df720e7ca041d88119fee32f9a806d6ade6"), looks := true }, kinds := [], alts := [], laidByText := true, laidKinds := [.data, .data, .data, .data, .data], laidTests := true, laidLooks := .later }
def ElabFindsCardSaid : Prop := Claim7.holds Tryz.pinned (.plain (OpenSpec.ofChange elabFindsSpec)) elabFindsCard

/-- THE TIED CARD OF 'filigreelaw08.ElabWhole'. -/
def elabWholeCard : Claim7 := { stood := { row := elabWholeRow, standIns := [], harness := (true, "bcf396e0e70db202e3da92af916c5df720e7ca041d88119fee32f9a806d6ade6"), looks := true }, kinds := [], alts := [], laidByText := true, laidKinds := [.data, .data, .data, .data, .data], laidTests := true, laidLooks := .later }
def ElabWholeCardSaid : Prop := Claim7.holds Tryz.pinned (.plain (OpenSpec.ofChange elabWholeSpec)) elabWholeCard

/-- THE TIED CARD OF 'filigreelaw08.ElabPorts'. -/
def elabPortsCard : Claim7 := { stood := { row := elabPortsRow, standIns := [], harness := (true, "bcf396e0e70db202e3da92af916c5df720e7ca041d88119fee32f9a806d6ade6"), looks := true }, kinds := [], alts := [], laidByText := true, laidKinds := [.data, .data, .data, .data, .data], laidTests := true, laidLooks := .later }
def ElabPortsCardSaid : Prop := Claim7.holds Tryz.pinned (.plain (OpenSpec.ofChange elabPortsSpec)) elabPortsCard

/-- THE TIED CARD OF 'filigreelaw08.ElabDefaults'. -/
def elabDefaultsCard : Claim7 := { stood := { row := elabDefaultsRow, standIns := [], harness := (true, "bcf396e0e70db202e3da92af916c5df720e7ca041d88119fee32f9a806d6ade6"), looks := true }, kinds := [], alts := [], laidByText := true, laidKinds := [.data, .data, .data, .data, .data], laidTests := true, laidLooks := .later }
def ElabDefaultsCardSaid : Prop := Claim7.holds Tryz.pinned (.plain (OpenSpec.ofChange elabDefaultsSpec)) elabDefaultsCard

/-- THE TIED CARD OF 'filigreelaw08.ElabChoices'. -/
def elabChoicesCard : Claim7 := { stood := { row := elabChoicesRow, standIns := [], harness := (true, "bcf396e0e70db202e3da92af916c5df720e7ca041d88119fee32f9a806d6ade6"), looks := true }, kinds := [], alts := [], laidByText := true, laidKinds := [.data, .data, .data, .data, .data], laidTests := true, laidLooks := .later }
def ElabChoicesCardSaid : Prop := Claim7.holds Tryz.pinned (.plain (OpenSpec.ofChange elabChoicesSpec)) elabChoicesCard

/-- THE TIED CARD OF 'filigreelaw08.ElabMore'. -/
def elabMoreCard : Claim7 := { stood := { row := elabMoreRow, standIns := [], harness := (true, "bcf396e0e70db202e3da92af916c5df720e7ca041d88119fee32f9a806d6ade6"), looks := true }, kinds := [], alts := [], laidByText := true, laidKinds := [.data, .data, .data, .data, .data], laidTests := true, laidLooks := .later }
def ElabMoreCardSaid : Prop := Claim7.holds Tryz.pinned (.plain (OpenSpec.ofChange elabMoreSpec)) elabMoreCard

/-- THE SECOND FORM's CARD OF 'filigreelaw08.ElabInside'. -/
def elabInsideUptoCard : Claim7 := { stood := { row := elabInsideUptoRow, standIns := [], harness := (true, "bcf396e0e70db202e3da92af916c5df720e7ca041d88119fee32f9a806d6ade6"), looks := true }, kinds := [], alts := [], laidByText := true, laidKinds := [.data, .data, .data, .data, .data], laidTests := true, laidLooks := .later }
def ElabInsideUptoCardSaid : Prop := Claim7.holds Tryz.pinned (.plain (OpenSpec.upto elabInsideSpec)) elabInsideUptoCard

/-- THE SECOND FORM's CARD OF 'filigreelaw08.ElabLoops'. -/
def elabLoopsUptoCard : Claim7 := { stood := { row := elabLoopsUptoRow, standIns := [], harness := (true, "bcf396e0e70db202e3da92af916c5df720e7ca041d88119fee32f9a806d6ade6"), looks := true }, kinds := [], alts := [], laidByText := true, laidKinds := [.data, .data, .data, .data, .data], laidTests := true, laidLooks := .later }
def ElabLoopsUptoCardSaid : Prop := Claim7.holds Tryz.pinned (.plain (OpenSpec.upto elabLoopsSpec)) elabLoopsUptoCard

/-- THE SECOND FORM's CARD OF 'filigreelaw08.ElabFinds'. -/
def elabFindsUptoCard : Claim7 := { stood := { row := elabFindsUptoRow, standIns := [], harness := (true, "bcf396e0e70db202e3da92af916c5df720e7ca041d88119fee32f9a806d6ade6"), looks := true }, kinds := [], alts := [], laidByText := true, laidKinds := [.data, .data, .data, .data, .data], laidTests := true, laidLooks := .later }
def ElabFindsUptoCardSaid : Prop := Claim7.holds Tryz.pinned (.plain (OpenSpec.upto elabFindsSpec)) elabFindsUptoCard

/-- THE SECOND FORM's CARD OF 'filigreelaw08.ElabWhole'. -/
def elabWholeUptoCard : Claim7 := { stood := { row := elabWholeUptoRow, standIns := [], harness := (true, "bcf396e0e70db202e3da92af916c5df720e7ca041d88119fee32f9a806d6ade6"), looks := true }, kinds := [], alts := [], laidByText := true, laidKinds := [.data, .data, .data, .data, .data], laidTests := true, laidLooks := .later }
def ElabWholeUptoCardSaid : Prop := Claim7.holds Tryz.pinned (.plain (OpenSpec.upto elabWholeSpec)) elabWholeUptoCard

/-- THE SECOND FORM's CARD OF 'filigreelaw08.ElabPorts'. -/
def elabPortsUptoCard : Claim7 := { stood := { row := elabPortsUptoRow, standIns := [], harness := (true, "bcf396e0e70db202e3da92af916c5df720e7ca041d88119fee32f9a806d6ade6"), looks := true }, kinds := [], alts := [], laidByText := true, laidKinds := [.data, .data, .data, .data, .data], laidTests := true, laidLooks := .later }
def ElabPortsUptoCardSaid : Prop := Claim7.holds Tryz.pinned (.plain (OpenSpec.upto elabPortsSpec)) elabPortsUptoCard

/-- THE SECOND FORM's CARD OF 'filigreelaw08.ElabDefaults'. -/
def elabDefaultsUptoCard : Claim7 := { stood := { row := elabDefaultsUptoRow, standIns := [], harness := (true, "bcf396e0e70db202e3da92af916c5df720e7ca041d88119fee32f9a806d6ade6"), looks := true }, kinds := [], alts := [], laidByText := true, laidKinds := [.data, .data, .data, .data, .data], laidTests := true, laidLooks := .later }
def ElabDefaultsUptoCardSaid : Prop := Claim7.holds Tryz.pinned (.plain (OpenSpec.upto elabDefaultsSpec)) elabDefaultsUptoCard

/-- THE SECOND FORM's CARD OF 'filigreelaw08.ElabChoices'. -/
def elabChoicesUptoCard : Claim7 := { stood := { row := elabChoicesUptoRow, standIns := [], harness := (true, "bcf396e0e70db202e3da92af916c5df720e7ca041d88119fee32f9a806d6ade6"), looks := true }, kinds := [], alts := [], laidByText := true, laidKinds := [.data, .data, .data, .data, .data], laidTests := true, laidLooks := .later }
def ElabChoicesUptoCardSaid : Prop := Claim7.holds Tryz.pinned (.plain (OpenSpec.upto elabChoicesSpec)) elabChoicesUptoCard

/-- THE SECOND FORM's CARD OF 'filigreelaw08.ElabMore'. -/
def elabMoreUptoCard : Claim7 := { stood := { row := elabMoreUptoRow, standIns := [], harness := (true, "bcf396e0e70db202e3da92af916c5df720e7ca041d88119fee32f9a806d6ade6"), looks := true }, kinds := [], alts := [], laidByText := true, laidKinds := [.data, .data, .data, .data, .data], laidTests := true, laidLooks := .later }
def ElabMoreUptoCardSaid : Prop := Claim7.holds Tryz.pinned (.plain (OpenSpec.upto elabMoreSpec)) elabMoreUptoCard
end Rows
end Go.Proofs.YtlfmlodanoolhaaGreatDoor
