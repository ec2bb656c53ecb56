/-
  DERIVED. GIVEN WITH THE SEED: THE CARDS: each row of YtonbgnaopkopoaaDoorRows.lean that lists a variable, with what it lists TIED to the program's text (the seventh form; the later family's looks); each row that meets fmt, with fmt's text TOLD by the authors' own Lean function (tested against real Go, not proved from fmt's source: count such statements apart). THE CARD IS WHAT COUNTS. Prove the row's statement (the work); the ties are given (YtonbgnaopkopoaaDoorTie.lean); close each card by the builder's one call (the guide's Derived/Test/ToyasCard.lean, 'card_holds'). Laid BY PROGRAM, IN A SANDBOX (cutbox-door.mjs). By AI agents, Wed Nov 11 2026. No macro, syntax, notation, axiom, sorry.
-/
import Derived.Test.YtonbgnaopkopoaaDoorRows
import GoSem.ClaimSeven
namespace Go.Proofs.YtonbgnaopkopoaaDoor
namespace Rows

/-- THE TIED CARD OF 'filigreelaw06.KonstEval'. -/
def konstEvalCard : Claim7 := { stood := { row := konstEvalRow, standIns := [], harness := (true, "aa92277711222d8ff46b0f7091ca2999fb0d18ac6b4003aafa11416da105ca12"), looks := false }, kinds := [], alts := [], laidByText := true, laidKinds := [.data], laidTests := true, laidLooks := .later }
def KonstEvalCardSaid : Prop := Claim7.holds Tryd.pinned (.plain (OpenSpec.ofChange konstEvalSpec)) konstEvalCard

/-- THE TIED CARD OF 'filigreelaw06.KonstPlaces'. -/
def konstPlacesCard : Claim7 := { stood := { row := konstPlacesRow, standIns := [], harness := (true, "aa92277711222d8ff46b0f7091ca2999fb0d18ac6b4003aafa11416da105ca12"), looks := false }, kinds := [], alts := [], laidByText := true, laidKinds := [.data], laidTests := true, laidLooks := .later }
def KonstPlacesCardSaid : Prop := Claim7.holds Tryd.pinned (.plain (OpenSpec.ofChange konstPlacesSpec)) konstPlacesCard

/-- THE TIED CARD OF 'filigreelaw06.KonstSums'. -/
def konstSumsCard : Claim7 := { stood := { row := konstSumsRow, standIns := [], harness := (true, "aa92277711222d8ff46b0f7091ca2999fb0d18ac6b4003aafa11416da105ca12"), looks := false }, kinds := [], alts := [], laidByText := true, laidKinds := [.data], laidTests := true, laidLooks := .later }
def KonstSumsCardSaid : Prop := Claim7.holds Tryd.pinned (.plain (OpenSpec.ofChange konstSumsSpec)) konstSumsCard

/-- THE TIED CARD OF 'filigreelaw06.KonstTurns'. -/
def konstTurnsCard : Claim7 := { stood := { row := konstTurnsRow, standIns := [], harness := (true, "aa92277711222d8ff46b0f7091ca2999fb0d18ac6b4003aafa11416da105ca12"), looks := false }, kinds := [], alts := [], laidByText := true, laidKinds := [.data], laidTests := true, laidLooks := .later }
def KonstTurnsCardSaid : Prop := Claim7.holds Tryd.pinned (.plain (OpenSpec.ofChange konstTurnsSpec)) konstTurnsCard

/-- THE TIED CARD OF 'filigreelaw06.KonstLogic'. -/
def konstLogicCard : Claim7 := { stood := { row := konstLogicRow, standIns := [], harness := (true, "aa92277711222d8ff46b0f7091ca2999fb0d18ac6b4003aafa11416da105ca12"), looks := false }, kinds := [], alts := [], laidByText := true, laidKinds := [.data], laidTests := true, laidLooks := .later }
def KonstLogicCardSaid : Prop := Claim7.holds Tryd.pinned (.plain (OpenSpec.ofChange konstLogicSpec)) konstLogicCard

/-- THE TIED CARD OF 'filigreelaw06.KonstChoice'. -/
def konstChoiceCard : Claim7 := { stood := { row := konstChoiceRow, standIns := [], harness := (true, "aa92277711222d8ff46b0f7091ca2999fb0d18ac6b4003aafa11416da105ca12"), looks := false }, kinds := [], alts := [], laidByText := true, laidKinds := [.data], laidTests := true, laidLooks := .later }
def KonstChoiceCardSaid : Prop := Claim7.holds Tryd.pinned (.plain (OpenSpec.ofChange konstChoiceSpec)) konstChoiceCard

/-- THE TIED CARD OF 'filigreelaw06.KonstBounds'. -/
def konstBoundsCard : Claim7 := { stood := { row := konstBoundsRow, standIns := [], harness := (true, "aa92277711222d8ff46b0f7091ca2999fb0d18ac6b4003aafa11416da105ca12"), looks := false }, kinds := [], alts := [], laidByText := true, laidKinds := [.data], laidTests := true, laidLooks := .later }
def KonstBoundsCardSaid : Prop := Claim7.holds Tryd.pinned (.plain (OpenSpec.ofChange konstBoundsSpec)) konstBoundsCard

/-- THE TIED CARD OF 'filigreelaw06.KonstSubst'. -/
def konstSubstCard : Claim7 := { stood := { row := konstSubstRow, standIns := [], harness := (true, "aa92277711222d8ff46b0f7091ca2999fb0d18ac6b4003aafa11416da105ca12"), looks := false }, kinds := [], alts := [], laidByText := true, laidKinds := [.data], laidTests := true, laidLooks := .later }
def KonstSubstCardSaid : Prop := Claim7.holds Tryd.pinned (.plain (OpenSpec.ofChange konstSubstSpec)) konstSubstCard

/-- THE TIED CARD OF 'filigreelaw06.KonstFree'. -/
def konstFreeCard : Claim7 := { stood := { row := konstFreeRow, standIns := [], harness := (true, "aa92277711222d8ff46b0f7091ca2999fb0d18ac6b4003aafa11416da105ca12"), looks := false }, kinds := [], alts := [], laidByText := true, laidKinds := [.data], laidTests := true, laidLooks := .later }
def KonstFreeCardSaid : Prop := Claim7.holds Tryd.pinned (.plain (OpenSpec.ofChange konstFreeSpec)) konstFreeCard

/-- THE SECOND FORM's CARD OF 'filigreelaw06.KonstEval'. -/
def konstEvalUptoCard : Claim7 := { stood := { row := konstEvalUptoRow, standIns := [], harness := (true, "aa92277711222d8ff46b0f7091ca2999fb0d18ac6b4003aafa11416da105ca12"), looks := false }, kinds := [], alts := [], laidByText := true, laidKinds := [.data], laidTests := true, laidLooks := .later }
def KonstEvalUptoCardSaid : Prop := Claim7.holds Tryd.pinned (.plain (OpenSpec.upto konstEvalSpec)) konstEvalUptoCard

/-- THE SECOND FORM's CARD OF 'filigreelaw06.KonstPlaces'. -/
def konstPlacesUptoCard : Claim7 := { stood := { row := konstPlacesUptoRow, standIns := [], harness := (true, "aa92277711222d8ff46b0f7091ca2999fb0d18ac6b4003aafa11416da105ca12"), looks := false }, kinds := [], alts := [], laidByText := true, laidKinds := [.data], laidTests := true, laidLooks := .later }
def KonstPlacesUptoCardSaid : Prop := Claim7.holds Tryd.pinned (.plain (OpenSpec.upto konstPlacesSpec)) konstPlacesUptoCard

/-- THE SECOND FORM's CARD OF 'filigreelaw06.KonstSums'. -/
def konstSumsUptoCard : Claim7 := { stood := { row := konstSumsUptoRow, standIns := [], harness := (true, "aa92277711222d8ff46b0f7091ca2999fb0d18ac6b4003aafa11416da105ca12"), looks := false }, kinds := [], alts := [], laidByText := true, laidKinds := [.data], laidTests := true, laidLooks := .later }
def KonstSumsUptoCardSaid : Prop := Claim7.holds Tryd.pinned (.plain (OpenSpec.upto konstSumsSpec)) konstSumsUptoCard

/-- THE SECOND FORM's CARD OF 'filigreelaw06.KonstTurns'. -/
def konstTurnsUptoCard : Claim7 := { stood := { row := konstTurnsUptoRow, standIns := [], harness := (true, "aa92277711222d8ff46b0f7091ca2999fb0d18ac6b4003aafa11416da105ca12"), looks := false }, kinds := [], alts := [], laidByText := true, laidKinds := [.data], laidTests := true, laidLooks := .later }
def KonstTurnsUptoCardSaid : Prop := Claim7.holds Tryd.pinned (.plain (OpenSpec.upto konstTurnsSpec)) konstTurnsUptoCard

/-- THE SECOND FORM's CARD OF 'filigreelaw06.KonstLogic'. -/
def konstLogicUptoCard : Claim7 := { stood := { row := konstLogicUptoRow, standIns := [], harness := (true, "aa92277711222d8ff46b0f7091ca2999fb0d18ac6b4003aafa11416da105ca12"), looks := false }, kinds := [], alts := [], laidByText := true, laidKinds := [.data], laidTests := true, laidLooks := .later }
def KonstLogicUptoCardSaid : Prop := Claim7.holds Tryd.pinned (.plain (OpenSpec.upto konstLogicSpec)) konstLogicUptoCard

/-- THE SECOND FORM's CARD OF 'filigreelaw06.KonstChoice'. -/
def konstChoiceUptoCard : Claim7 := { stood := { row := konstChoiceUptoRow, standIns := [], harness := (true, "aa92277711222d8ff46b0f7091ca2999fb0d18ac6b4003aafa11416da105ca12"), looks := false }, kinds := [], alts := [], laidByText := true, laidKinds := [.data], laidTests := true, laidLooks := .later }
def KonstChoiceUptoCardSaid : Prop := Claim7.holds Tryd.pinned (.plain (OpenSpec.upto konstChoiceSpec)) konstChoiceUptoCard

/-- THE SECOND FORM's CARD OF 'filigreelaw06.KonstBounds'. -/
def konstBoundsUptoCard : Claim7 := { stood := { row := konstBoundsUptoRow, standIns := [], harness := (true, "aa92277711222d8ff46b0f7091ca2999fb0d18ac6b4003aafa11416da105ca12"), looks := false }, kinds := [], alts := [], laidByText := true, laidKinds := [.data], laidTests := true, laidLooks := .later }
def KonstBoundsUptoCardSaid : Prop := Claim7.holds Tryd.pinned (.plain (OpenSpec.upto konstBoundsSpec)) konstBoundsUptoCard

/-- THE SECOND FORM's CARD OF 'filigreelaw06.KonstSubst'. -/
def konstSubstUptoCard : Claim7 := { stood := { row := konstSubstUptoRow, standIns := [], harness := (true, "aa92277711222d8ff46b0f7091ca2999fb0d18ac6b4003aafa11416da105ca12"), looks := false }, kinds := [], alts := [], laidByText := true, laidKinds := [.data], laidTests := true, laidLooks := .later }
def KonstSubstUptoCardSaid : Prop := Claim7.holds Tryd.pinned (.plain (OpenSpec.upto konstSubstSpec)) konstSubstUptoCard

/-- THE SECOND FORM's CARD OF 'filigreelaw06.KonstFree'. -/
def konstFreeUptoCard : Claim7 := { stood := { row := konstFreeUptoRow, standIns := [], harness := (true, "aa92277711222d8ff46b0f7091ca2999fb0d18ac6b4003aafa11416da105ca12"), looks := false }, kinds := [], alts := [], laidByText := true, laidKinds := [.data], laidTests := true, laidLooks := .later }
def KonstFreeUptoCardSaid : Prop := Claim7.holds Tryd.pinned (.plain (OpenSpec.upto konstFreeSpec)) konstFreeUptoCard
end Rows
end Go.Proofs.YtonbgnaopkopoaaDoor
