/-
  DERIVED. GIVEN WITH THE SEED: THE CARDS: each row of YtjoglnjpgkobeaaDoorRows.lean that lists a variable, with what it lists TIED to the program's text (the seventh form; the later family's looks); each row that meets fmt, with fmt's text TOLD by the authors' own Lean function (tested against real Go, not proved from fmt's source: count such statements apart). THE CARD IS WHAT COUNTS. Prove the row's statement (the work); the ties are given (YtjoglnjpgkobeaaDoorTie.lean); close each card by the builder's one call (the guide's Derived/Test/ToyasCard.lean, 'card_holds'). Laid BY PROGRAM, IN A SANDBOX (cutbox-door.mjs). By AI agents, Wed Nov 11 2026. No macro, syntax, notation, axiom, sorry.
-/
import Derived.Test.YtjoglnjpgkobeaaDoorRows
import GoSem.ClaimSeven
namespace Go.Proofs.YtjoglnjpgkobeaaDoor
namespace Rows

/-- THE TIED CARD OF 'filigreelaw07.NamesOrder'. -/
def namesOrderCard : Claim7 := { stood := { row := namesOrderRow, standIns := [], harness := (true, "186ae84e6d22b2bc0a57cf9471cf735240fe7781a56b8e947730256d08151f9e"), looks := true }, kinds := [], alts := [], laidByText := true, laidKinds := [.data, .data], laidTests := true, laidLooks := .later }
def NamesOrderCardSaid : Prop := Claim7.holds Tryd.pinned (.plain (OpenSpec.ofChange namesOrderSpec)) namesOrderCard

/-- THE TIED CARD OF 'filigreelaw07.NamesBelow'. -/
def namesBelowCard : Claim7 := { stood := { row := namesBelowRow, standIns := [], harness := (true, "186ae84e6d22b2bc0a57cf9471cf735240fe7781a56b8e947730256d08151f9e"), looks := true }, kinds := [], alts := [], laidByText := true, laidKinds := [.data, .data], laidTests := true, laidLooks := .later }
def NamesBelowCardSaid : Prop := Claim7.holds Tryd.pinned (.plain (OpenSpec.ofChange namesBelowSpec)) namesBelowCard

/-- THE TIED CARD OF 'filigreelaw07.NamesTwice'. -/
def namesTwiceCard : Claim7 := { stood := { row := namesTwiceRow, standIns := [], harness := (true, "186ae84e6d22b2bc0a57cf9471cf735240fe7781a56b8e947730256d08151f9e"), looks := true }, kinds := [], alts := [], laidByText := true, laidKinds := [.data, .data], laidTests := true, laidLooks := .later }
def NamesTwiceCardSaid : Prop := Claim7.holds Tryd.pinned (.plain (OpenSpec.ofChange namesTwiceSpec)) namesTwiceCard

/-- THE TIED CARD OF 'filigreelaw07.NamesSides'. -/
def namesSidesCard : Claim7 := { stood := { row := namesSidesRow, standIns := [], harness := (true, "186ae84e6d22b2bc0a57cf9471cf735240fe7781a56b8e947730256d08151f9e"), looks := true }, kinds := [], alts := [], laidByText := true, laidKinds := [.data, .data], laidTests := true, laidLooks := .later }
def NamesSidesCardSaid : Prop := Claim7.holds Tryd.pinned (.plain (OpenSpec.ofChange namesSidesSpec)) namesSidesCard

/-- THE TIED CARD OF 'filigreelaw07.NamesLoops'. -/
def namesLoopsCard : Claim7 := { stood := { row := namesLoopsRow, standIns := [], harness := (true, "186ae84e6d22b2bc0a57cf9471cf735240fe7781a56b8e947730256d08151f9e"), looks := true }, kinds := [], alts := [], laidByText := true, laidKinds := [.data, .data], laidTests := true, laidLooks := .later }
def NamesLoopsCardSaid : Prop := Claim7.holds Tryd.pinned (.plain (OpenSpec.ofChange namesLoopsSpec)) namesLoopsCard

/-- THE TIED CARD OF 'filigreelaw07.NamesWithout'. -/
def namesWithoutCard : Claim7 := { stood := { row := namesWithoutRow, standIns := [], harness := (true, "186ae84e6d22b2bc0a57cf9471cf735240fe7781a56b8e947730256d08151f9e"), looks := true }, kinds := [], alts := [], laidByText := true, laidKinds := [.data, .data], laidTests := true, laidLooks := .later }
def NamesWithoutCardSaid : Prop := Claim7.holds Tryd.pinned (.plain (OpenSpec.ofChange namesWithoutSpec)) namesWithoutCard

/-- THE SECOND FORM's CARD OF 'filigreelaw07.NamesOrder'. -/
def namesOrderUptoCard : Claim7 := { stood := { row := namesOrderUptoRow, standIns := [], harness := (true, "186ae84e6d22b2bc0a57cf9471cf735240fe7781a56b8e947730256d08151f9e"), looks := true }, kinds := [], alts := [], laidByText := true, laidKinds := [.data, .data], laidTests := true, laidLooks := .later }
def NamesOrderUptoCardSaid : Prop := Claim7.holds Tryd.pinned (.plain (OpenSpec.upto namesOrderSpec)) namesOrderUptoCard

/-- THE SECOND FORM's CARD OF 'filigreelaw07.NamesBelow'. -/
def namesBelowUptoCard : Claim7 := { stood := { row := namesBelowUptoRow, standIns := [], harness := (true, "186ae84e6d22b2bc0a57cf9471cf735240fe7781a56b8e947730256d08151f9e"), looks := true }, kinds := [], alts := [], laidByText := true, laidKinds := [.data, .data], laidTests := true, laidLooks := .later }
def NamesBelowUptoCardSaid : Prop := Claim7.holds Tryd.pinned (.plain (OpenSpec.upto namesBelowSpec)) namesBelowUptoCard

/-- THE SECOND FORM's CARD OF 'filigreelaw07.NamesTwice'. -/
def namesTwiceUptoCard : Claim7 := { stood := { row := namesTwiceUptoRow, standIns := [], harness := (true, "186ae84e6d22b2bc0a57cf9471cf735240fe7781a56b8e947730256d08151f9e"), looks := true }, kinds := [], alts := [], laidByText := true, laidKinds := [.data, .data], laidTests := true, laidLooks := .later }
def NamesTwiceUptoCardSaid : Prop := Claim7.holds Tryd.pinned (.plain (OpenSpec.upto namesTwiceSpec)) namesTwiceUptoCard

/-- THE SECOND FORM's CARD OF 'filigreelaw07.NamesSides'. -/
def namesSidesUptoCard : Claim7 := { stood := { row := namesSidesUptoRow, standIns := [], harness := (true, "186ae84e6d22b2bc0a57cf9471cf735240fe7781a56b8e947730256d08151f9e"), looks := true }, kinds := [], alts := [], laidByText := true, laidKinds := [.data, .data], laidTests := true, laidLooks := .later }
def NamesSidesUptoCardSaid : Prop := Claim7.holds Tryd.pinned (.plain (OpenSpec.upto namesSidesSpec)) namesSidesUptoCard

/-- THE SECOND FORM's CARD OF 'filigreelaw07.NamesLoops'. -/
def namesLoopsUptoCard : Claim7 := { stood := { row := namesLoopsUptoRow, standIns := [], harness := (true, "186ae84e6d22b2bc0a57cf9471cf735240fe7781a56b8e947730256d08151f9e"), looks := true }, kinds := [], alts := [], laidByText := true, laidKinds := [.data, .data], laidTests := true, laidLooks := .later }
def NamesLoopsUptoCardSaid : Prop := Claim7.holds Tryd.pinned (.plain (OpenSpec.upto namesLoopsSpec)) namesLoopsUptoCard

/-- THE SECOND FORM's CARD OF 'filigreelaw07.NamesWithout'. -/
def namesWithoutUptoCard : Claim7 := { stood := { row := namesWithoutUptoRow, standIns := [], harness := (true, "186ae84e6d22b2bc0a57cf9471cf735240fe7781a56b8e947730256d08151f9e"), looks := true }, kinds := [], alts := [], laidByText := true, laidKinds := [.data, .data], laidTests := true, laidLooks := .later }
def NamesWithoutUptoCardSaid : Prop := Claim7.holds Tryd.pinned (.plain (OpenSpec.upto namesWithoutSpec)) namesWithoutUptoCard
end Rows
end Go.Proofs.YtjoglnjpgkobeaaDoor
