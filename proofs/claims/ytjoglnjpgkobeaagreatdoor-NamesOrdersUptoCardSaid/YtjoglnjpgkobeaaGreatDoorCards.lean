/-
  DERIVED. GIVEN WITH THE SEED: THE CARDS: each row of YtjoglnjpgkobeaaGreatDoorRows.lean that lists a variable, with what it lists TIED to the program's text (the seventh form; the later family's looks); each row that meets fmt, with fmt's text TOLD by the authors' own Lean function (tested against real Go, not proved from fmt's source: count such statements apart). THE CARD IS WHAT COUNTS. Prove the row's statement (the work); the ties are given (YtjoglnjpgkobeaaGreatDoorTie.lean); close each card by the builder's one call (the guide's Derived/Test/ToyasCard.lean, 'card_holds'). Laid BY PROGRAM, IN A SANDBOX (cutbox-door.mjs). By AI agents, Wed Nov 11 2026. No macro, syntax, notation, axiom, sorry.
-/
import Derived.Test.YtjoglnjpgkobeaaGreatDoorRows
import GoSem.ClaimSeven
namespace Go.Proofs.YtjoglnjpgkobeaaGreatDoor
namespace Rows

/-- THE TIED CARD OF 'filigreelaw07.NamesChecks'. -/
def namesChecksCard : Claim7 := { stood := { row := namesChecksRow, standIns := [], harness := (true, "266875843c70ec963ca838f71385e7db0fee501fe2d5a30066fd77afc0e0eb49"), looks := true }, kinds := [], alts := [], laidByText := true, laidKinds := [.data, .data], laidTests := true, laidLooks := .later }
def NamesChecksCardSaid : Prop := Claim7.holds Tryz.pinned (.plain (OpenSpec.ofChange namesChecksSpec)) namesChecksCard

/-- THE TIED CARD OF 'filigreelaw07.NamesFinds'. -/
def namesFindsCard : Claim7 := { stood := { row := namesFindsRow, standIns := [], harness := (true, "266875843c70ec963ca838f71385e7db0fee501fe2d5a30066fd77afc0e0eb49"), looks := true }, kinds := [], alts := [], laidByText := true, laidKinds := [.data, .data], laidTests := true, laidLooks := .later }
def NamesFindsCardSaid : Prop := Claim7.holds Tryz.pinned (.plain (OpenSpec.ofChange namesFindsSpec)) namesFindsCard

/-- THE TIED CARD OF 'filigreelaw07.NamesOrders'. -/
def namesOrdersCard : Claim7 := { stood := { row := namesOrdersRow, standIns := [], harness := (true, "266875843c70ec963ca838f71385e7db0fee501fe2d5a30066fd77afc0e0eb49"), looks := true }, kinds := [], alts := [], laidByText := true, laidKinds := [.data, .data], laidTests := true, laidLooks := .later }
def NamesOrdersCardSaid : Prop := Claim7.holds Tryz.pinned (.plain (OpenSpec.ofChange namesOrdersSpec)) namesOrdersCard

/-- THE TIED CARD OF 'filigreelaw07.NamesFresh'. -/
def namesFreshCard : Claim7 := { stood := { row := namesFreshRow, standIns := [], harness := (true, "266875843c70ec963ca838f71385e7db0fee501fe2d5a30066fd77afc0e0eb49"), looks := true }, kinds := [], alts := [], laidByText := true, laidKinds := [.data, .data], laidTests := true, laidLooks := .later }
def NamesFreshCardSaid : Prop := Claim7.holds Tryz.pinned (.plain (OpenSpec.ofChange namesFreshSpec)) namesFreshCard

/-- THE TIED CARD OF 'filigreelaw07.NamesRing'. -/
def namesRingCard : Claim7 := { stood := { row := namesRingRow, standIns := [], harness := (true, "266875843c70ec963ca838f71385e7db0fee501fe2d5a30066fd77afc0e0eb49"), looks := true }, kinds := [], alts := [], laidByText := true, laidKinds := [.data, .data], laidTests := true, laidLooks := .later }
def NamesRingCardSaid : Prop := Claim7.holds Tryz.pinned (.plain (OpenSpec.ofChange namesRingSpec)) namesRingCard

/-- THE SECOND FORM's CARD OF 'filigreelaw07.NamesChecks'. -/
def namesChecksUptoCard : Claim7 := { stood := { row := namesChecksUptoRow, standIns := [], harness := (true, "266875843c70ec963ca838f71385e7db0fee501fe2d5a30066fd77afc0e0eb49"), looks := true }, kinds := [], alts := [], laidByText := true, laidKinds := [.data, .data], laidTests := true, laidLooks := .later }
def NamesChecksUptoCardSaid : Prop := Claim7.holds Tryz.pinned (.plain (OpenSpec.upto namesChecksSpec)) namesChecksUptoCard

/-- THE SECOND FORM's CARD OF 'filigreelaw07.NamesFinds'. -/
def namesFindsUptoCard : Claim7 := { stood := { row := namesFindsUptoRow, standIns := [], harness := (true, "266875843c70ec963ca838f71385e7db0fee501fe2d5a30066fd77afc0e0eb49"), looks := true }, kinds := [], alts := [], laidByText := true, laidKinds := [.data, .data], laidTests := true, laidLooks := .later }
def NamesFindsUptoCardSaid : Prop := Claim7.holds Tryz.pinned (.plain (OpenSpec.upto namesFindsSpec)) namesFindsUptoCard

/-- THE SECOND FORM's CARD OF 'filigreelaw07.NamesOrders'. -/
def namesOrdersUptoCard : Claim7 := { stood := { row := namesOrdersUptoRow, standIns := [], harness := (true, "266875843c70ec963ca838f71385e7db0fee501fe2d5a30066fd77afc0e0eb49"), looks := true }, kinds := [], alts := [], laidByText := true, laidKinds := [.data, .data], laidTests := true, laidLooks := .later }
def NamesOrdersUptoCardSaid : Prop := Claim7.holds Tryz.pinned (.plain (OpenSpec.upto namesOrdersSpec)) namesOrdersUptoCard

/-- THE SECOND FORM's CARD OF 'filigreelaw07.NamesFresh'. -/
def namesFreshUptoCard : Claim7 := { stood := { row := namesFreshUptoRow, standIns := [], harness := (true, "266875843c70ec963ca838f71385e7db0fee501fe2d5a30066fd77afc0e0eb49"), looks := true }, kinds := [], alts := [], laidByText := true, laidKinds := [.data, .data], laidTests := true, laidLooks := .later }
def NamesFreshUptoCardSaid : Prop := Claim7.holds Tryz.pinned (.plain (OpenSpec.upto namesFreshSpec)) namesFreshUptoCard

/-- THE SECOND FORM's CARD OF 'filigreelaw07.NamesRing'. -/
def namesRingUptoCard : Claim7 := { stood := { row := namesRingUptoRow, standIns := [], harness := (true, "266875843c70ec963ca838f71385e7db0fee501fe2d5a30066fd77afc0e0eb49"), looks := true }, kinds := [], alts := [], laidByText := true, laidKinds := [.data, .data], laidTests := true, laidLooks := .later }
def NamesRingUptoCardSaid : Prop := Claim7.holds Tryz.pinned (.plain (OpenSpec.upto namesRingSpec)) namesRingUptoCard
end Rows
end Go.Proofs.YtjoglnjpgkobeaaGreatDoor
