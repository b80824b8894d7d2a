/-
  DERIVED. GIVEN WITH THE SEED: THE CARDS: each row of YtnjpakhnaegdgabDoorRows.lean that lists a variable, with what it lists TIED to the program's text (the seventh form; the later family's looks); each row that meets fmt, with fmt's text TOLD by the authors' own Lean function (tested against real Go, not proved from fmt's source: count such statements apart). THE CARD IS WHAT COUNTS. Prove the row's statement (the work); the ties are given (YtnjpakhnaegdgabDoorTie.lean); close each card by the builder's one call (the guide's Derived/Test/ToyasCard.lean, 'card_holds'). Laid BY PROGRAM, IN A SANDBOX (cutbox-door.mjs). By AI agents, Wed Nov 11 2026. No macro, syntax, notation, axiom, sorry.
-/
import Derived.Test.YtnjpakhnaegdgabDoorRows
import GoSem.ClaimSeven
namespace Go.Proofs.YtnjpakhnaegdgabDoor
namespace Rows

/-- THE TIED CARD OF 'vmfleetlaw2.IsaEncodes'. -/
def isaEncodesCard : Claim7 := { stood := { row := isaEncodesRow, standIns := [], harness := (true, "8fdb1d7a11c30ebb220d97c921f008fcf710fde60fb09c307ead0c30d043ee93"), looks := false }, kinds := [], alts := [], laidByText := true, laidKinds := [.data, .data, .data, .data], laidTests := true, laidLooks := .later }
def IsaEncodesCardSaid : Prop := Claim7.holds Tryd.pinned (.plain (OpenSpec.ofChange isaEncodesSpec)) isaEncodesCard

/-- THE TIED CARD OF 'vmfleetlaw2.IsaDecodes'. -/
def isaDecodesCard : Claim7 := { stood := { row := isaDecodesRow, standIns := [], harness := (true, "8fdb1d7a11c30ebb220d97c921f008fcf710fde60fb09c307ead0c30d043ee93"), looks := false }, kinds := [], alts := [], laidByText := true, laidKinds := [.data, .data, .data, .data], laidTests := true, laidLooks := .later }
def IsaDecodesCardSaid : Prop := Claim7.holds Tryd.pinned (.plain (OpenSpec.ofChange isaDecodesSpec)) isaDecodesCard

/-- THE TIED CARD OF 'vmfleetlaw2.IsaFormats'. -/
def isaFormatsCard : Claim7 := { stood := { row := isaFormatsRow, standIns := [], harness := (true, "8fdb1d7a11c30ebb220d97c921f008fcf710fde60fb09c307ead0c30d043ee93"), looks := false }, kinds := [], alts := [], laidByText := true, laidKinds := [.data, .data, .data, .data], laidTests := true, laidLooks := .later }
def IsaFormatsCardSaid : Prop := Claim7.holds Tryd.pinned (.plain (OpenSpec.ofChange isaFormatsSpec)) isaFormatsCard

/-- THE TIED CARD OF 'vmfleetlaw2.IsaBits'. -/
def isaBitsCard : Claim7 := { stood := { row := isaBitsRow, standIns := [], harness := (true, "8fdb1d7a11c30ebb220d97c921f008fcf710fde60fb09c307ead0c30d043ee93"), looks := false }, kinds := [], alts := [], laidByText := true, laidKinds := [.data, .data, .data, .data], laidTests := true, laidLooks := .later }
def IsaBitsCardSaid : Prop := Claim7.holds Tryd.pinned (.plain (OpenSpec.ofChange isaBitsSpec)) isaBitsCard

/-- THE TIED CARD OF 'vmfleetlaw2.IsaUnused'. -/
def isaUnusedCard : Claim7 := { stood := { row := isaUnusedRow, standIns := [], harness := (true, "8fdb1d7a11c30ebb220d97c921f008fcf710fde60fb09c307ead0c30d043ee93"), looks := false }, kinds := [], alts := [], laidByText := true, laidKinds := [.data, .data, .data, .data], laidTests := true, laidLooks := .later }
def IsaUnusedCardSaid : Prop := Claim7.holds Tryd.pinned (.plain (OpenSpec.ofChange isaUnusedSpec)) isaUnusedCard

/-- THE TIED CARD OF 'vmfleetlaw2.IsaOps'. -/
def isaOpsCard : Claim7 := { stood := { row := isaOpsRow, standIns := [], harness := (true, "8fdb1d7a11c30ebb220d97c921f008fcf710fde60fb09c307ead0c30d043ee93"), looks := false }, kinds := [], alts := [], laidByText := true, laidKinds := [.data, .data, .data, .data], laidTests := true, laidLooks := .later }
def IsaOpsCardSaid : Prop := Claim7.holds Tryd.pinned (.plain (OpenSpec.ofChange isaOpsSpec)) isaOpsCard

/-- THE TIED CARD OF 'vmfleetlaw2.IsaBlocks'. -/
def isaBlocksCard : Claim7 := { stood := { row := isaBlocksRow, standIns := [], harness := (true, "8fdb1d7a11c30ebb220d97c921f008fcf710fde60fb09c307ead0c30d043ee93"), looks := false }, kinds := [], alts := [], laidByText := true, laidKinds := [.data, .data, .data, .data], laidTests := true, laidLooks := .later }
def IsaBlocksCardSaid : Prop := Claim7.holds Tryd.pinned (.plain (OpenSpec.ofChange isaBlocksSpec)) isaBlocksCard

/-- THE SECOND FORM's CARD OF 'vmfleetlaw2.IsaEncodes'. -/
def isaEncodesUptoCard : Claim7 := { stood := { row := isaEncodesUptoRow, standIns := [], harness := (true, "8fdb1d7a11c30ebb220d97c921f008fcf710fde60fb09c307ead0c30d043ee93"), looks := false }, kinds := [], alts := [], laidByText := true, laidKinds := [.data, .data, .data, .data], laidTests := true, laidLooks := .later }
def IsaEncodesUptoCardSaid : Prop := Claim7.holds Tryd.pinned (.plain (OpenSpec.upto isaEncodesSpec)) isaEncodesUptoCard

/-- THE SECOND FORM's CARD OF 'vmfleetlaw2.IsaDecodes'. -/
def isaDecodesUptoCard : Claim7 := { stood := { row := isaDecodesUptoRow, standIns := [], harness := (true, "8fdb1d7a11c30ebb220d97c921f008fcf710fde60fb09c307ead0c30d043ee93"), looks := false }, kinds := [], alts := [], laidByText := true, laidKinds := [.data, .data, .data, .data], laidTests := true, laidLooks := .later }
def IsaDecodesUptoCardSaid : Prop := Claim7.holds Tryd.pinned (.plain (OpenSpec.upto isaDecodesSpec)) isaDecodesUptoCard

/-- THE SECOND FORM's CARD OF 'vmfleetlaw2.IsaFormats'. -/
def isaFormatsUptoCard : Claim7 := { stood := { row := isaFormatsUptoRow, standIns := [], harness := (true, "8fdb1d7a11c30ebb220d97c921f008fcf710fde60fb09c307ead0c30d043ee93"), looks := false }, kinds := [], alts := [], laidByText := true, laidKinds := [.data, .data, .data, .data], laidTests := true, laidLooks := .later }
def IsaFormatsUptoCardSaid : Prop := Claim7.holds Tryd.pinned (.plain (OpenSpec.upto isaFormatsSpec)) isaFormatsUptoCard

/-- THE SECOND FORM's CARD OF 'vmfleetlaw2.IsaBits'. -/
def isaBitsUptoCard : Claim7 := { stood := { row := isaBitsUptoRow, standIns := [], harness := (true, "8fdb1d7a11c30ebb220d97c921f008fcf710fde60fb09c307ead0c30d043ee93"), looks := false }, kinds := [], alts := [], laidByText := true, laidKinds := [.data, .data, .data, .data], laidTests := true, laidLooks := .later }
def IsaBitsUptoCardSaid : Prop := Claim7.holds Tryd.pinned (.plain (OpenSpec.upto isaBitsSpec)) isaBitsUptoCard

/-- THE SECOND FORM's CARD OF 'vmfleetlaw2.IsaUnused'. -/
def isaUnusedUptoCard : Claim7 := { stood := { row := isaUnusedUptoRow, standIns := [], harness := (true, "8fdb1d7a11c30ebb220d97c921f008fcf710fde60fb09c307ead0c30d043ee93"), looks := false }, kinds := [], alts := [], laidByText := true, laidKinds := [.data, .data, .data, .data], laidTests := true, laidLooks := .later }
def IsaUnusedUptoCardSaid : Prop := Claim7.holds Tryd.pinned (.plain (OpenSpec.upto isaUnusedSpec)) isaUnusedUptoCard

/-- THE SECOND FORM's CARD OF 'vmfleetlaw2.IsaOps'. -/
def isaOpsUptoCard : Claim7 := { stood := { row := isaOpsUptoRow, standIns := [], harness := (true, "8fdb1d7a11c30ebb220d97c921f008fcf710fde60fb09c307ead0c30d043ee93"), looks := false }, kinds := [], alts := [], laidByText := true, laidKinds := [.data, .data, .data, .data], laidTests := true, laidLooks := .later }
def IsaOpsUptoCardSaid : Prop := Claim7.holds Tryd.pinned (.plain (OpenSpec.upto isaOpsSpec)) isaOpsUptoCard

/-- THE SECOND FORM's CARD OF 'vmfleetlaw2.IsaBlocks'. -/
def isaBlocksUptoCard : Claim7 := { stood := { row := isaBlocksUptoRow, standIns := [], harness := (true, "8fdb1d7a11c30ebb220d97c921f008fcf710fde60fb09c307ead0c30d043ee93"), looks := false }, kinds := [], alts := [], laidByText := true, laidKinds := [.data, .data, .data, .data], laidTests := true, laidLooks := .later }
def IsaBlocksUptoCardSaid : Prop := Claim7.holds Tryd.pinned (.plain (OpenSpec.upto isaBlocksSpec)) isaBlocksUptoCard
end Rows
end Go.Proofs.YtnjpakhnaegdgabDoor
