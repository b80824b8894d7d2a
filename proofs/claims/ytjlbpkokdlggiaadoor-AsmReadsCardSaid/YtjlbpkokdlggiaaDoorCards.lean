/-
  DERIVED. GIVEN WITH THE SEED: THE CARDS: each row of YtjlbpkokdlggiaaDoorRows.lean that lists a variable, with what it lists TIED to the program's text (the seventh form; the later family's looks); each row that meets fmt, with fmt's text TOLD by the authors' own Lean function (tested against real Go, not proved from fmt's source: count such statements apart). THE CARD IS WHAT COUNTS. Prove the row's statement (the work); the ties are given (YtjlbpkokdlggiaaDoorTie.lean); close each card by the builder's one call (the guide's Derived/Test/ToyasCard.lean, 'card_holds'). Laid BY PROGRAM, IN A SANDBOX (cutbox-door.mjs). By AI agents, Wed Nov 11 2026. No macro, syntax, notation, axiom, sorry.
-/
import Derived.Test.YtjlbpkokdlggiaaDoorRows
import GoSem.ClaimSeven
namespace Go.Proofs.YtjlbpkokdlggiaaDoor
namespace Rows

/-- THE TIED CARD OF 'vmfleetlaw2.IsaDecodes'. -/
def isaDecodesCard : Claim7 := { stood := { row := isaDecodesRow, standIns := [], harness := (true, "b2f34bf26cec77b715f453e0335c8b5eaa845afdfc86519c64d7140b275993fe"), looks := false }, kinds := [], alts := [], laidByText := true, laidKinds := [.data, .data, .data, .data], laidTests := true, laidLooks := .later }
def IsaDecodesCardSaid : Prop := Claim7.holds Tryd.pinned (.plain (OpenSpec.ofChange isaDecodesSpec)) isaDecodesCard

/-- THE TIED CARD OF 'vmfleetlaw2.IsaFormats'. -/
def isaFormatsCard : Claim7 := { stood := { row := isaFormatsRow, standIns := [], harness := (true, "b2f34bf26cec77b715f453e0335c8b5eaa845afdfc86519c64d7140b275993fe"), looks := false }, kinds := [], alts := [], laidByText := true, laidKinds := [.data, .data, .data, .data], laidTests := true, laidLooks := .later }
def IsaFormatsCardSaid : Prop := Claim7.holds Tryd.pinned (.plain (OpenSpec.ofChange isaFormatsSpec)) isaFormatsCard

/-- THE TIED CARD OF 'vmfleetlaw2.IsaBits'. -/
def isaBitsCard : Claim7 := { stood := { row := isaBitsRow, standIns := [], harness := (true, "b2f34bf26cec77b715f453e0335c8b5eaa845afdfc86519c64d7140b275993fe"), looks := false }, kinds := [], alts := [], laidByText := true, laidKinds := [.data, .data, .data, .data], laidTests := true, laidLooks := .later }
def IsaBitsCardSaid : Prop := Claim7.holds Tryd.pinned (.plain (OpenSpec.ofChange isaBitsSpec)) isaBitsCard

/-- THE TIED CARD OF 'vmfleetlaw2.IsaUnused'. -/
def isaUnusedCard : Claim7 := { stood := { row := isaUnusedRow, standIns := [], harness := (true, "b2f34bf26cec77b715f453e0335c8b5eaa845afdfc86519c64d7140b275993fe"), looks := false }, kinds := [], alts := [], laidByText := true, laidKinds := [.data, .data, .data, .data], laidTests := true, laidLooks := .later }
def IsaUnusedCardSaid : Prop := Claim7.holds Tryd.pinned (.plain (OpenSpec.ofChange isaUnusedSpec)) isaUnusedCard

/-- THE TIED CARD OF 'vmfleetlaw3.AsmLimits'. -/
def asmLimitsCard : Claim7 := { stood := { row := asmLimitsRow, standIns := [], harness := (true, "b2f34bf26cec77b715f453e0335c8b5eaa845afdfc86519c64d7140b275993fe"), looks := false }, kinds := [], alts := [], laidByText := true, laidKinds := [.data, .data, .data, .data, .data, .pinned], laidTests := true, laidLooks := .later }
def AsmLimitsCardSaid : Prop := Claim7.holds Tryd.pinned (.plain (OpenSpec.ofChange asmLimitsSpec)) asmLimitsCard

/-- THE TIED CARD OF 'vmfleetlaw3.AsmReads'. -/
def asmReadsCard : Claim7 := { stood := { row := asmReadsRow, standIns := [], harness := (true, "b2f34bf26cec77b715f453e0335c8b5eaa845afdfc86519c64d7140b275993fe"), looks := false }, kinds := [], alts := [], laidByText := true, laidKinds := [.data, .data, .data, .data, .data, .pinned], laidTests := true, laidLooks := .later }
def AsmReadsCardSaid : Prop := Claim7.holds Tryd.pinned (.plain (OpenSpec.ofChange asmReadsSpec)) asmReadsCard

/-- THE TIED CARD OF 'vmfleetlaw3.AsmMoves'. -/
def asmMovesCard : Claim7 := { stood := { row := asmMovesRow, standIns := [], harness := (true, "b2f34bf26cec77b715f453e0335c8b5eaa845afdfc86519c64d7140b275993fe"), looks := false }, kinds := [], alts := [], laidByText := true, laidKinds := [.data, .data, .data, .data, .data, .pinned], laidTests := true, laidLooks := .later }
def AsmMovesCardSaid : Prop := Claim7.holds Tryd.pinned (.plain (OpenSpec.ofChange asmMovesSpec)) asmMovesCard

/-- THE TIED CARD OF 'vmfleetlaw3.AsmLabels'. -/
def asmLabelsCard : Claim7 := { stood := { row := asmLabelsRow, standIns := [], harness := (true, "b2f34bf26cec77b715f453e0335c8b5eaa845afdfc86519c64d7140b275993fe"), looks := false }, kinds := [], alts := [], laidByText := true, laidKinds := [.data, .data, .data, .data, .data, .pinned], laidTests := true, laidLooks := .later }
def AsmLabelsCardSaid : Prop := Claim7.holds Tryd.pinned (.plain (OpenSpec.ofChange asmLabelsSpec)) asmLabelsCard

/-- THE TIED CARD OF 'vmfleetlaw3.AsmJoins'. -/
def asmJoinsCard : Claim7 := { stood := { row := asmJoinsRow, standIns := [], harness := (true, "b2f34bf26cec77b715f453e0335c8b5eaa845afdfc86519c64d7140b275993fe"), looks := false }, kinds := [], alts := [], laidByText := true, laidKinds := [.data, .data, .data, .data, .data, .pinned], laidTests := true, laidLooks := .later }
def AsmJoinsCardSaid : Prop := Claim7.holds Tryd.pinned (.plain (OpenSpec.ofChange asmJoinsSpec)) asmJoinsCard

/-- THE TIED CARD OF 'vmfleetlaw3.AsmSpaces'. -/
def asmSpacesCard : Claim7 := { stood := { row := asmSpacesRow, standIns := [], harness := (true, "b2f34bf26cec77b715f453e0335c8b5eaa845afdfc86519c64d7140b275993fe"), looks := false }, kinds := [], alts := [], laidByText := true, laidKinds := [.data, .data, .data, .data, .data, .pinned], laidTests := true, laidLooks := .later }
def AsmSpacesCardSaid : Prop := Claim7.holds Tryd.pinned (.plain (OpenSpec.ofChange asmSpacesSpec)) asmSpacesCard

/-- THE SECOND FORM's CARD OF 'vmfleetlaw2.IsaDecodes'. -/
def isaDecodesUptoCard : Claim7 := { stood := { row := isaDecodesUptoRow, standIns := [], harness := (true, "b2f34bf26cec77b715f453e0335c8b5eaa845afdfc86519c64d7140b275993fe"), looks := false }, kinds := [], alts := [], laidByText := true, laidKinds := [.data, .data, .data, .data], laidTests := true, laidLooks := .later }
def IsaDecodesUptoCardSaid : Prop := Claim7.holds Tryd.pinned (.plain (OpenSpec.upto isaDecodesSpec)) isaDecodesUptoCard

/-- THE SECOND FORM's CARD OF 'vmfleetlaw2.IsaFormats'. -/
def isaFormatsUptoCard : Claim7 := { stood := { row := isaFormatsUptoRow, standIns := [], harness := (true, "b2f34bf26cec77b715f453e0335c8b5eaa845afdfc86519c64d7140b275993fe"), looks := false }, kinds := [], alts := [], laidByText := true, laidKinds := [.data, .data, .data, .data], laidTests := true, laidLooks := .later }
def IsaFormatsUptoCardSaid : Prop := Claim7.holds Tryd.pinned (.plain (OpenSpec.upto isaFormatsSpec)) isaFormatsUptoCard

/-- THE SECOND FORM's CARD OF 'vmfleetlaw2.IsaBits'. -/
def isaBitsUptoCard : Claim7 := { stood := { row := isaBitsUptoRow, standIns := [], harness := (true, "b2f34bf26cec77b715f453e0335c8b5eaa845afdfc86519c64d7140b275993fe"), looks := false }, kinds := [], alts := [], laidByText := true, laidKinds := [.data, .data, .data, .data], laidTests := true, laidLooks := .later }
def IsaBitsUptoCardSaid : Prop := Claim7.holds Tryd.pinned (.plain (OpenSpec.upto isaBitsSpec)) isaBitsUptoCard

/-- THE SECOND FORM's CARD OF 'vmfleetlaw2.IsaUnused'. -/
def isaUnusedUptoCard : Claim7 := { stood := { row := isaUnusedUptoRow, standIns := [], harness := (true, "b2f34bf26cec77b715f453e0335c8b5eaa845afdfc86519c64d7140b275993fe"), looks := false }, kinds := [], alts := [], laidByText := true, laidKinds := [.data, .data, .data, .data], laidTests := true, laidLooks := .later }
def IsaUnusedUptoCardSaid : Prop := Claim7.holds Tryd.pinned (.plain (OpenSpec.upto isaUnusedSpec)) isaUnusedUptoCard

/-- THE SECOND FORM's CARD OF 'vmfleetlaw3.AsmLimits'. -/
def asmLimitsUptoCard : Claim7 := { stood := { row := asmLimitsUptoRow, standIns := [], harness := (true, "b2f34bf26cec77b715f453e0335c8b5eaa845afdfc86519c64d7140b275993fe"), looks := false }, kinds := [], alts := [], laidByText := true, laidKinds := [.data, .data, .data, .data, .data, .pinned], laidTests := true, laidLooks := .later }
def AsmLimitsUptoCardSaid : Prop := Claim7.holds Tryd.pinned (.plain (OpenSpec.upto asmLimitsSpec)) asmLimitsUptoCard

/-- THE SECOND FORM's CARD OF 'vmfleetlaw3.AsmReads'. -/
def asmReadsUptoCard : Claim7 := { stood := { row := asmReadsUptoRow, standIns := [], harness := (true, "b2f34bf26cec77b715f453e0335c8b5eaa845afdfc86519c64d7140b275993fe"), looks := false }, kinds := [], alts := [], laidByText := true, laidKinds := [.data, .data, .data, .data, .data, .pinned], laidTests := true, laidLooks := .later }
def AsmReadsUptoCardSaid : Prop := Claim7.holds Tryd.pinned (.plain (OpenSpec.upto asmReadsSpec)) asmReadsUptoCard

/-- THE SECOND FORM's CARD OF 'vmfleetlaw3.AsmMoves'. -/
def asmMovesUptoCard : Claim7 := { stood := { row := asmMovesUptoRow, standIns := [], harness := (true, "b2f34bf26cec77b715f453e0335c8b5eaa845afdfc86519c64d7140b275993fe"), looks := false }, kinds := [], alts := [], laidByText := true, laidKinds := [.data, .data, .data, .data, .data, .pinned], laidTests := true, laidLooks := .later }
def AsmMovesUptoCardSaid : Prop := Claim7.holds Tryd.pinned (.plain (OpenSpec.upto asmMovesSpec)) asmMovesUptoCard

/-- THE SECOND FORM's CARD OF 'vmfleetlaw3.AsmLabels'. -/
def asmLabelsUptoCard : Claim7 := { stood := { row := asmLabelsUptoRow, standIns := [], harness := (true, "b2f34bf26cec77b715f453e0335c8b5eaa845afdfc86519c64d7140b275993fe"), looks := false }, kinds := [], alts := [], laidByText := true, laidKinds := [.data, .data, .data, .data, .data, .pinned], laidTests := true, laidLooks := .later }
def AsmLabelsUptoCardSaid : Prop := Claim7.holds Tryd.pinned (.plain (OpenSpec.upto asmLabelsSpec)) asmLabelsUptoCard

/-- THE SECOND FORM's CARD OF 'vmfleetlaw3.AsmJoins'. -/
def asmJoinsUptoCard : Claim7 := { stood := { row := asmJoinsUptoRow, standIns := [], harness := (true, "b2f34bf26cec77b715f453e0335c8b5eaa845afdfc86519c64d7140b275993fe"), looks := false }, kinds := [], alts := [], laidByText := true, laidKinds := [.data, .data, .data, .data, .data, .pinned], laidTests := true, laidLooks := .later }
def AsmJoinsUptoCardSaid : Prop := Claim7.holds Tryd.pinned (.plain (OpenSpec.upto asmJoinsSpec)) asmJoinsUptoCard

/-- THE SECOND FORM's CARD OF 'vmfleetlaw3.AsmSpaces'. -/
def asmSpacesUptoCard : Claim7 := { stood := { row := asmSpacesUptoRow, standIns := [], harness := (true, "b2f34bf26cec77b715f453e0335c8b5eaa845afdfc86519c64d7140b275993fe"), looks := false }, kinds := [], alts := [], laidByText := true, laidKinds := [.data, .data, .data, .data, .data, .pinned], laidTests := true, laidLooks := .later }
def AsmSpacesUptoCardSaid : Prop := Claim7.holds Tryd.pinned (.plain (OpenSpec.upto asmSpacesSpec)) asmSpacesUptoCard
end Rows
end Go.Proofs.YtjlbpkokdlggiaaDoor
