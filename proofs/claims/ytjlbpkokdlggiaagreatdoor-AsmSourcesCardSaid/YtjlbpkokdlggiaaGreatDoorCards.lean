/-
  DERIVED. GIVEN WITH THE SEED: THE CARDS: each row of YtjlbpkokdlggiaaGreatDoorRows.lean that lists a variable, with what it lists TIED to the program's text (the seventh form; the later family's looks); each row that meets fmt, with fmt's text TOLD by the authors' own Lean function (tested against real Go, not proved from fmt's source: count such statements apart). THE CARD IS WHAT COUNTS. Prove the row's statement (the work); the ties are given (YtjlbpkokdlggiaaGreatDoorTie.lean); close each card by the builder's one call (the guide's Derived/Test/ToyasCard.lean, 'card_holds'). Laid BY PROGRAM, IN A SANDBOX (cutbox-door.mjs). By AI agents, Wed Nov 11 2026. No macro, syntax, notation, axiom, sorry.
-/
import Derived.Test.YtjlbpkokdlggiaaGreatDoorRows
import GoSem.ClaimSeven
namespace Go.Proofs.YtjlbpkokdlggiaaGreatDoor
namespace Rows

/-- THE TIED CARD OF 'vmfleetlaw3.AsmSources'. -/
def asmSourcesCard : Claim7 := { stood := { row := asmSourcesRow, standIns := [], harness := (true, "2be9aac13a5f8e54a6efc9a28ca3b1d966b01f12359e4416d4864f625a287015"), looks := false }, kinds := [], alts := [], laidByText := true, laidKinds := [.data, .data, .data, .data, .data, .pinned], laidTests := true, laidLooks := .later }
def AsmSourcesCardSaid : Prop := Claim7.holds Tryz.pinned (.plain (OpenSpec.ofChange asmSourcesSpec)) asmSourcesCard

/-- THE TIED CARD OF 'vmfleetlaw3.AsmBack'. -/
def asmBackCard : Claim7 := { stood := { row := asmBackRow, standIns := [], harness := (true, "2be9aac13a5f8e54a6efc9a28ca3b1d966b01f12359e4416d4864f625a287015"), looks := false }, kinds := [], alts := [], laidByText := true, laidKinds := [.data, .data, .data, .data, .data, .pinned], laidTests := true, laidLooks := .later }
def AsmBackCardSaid : Prop := Claim7.holds Tryz.pinned (.plain (OpenSpec.ofChange asmBackSpec)) asmBackCard

/-- THE SECOND FORM's CARD OF 'vmfleetlaw3.AsmSources'. -/
def asmSourcesUptoCard : Claim7 := { stood := { row := asmSourcesUptoRow, standIns := [], harness := (true, "2be9aac13a5f8e54a6efc9a28ca3b1d966b01f12359e4416d4864f625a287015"), looks := false }, kinds := [], alts := [], laidByText := true, laidKinds := [.data, .data, .data, .data, .data, .pinned], laidTests := true, laidLooks := .later }
def AsmSourcesUptoCardSaid : Prop := Claim7.holds Tryz.pinned (.plain (OpenSpec.upto asmSourcesSpec)) asmSourcesUptoCard

/-- THE SECOND FORM's CARD OF 'vmfleetlaw3.AsmBack'. -/
def asmBackUptoCard : Claim7 := { stood := { row := asmBackUptoRow, standIns := [], harness := (true, "2be9aac13a5f8e54a6efc9a28ca3b1d966b01f12359e4416d4864f625a287015"), looks := false }, kinds := [], alts := [], laidByText := true, laidKinds := [.data, .data, .data, .data, .data, .pinned], laidTests := true, laidLooks := .later }
def AsmBackUptoCardSaid : Prop := Claim7.holds Tryz.pinned (.plain (OpenSpec.upto asmBackSpec)) asmBackUptoCard
end Rows
end Go.Proofs.YtjlbpkokdlggiaaGreatDoor
