/-
  DERIVED. GIVEN WITH THE SEED: THE CARDS: each row of YtljlnlbkohchcaaGreatDoorRows.lean that lists a variable, with what it lists TIED to the program's text (the seventh form; the later family's looks); each row that meets fmt, with fmt's text TOLD by the authors' own Lean function (tested against real Go, not proved from fmt's source: count such statements apart). THE CARD IS WHAT COUNTS. Prove the row's statement (the work); the ties are given (YtljlnlbkohchcaaGreatDoorTie.lean); close each card by the builder's one call (the guide's Derived/Test/ToyasCard.lean, 'card_holds'). Laid BY PROGRAM, IN A SANDBOX (cutbox-door.mjs). By AI agents, Wed Nov 11 2026. No macro, syntax, notation, axiom, sorry.
-/
import Derived.Test.YtljlnlbkohchcaaGreatDoorRows
import GoSem.ClaimSeven
namespace Go.Proofs.YtljlnlbkohchcaaGreatDoor
namespace Rows

/-- THE TIED CARD OF 'backfilllaw23.JournalNumbers'. -/
def journalNumbersCard : Claim7 := { stood := { row := journalNumbersRow, standIns := [], harness := (true, "d4f71b7f4b6f78880fee08fa5be919c03d8504184a8998f349f8c4148ab43ceb"), looks := true }, kinds := [], alts := [], laidByText := true, laidKinds := [.data, .data, .data, .data, .data, .handle, .sentinel, .sentinel, .pinned], laidTests := true, laidLooks := .later }
def JournalNumbersCardSaid : Prop := Claim7.holds Tryz.pinned (.plain (OpenSpec.ofChange journalNumbersSpec)) journalNumbersCard

/-- THE SECOND FORM's CARD OF 'backfilllaw23.JournalNumbers'. -/
def journalNumbersUptoCard : Claim7 := { stood := { row := journalNumbersUptoRow, standIns := [], harness := (true, "d4f71b7f4b6f78880fee08fa5be919c03d8504184a8998f349f8c4148ab43ceb"), looks := true }, kinds := [], alts := [], laidByText := true, laidKinds := [.data, .data, .data, .data, .data, .handle, .sentinel, .sentinel, .pinned], laidTests := true, laidLooks := .later }
def JournalNumbersUptoCardSaid : Prop := Claim7.holds Tryz.pinned (.plain (OpenSpec.upto journalNumbersSpec)) journalNumbersUptoCard
end Rows
end Go.Proofs.YtljlnlbkohchcaaGreatDoor
