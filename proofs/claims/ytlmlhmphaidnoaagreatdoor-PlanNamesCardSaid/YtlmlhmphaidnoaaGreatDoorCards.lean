/-
  DERIVED. GIVEN WITH THE SEED: THE CARDS: each row of YtlmlhmphaidnoaaGreatDoorRows.lean that lists a variable, with what it lists TIED to the program's text (the seventh form; the later family's looks); each row that meets fmt, with fmt's text TOLD by the authors' own Lean function (tested against real Go, not proved from fmt's source: count such statements apart). THE CARD IS WHAT COUNTS. Prove the row's statement (the work); the ties are given (YtlmlhmphaidnoaaGreatDoorTie.lean); close each card by the builder's one call (the guide's Derived/Test/ToyasCard.lean, 'card_holds'). Laid BY PROGRAM, IN A SANDBOX (cutbox-door.mjs). By AI agents, Wed Nov 11 2026. No macro, syntax, notation, axiom, sorry.
-/
import Derived.Test.YtlmlhmphaidnoaaGreatDoorRows
import GoSem.ClaimSeven
namespace Go.Proofs.YtlmlhmphaidnoaaGreatDoor
namespace Rows

/-- THE TIED CARD OF 'backfilllaw22.PlanNames'. -/
def planNamesCard : Claim7 := { stood := { row := planNamesRow, standIns := [], harness := (true, "4abf6659788c1fe2dd8b85f6ce097705f0a67b3b3605e5068a525109755f0e9d"), looks := true }, kinds := [], alts := [], laidByText := true, laidKinds := [.data], laidTests := true, laidLooks := .later }
def PlanNamesCardSaid : Prop := Claim7.holds Tryz.pinned (.plain (OpenSpec.ofChange planNamesSpec)) planNamesCard

/-- THE SECOND FORM's CARD OF 'backfilllaw22.PlanNames'. -/
def planNamesUptoCard : Claim7 := { stood := { row := planNamesUptoRow, standIns := [], harness := (true, "4abf6659788c1fe2dd8b85f6ce097705f0a67b3b3605e5068a525109755f0e9d"), looks := true }, kinds := [], alts := [], laidByText := true, laidKinds := [.data], laidTests := true, laidLooks := .later }
def PlanNamesUptoCardSaid : Prop := Claim7.holds Tryz.pinned (.plain (OpenSpec.upto planNamesSpec)) planNamesUptoCard
end Rows
end Go.Proofs.YtlmlhmphaidnoaaGreatDoor
