/- JournalNumbers answers true, and the variables that it names hold what the program's text lays: the tied card. -/
import Derived.Test.YtljlnlbkohchcaaGreatDoorProofs
import Derived.Test.YtljlnlbkohchcaaGreatDoorTie
import Derived.Test.YtljlnlbkohchcaaGreatDoorCards
import Derived.SevenTiedAt
namespace Go.Proofs.YtljlnlbkohchcaaGreatDoor
open Go

theorem journalNumbers_holds : Rows.JournalNumbersCardSaid :=
  Claim7.holds_tied_plain_at .later [] [.data, .data, .data, .data, .data, .handle, .sentinel, .sentinel, .pinned] true (true, "d4f71b7f4b6f78880fee08fa5be919c03d8504184a8998f349f8c4148ab43ceb") true
    said (fun _ h => by cases h) (by kernel_rfl) (fun _ h => by cases h) journalNumbers_row_tie rfl ⟨rfl, rfl⟩ (by kernel_rfl) rfl
    (fun f fn hf hfn => by
      obtain rfl : f = 3 := Option.some.inj (named3.symm.trans hf) |>.symm
      obtain rfl : fn = Tryz.f3 := (Option.some.inj (Tryz.func3.symm.trans hfn)).symm
      exact ⟨by kernel_rfl, fun j t ht => by
        rw [params3] at ht
        simp at ht⟩)
    (by kernel_rfl)
#print axioms journalNumbers_holds
end Go.Proofs.YtljlnlbkohchcaaGreatDoor
