/- PlanNames answers true, and the table that it reads is the one that the program's text lays: the tied card. -/
import Derived.Test.YtlmlhmphaidnoaaGreatDoorProofs
import Derived.Test.YtlmlhmphaidnoaaGreatDoorTie
import Derived.Test.YtlmlhmphaidnoaaGreatDoorCards
import Derived.SevenTiedAt
namespace Go.Proofs.YtlmlhmphaidnoaaGreatDoor
open Go

theorem planNames_holds : Rows.PlanNamesCardSaid :=
  Claim7.holds_tied_plain_at .later [] [.data] true (true, "4abf6659788c1fe2dd8b85f6ce097705f0a67b3b3605e5068a525109755f0e9d") true
    said (fun _ h => by cases h) (by kernel_rfl) (fun _ h => by cases h) planNames_row_tie rfl ⟨rfl, rfl⟩ (by kernel_rfl) rfl
    (fun f fn hf hfn => by
      obtain rfl : f = 3 := Option.some.inj (named3.symm.trans hf) |>.symm
      obtain rfl : fn = Tryz.f3 := (Option.some.inj (Tryz.func3.symm.trans hfn)).symm
      exact ⟨by kernel_rfl, fun j t ht => by
        rw [params3] at ht
        simp at ht⟩)
    (by kernel_rfl)
#print axioms planNames_holds
end Go.Proofs.YtlmlhmphaidnoaaGreatDoor
