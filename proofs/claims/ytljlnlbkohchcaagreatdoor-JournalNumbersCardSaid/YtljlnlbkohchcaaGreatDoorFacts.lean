/- The row's closed facts together. Conditions: none. -/
import Derived.Test.YtljlnlbkohchcaaGreatDoorFact0
import Derived.Test.YtljlnlbkohchcaaGreatDoorFact1
import Derived.Test.YtljlnlbkohchcaaGreatDoorFact2
import Derived.Test.YtljlnlbkohchcaaGreatDoorFact3
namespace Go.Proofs.YtljlnlbkohchcaaGreatDoor
open Go
set_option maxRecDepth 100000

theorem and_mk {a b : Bool} (h : a = true) (k : b = true) : (a && b) = true := by rw [h, k]; rfl
theorem joinedF : joinedFacts Tryz.prog 3 Tryz.f3 Rows.journalNumbersSpec Rows.journalNumbersRow = true := by
  unfold joinedFacts
  exact and_mk (and_mk (and_mk (and_mk (and_mk (and_mk (and_mk (and_mk (and_mk (and_mk (and_mk (and_mk (and_mk (and_mk (and_mk (and_mk (and_mk (and_mk (and_mk (and_mk (and_mk (and_mk (and_mk (and_mk (and_mk (and_mk (and_mk (and_mk (and_mk (and_mk (and_mk (fact_wf) fact_laidOut) fact_maps1) fact_params) fact_namedT) fact_stops1) fact_stops2) fact_knobs1) fact_knobs2) fact_inPl) fact_unfol) fact_recur) fact_varsN) fact_mapsA) fact_ifacA) fact_mapsO) fact_loopA) fact_wideK) fact_varsR) fact_resR) fact_ifacO) fact_loopO) fact_plainK) fact_shortT) fact_heard) fact_enter) fact_lift) fact_make1) fact_kinds) fact_pin) fact_veil1) fact_veil2

end Go.Proofs.YtljlnlbkohchcaaGreatDoor
