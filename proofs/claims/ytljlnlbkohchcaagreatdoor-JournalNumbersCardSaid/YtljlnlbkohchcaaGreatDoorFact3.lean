/- Closed facts of the row, by the kernel. Conditions: none. -/
import Derived.Test.YtljlnlbkohchcaaGreatDoorRows
import Derived.JoinedOf
import Derived.KernelRfl
namespace Go.Proofs.YtljlnlbkohchcaaGreatDoor
open Go
set_option maxRecDepth 100000

theorem fact_wf : Rows.journalNumbersRow.wf (OpenSpec.ofChange Rows.journalNumbersSpec) = true := by kernel_rfl
theorem fact_laidOut : laidOutB Tryz.prog = true := by kernel_rfl
theorem fact_maps1 : mapsRowed Tryz.prog = true := by kernel_rfl
theorem fact_params : Tryz.f3.params.all (Tryz.prog.readableRec ·) = true := by kernel_rfl
theorem fact_namedT : namedTie Tryz.prog Rows.journalNumbersRow.named Rows.journalNumbersSpec.vars = true := by kernel_rfl
theorem fact_stops1 : (Rows.journalNumbersRow.stops == []) = true := by kernel_rfl
theorem fact_stops2 : (Tryz.prog.stops == []) = true := by kernel_rfl
theorem fact_knobs1 : (Rows.journalNumbersRow.knobs == []) = true := by kernel_rfl
theorem fact_knobs2 : (Tryz.prog.stopKnobs == []) = true := by kernel_rfl
theorem fact_mapsA : (Rows.journalNumbersRow.maps == (Tryz.f3.params.toList ++ Rows.journalNumbersSpec.plain.varTypes Tryz.prog).any (Tryz.prog.mapsRec ·)) = true := by kernel_rfl
theorem fact_ifacA : (Rows.journalNumbersRow.ifaces == (Tryz.f3.params.toList ++ Rows.journalNumbersSpec.plain.varTypes Tryz.prog).any (Tryz.prog.ifacesRec ·)) = true := by kernel_rfl
theorem fact_mapsO : (Rows.journalNumbersRow.mapsOut == Tryz.prog.mapsAmong Tryz.f3.resultTypes.toList) = true := by kernel_rfl
theorem fact_loopA : (Rows.journalNumbersRow.loops == (Tryz.f3.params.toList ++ Rows.journalNumbersSpec.plain.varTypes Tryz.prog).any (Tryz.prog.loopsFrom ·)) = true := by kernel_rfl
theorem fact_wideK : (Rows.journalNumbersRow.wideKeys == (Tryz.f3.params.toList ++ Rows.journalNumbersSpec.plain.varTypes Tryz.prog ++ Tryz.f3.resultTypes.toList).any (Tryz.prog.wideKeysFrom ·)) = true := by kernel_rfl
theorem fact_varsR : Rows.journalNumbersSpec.vars.all (Tryz.prog.varReadable ·) = true := by kernel_rfl
theorem fact_resR : Tryz.f3.resultTypes.all (fun t => Tryz.prog.readableRec t && decide (t < Tryz.prog.types.size)) = true := by kernel_rfl
theorem fact_ifacO : (Rows.journalNumbersRow.ifacesOut == Tryz.f3.resultTypes.toList.any (Tryz.prog.ifacesRec ·)) = true := by kernel_rfl
theorem fact_loopO : (Rows.journalNumbersRow.loopsOut == Tryz.f3.resultTypes.toList.any (Tryz.prog.loopsFrom ·)) = true := by kernel_rfl
theorem fact_plainK : (Rows.journalNumbersRow.plainKeys == Tryz.prog.plainKeys) = true := by kernel_rfl
theorem fact_shortT : Rows.journalNumbersRow.shortTexts.isNone = true := by kernel_rfl
theorem fact_heard : Tryz.prog.stopsHeard = true := by kernel_rfl
theorem fact_enter : Tryz.prog.mayEnter = true := by kernel_rfl
theorem fact_lift : (Rows.journalNumbersRow.lifted == Tryz.prog.liftsFinal) = true := by kernel_rfl
theorem fact_make1 : (Tryz.prog.make == some Rows.journalNumbersRow.make) = true := by kernel_rfl
theorem fact_kinds : (Rows.journalNumbersRow.kinds == (if Rows.journalNumbersRow.domain.isEmpty then [] else Tryz.f3.params.toList.map fun t => match Tryz.prog.underlying t with | some (.int k) => some k | _ => none)) = true := by kernel_rfl
theorem fact_pin : (Rows.journalNumbersRow.pinned == Rows.journalNumbersRow.pinnedBy) = true := by kernel_rfl
theorem fact_veil1 : (Rows.journalNumbersRow.veiled == (Tryz.f3.params.toList ++ Rows.journalNumbersSpec.plain.varTypes Tryz.prog ++ Tryz.f3.resultTypes.toList).any (Tryz.prog.veiledRec ·)) = true := by kernel_rfl
theorem fact_veil2 : Rows.journalNumbersRow.veiledFits Tryz.prog Tryz.f3.params.toList (Tryz.f3.params.toList ++ Rows.journalNumbersSpec.plain.varTypes Tryz.prog ++ Tryz.f3.resultTypes.toList) = true := by kernel_rfl

end Go.Proofs.YtljlnlbkohchcaaGreatDoor
