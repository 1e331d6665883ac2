/- Closed facts of the row, by the kernel. Conditions: none. -/
import Derived.Test.YtljlnlbkohchcaaGreatDoorRows
import Derived.JoinedOf
import Derived.KernelRfl
namespace Go.Proofs.YtljlnlbkohchcaaGreatDoor
open Go
set_option maxRecDepth 100000

theorem fact_varsN : (Rows.journalNumbersRow.named == Tryz.prog.varsNamed 3) = true := by kernel_rfl

end Go.Proofs.YtljlnlbkohchcaaGreatDoor
