/- A call over known blocks, run by the kernel. Conditions: none. -/
import Derived.Test.YtljlnlbkohchcaaGreatDoorRunB
namespace Go.Proofs.YtljlnlbkohchcaaGreatDoor
open Go Go.Ab
noncomputable section
set_option maxRecDepth 100000

theorem runS4 : must Tryz.prog ext0 yes (prOf pt2) fuel (.call 19 seen4.args false .run) { heap := heapK seen4.pre, next := seen4.next } (fun o s => retS seen4 o s = true) = (true = true) := by kernel_rfl
theorem okS4 : SeenOk Tryz.prog ext0 yes (prOf pt2) 19 seen4 := ⟨⟨fuel, runS4⟩, by kernel_rfl⟩

end
end Go.Proofs.YtljlnlbkohchcaaGreatDoor
