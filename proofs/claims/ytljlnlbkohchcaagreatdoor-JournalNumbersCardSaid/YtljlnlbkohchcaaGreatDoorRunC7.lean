/- A call over known blocks, run by the kernel. Conditions: none. -/
import Derived.Test.YtljlnlbkohchcaaGreatDoorRunB
namespace Go.Proofs.YtljlnlbkohchcaaGreatDoor
open Go Go.Ab
noncomputable section
set_option maxRecDepth 100000

theorem runS7 : must Tryz.prog ext0 yes (prOf pt2) fuel (.call 54 seen7.args false .run) { heap := heapK seen7.pre, next := seen7.next } (fun o s => retS seen7 o s = true) = (true = true) := by kernel_rfl
theorem okS7 : SeenOk Tryz.prog ext0 yes (prOf pt2) 54 seen7 := ⟨⟨fuel, runS7⟩, by kernel_rfl⟩

end
end Go.Proofs.YtljlnlbkohchcaaGreatDoor
