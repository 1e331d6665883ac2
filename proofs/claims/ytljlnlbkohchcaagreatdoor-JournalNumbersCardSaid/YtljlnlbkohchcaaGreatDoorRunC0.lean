/- A call over known blocks, run by the kernel. Conditions: none. -/
import Derived.Test.YtljlnlbkohchcaaGreatDoorRunB
namespace Go.Proofs.YtljlnlbkohchcaaGreatDoor
open Go Go.Ab
noncomputable section
set_option maxRecDepth 100000

theorem runS0 : must Tryz.prog ext0 yes (prOf pt2) fuel (.call 19 seen0.args false .run) { heap := heapK seen0.pre, next := seen0.next } (fun o s => retS seen0 o s = true) = (true = true) := by kernel_rfl
theorem okS0 : SeenOk Tryz.prog ext0 yes (prOf pt2) 19 seen0 := ⟨⟨fuel, runS0⟩, by kernel_rfl⟩

end
end Go.Proofs.YtljlnlbkohchcaaGreatDoor
