/- A call over known blocks, run by the kernel. Conditions: none. -/
import Derived.Test.YtljlnlbkohchcaaGreatDoorRunB
namespace Go.Proofs.YtljlnlbkohchcaaGreatDoor
open Go Go.Ab
noncomputable section
set_option maxRecDepth 100000

theorem runS6 : must Tryz.prog ext0 yes (prOf pt2) fuel (.call 41 seen6.args false .run) { heap := heapK seen6.pre, next := seen6.next } (fun o s => retS seen6 o s = true) = (true = true) := by kernel_rfl
theorem okS6 : SeenOk Tryz.prog ext0 yes (prOf pt2) 41 seen6 := ⟨⟨fuel, runS6⟩, by kernel_rfl⟩

end
end Go.Proofs.YtljlnlbkohchcaaGreatDoor
