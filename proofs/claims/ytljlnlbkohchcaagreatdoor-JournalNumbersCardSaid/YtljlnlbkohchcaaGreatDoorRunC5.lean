/- A call over known blocks, run by the kernel. Conditions: none. -/
import Derived.Test.YtljlnlbkohchcaaGreatDoorRunB
namespace Go.Proofs.YtljlnlbkohchcaaGreatDoor
open Go Go.Ab
noncomputable section
set_option maxRecDepth 100000

theorem runS5 : must Tryz.prog ext0 yes (prOf pt2) fuel (.call 41 seen5.args false .run) { heap := heapK seen5.pre, next := seen5.next } (fun o s => retS seen5 o s = true) = (true = true) := by kernel_rfl
theorem okS5 : SeenOk Tryz.prog ext0 yes (prOf pt2) 41 seen5 := ⟨⟨fuel, runS5⟩, by kernel_rfl⟩

end
end Go.Proofs.YtljlnlbkohchcaaGreatDoor
