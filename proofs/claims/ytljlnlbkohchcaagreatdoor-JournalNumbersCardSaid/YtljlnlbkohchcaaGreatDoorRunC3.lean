/- A call over known blocks, run by the kernel. Conditions: none. -/
import Derived.Test.YtljlnlbkohchcaaGreatDoorRunB
namespace Go.Proofs.YtljlnlbkohchcaaGreatDoor
open Go Go.Ab
noncomputable section
set_option maxRecDepth 100000

theorem runS3 : must Tryz.prog ext0 yes (prOf pt2) fuel (.call 41 seen3.args false .run) { heap := heapK seen3.pre, next := seen3.next } (fun o s => retS seen3 o s = true) = (true = true) := by kernel_rfl
theorem okS3 : SeenOk Tryz.prog ext0 yes (prOf pt2) 41 seen3 := ⟨⟨fuel, runS3⟩, by kernel_rfl⟩

end
end Go.Proofs.YtljlnlbkohchcaaGreatDoor
