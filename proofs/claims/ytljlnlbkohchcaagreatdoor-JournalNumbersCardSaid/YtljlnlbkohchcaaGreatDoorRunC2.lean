/- A call over known blocks, run by the kernel. Conditions: none. -/
import Derived.Test.YtljlnlbkohchcaaGreatDoorRunB
namespace Go.Proofs.YtljlnlbkohchcaaGreatDoor
open Go Go.Ab
noncomputable section
set_option maxRecDepth 100000

theorem runS2 : must Tryz.prog ext0 yes (prOf pt2) fuel (.call 41 seen2.args false .run) { heap := heapK seen2.pre, next := seen2.next } (fun o s => retS seen2 o s = true) = (true = true) := by kernel_rfl
theorem okS2 : SeenOk Tryz.prog ext0 yes (prOf pt2) 41 seen2 := ⟨⟨fuel, runS2⟩, by kernel_rfl⟩

end
end Go.Proofs.YtljlnlbkohchcaaGreatDoor
