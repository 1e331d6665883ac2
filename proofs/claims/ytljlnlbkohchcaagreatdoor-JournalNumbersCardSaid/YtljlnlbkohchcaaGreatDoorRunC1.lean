/- A call over known blocks, run by the kernel. Conditions: none. -/
import Derived.Test.YtljlnlbkohchcaaGreatDoorRunB
namespace Go.Proofs.YtljlnlbkohchcaaGreatDoor
open Go Go.Ab
noncomputable section
set_option maxRecDepth 100000

theorem runS1 : must Tryz.prog ext0 yes (prOf pt2) fuel (.call 41 seen1.args false .run) { heap := heapK seen1.pre, next := seen1.next } (fun o s => retS seen1 o s = true) = (true = true) := by kernel_rfl
theorem okS1 : SeenOk Tryz.prog ext0 yes (prOf pt2) 41 seen1 := ⟨⟨fuel, runS1⟩, by kernel_rfl⟩

end
end Go.Proofs.YtljlnlbkohchcaaGreatDoor
