/- Plain calls, run by the kernel: those that lean on none. Conditions: none. -/
import Derived.Test.YtlmlhmphaidnoaaGreatDoorRunTabs
namespace Go.Proofs.YtlmlhmphaidnoaaGreatDoor
open Go Go.Ab
noncomputable section
set_option maxRecDepth 100000

theorem run198 : chain Tryz.prog ext0 yes (prOf []) fuel 198 [] tab198 = (true = true) := by kernel_rfl
theorem ok198 : PrimOk Tryz.prog 198 (memoG [] tab198) := memo_ok s0 (by kernel_rfl) run198 (by kernel_rfl)
theorem run230 : chain Tryz.prog ext0 yes (prOf []) fuel 230 [] tab230 = (true = true) := by kernel_rfl
theorem ok230 : PrimOk Tryz.prog 230 (memoG [] tab230) := memo_ok s0 (by kernel_rfl) run230 (by kernel_rfl)

end
end Go.Proofs.YtlmlhmphaidnoaaGreatDoor
