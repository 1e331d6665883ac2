/- Plain calls, run by the kernel: those that lean on none. Conditions: none. -/
import Derived.Test.YtljlnlbkohchcaaGreatDoorRunTabs
namespace Go.Proofs.YtljlnlbkohchcaaGreatDoor
open Go Go.Ab
noncomputable section
set_option maxRecDepth 100000

theorem run36 : chain Tryz.prog ext0 yes (prOf []) fuel 36 [] tab36 = (true = true) := by kernel_rfl
theorem ok36 : PrimOk Tryz.prog 36 (memoG [] tab36) := memo_ok s0 (by kernel_rfl) run36 (by kernel_rfl)
theorem run238 : chain Tryz.prog ext0 yes (prOf []) fuel 238 [] tab238 = (true = true) := by kernel_rfl
theorem ok238 : PrimOk Tryz.prog 238 (memoG [] tab238) := memo_ok s0 (by kernel_rfl) run238 (by kernel_rfl)
theorem run160 : chain Tryz.prog ext0 yes (prOf []) fuel 160 [] tab160 = (true = true) := by kernel_rfl
theorem ok160 : PrimOk Tryz.prog 160 (memoG [] tab160) := memo_ok s0 (by kernel_rfl) run160 (by kernel_rfl)
theorem run107 : chain Tryz.prog ext0 yes (prOf []) fuel 107 [] tab107 = (true = true) := by kernel_rfl
theorem ok107 : PrimOk Tryz.prog 107 (memoG [] tab107) := memo_ok s0 (by kernel_rfl) run107 (by kernel_rfl)
theorem run159 : chain Tryz.prog ext0 yes (prOf []) fuel 159 [] tab159 = (true = true) := by kernel_rfl
theorem ok159 : PrimOk Tryz.prog 159 (memoG [] tab159) := memo_ok s0 (by kernel_rfl) run159 (by kernel_rfl)
theorem run156 : chain Tryz.prog ext0 yes (prOf []) fuel 156 [] tab156 = (true = true) := by kernel_rfl
theorem ok156 : PrimOk Tryz.prog 156 (memoG [] tab156) := memo_ok s0 (by kernel_rfl) run156 (by kernel_rfl)
theorem run31 : chain Tryz.prog ext0 yes (prOf []) fuel 31 [] tab31 = (true = true) := by kernel_rfl
theorem ok31 : PrimOk Tryz.prog 31 (memoG [] tab31) := memo_ok s0 (by kernel_rfl) run31 (by kernel_rfl)
theorem run33 : chain Tryz.prog ext0 yes (prOf []) fuel 33 [] tab33 = (true = true) := by kernel_rfl
theorem ok33 : PrimOk Tryz.prog 33 (memoG [] tab33) := memo_ok s0 (by kernel_rfl) run33 (by kernel_rfl)
theorem run166 : chain Tryz.prog ext0 yes (prOf []) fuel 166 [] tab166 = (true = true) := by kernel_rfl
theorem ok166 : PrimOk Tryz.prog 166 (memoG [] tab166) := memo_ok s0 (by kernel_rfl) run166 (by kernel_rfl)
theorem run191 : chain Tryz.prog ext0 yes (prOf []) fuel 191 [] tab191 = (true = true) := by kernel_rfl
theorem ok191 : PrimOk Tryz.prog 191 (memoG [] tab191) := memo_ok s0 (by kernel_rfl) run191 (by kernel_rfl)
theorem run116 : chain Tryz.prog ext0 yes (prOf []) fuel 116 [] tab116 = (true = true) := by kernel_rfl
theorem ok116 : PrimOk Tryz.prog 116 (memoG [] tab116) := memo_ok s0 (by kernel_rfl) run116 (by kernel_rfl)
theorem run44 : chain Tryz.prog ext0 yes (prOf []) fuel 44 [] tab44 = (true = true) := by kernel_rfl
theorem ok44 : PrimOk Tryz.prog 44 (memoG [] tab44) := memo_ok s0 (by kernel_rfl) run44 (by kernel_rfl)

end
end Go.Proofs.YtljlnlbkohchcaaGreatDoor
