/- Plain calls, run by the kernel: those that lean on none. Conditions: none. -/
import Derived.Test.YtlmlhmphaidnoaaGreatDoorRunTabs
namespace Go.Proofs.YtlmlhmphaidnoaaGreatDoor
open Go Go.Ab
noncomputable section
set_option maxRecDepth 100000

theorem run89 : chain Tryz.prog ext0 yes (prOf []) fuel 89 [] tab89 = (true = true) := by kernel_rfl
theorem ok89 : PrimOk Tryz.prog 89 (memoG [] tab89) := memo_ok s0 (by kernel_rfl) run89 (by kernel_rfl)
theorem run151 : chain Tryz.prog ext0 yes (prOf []) fuel 151 [] tab151 = (true = true) := by kernel_rfl
theorem ok151 : PrimOk Tryz.prog 151 (memoG [] tab151) := memo_ok s0 (by kernel_rfl) run151 (by kernel_rfl)
theorem run203 : chain Tryz.prog ext0 yes (prOf []) fuel 203 [] tab203 = (true = true) := by kernel_rfl
theorem ok203 : PrimOk Tryz.prog 203 (memoG [] tab203) := memo_ok s0 (by kernel_rfl) run203 (by kernel_rfl)
theorem run275 : chain Tryz.prog ext0 yes (prOf []) fuel 275 [] tab275 = (true = true) := by kernel_rfl
theorem ok275 : PrimOk Tryz.prog 275 (memoG [] tab275) := memo_ok s0 (by kernel_rfl) run275 (by kernel_rfl)
theorem run87 : chain Tryz.prog ext0 yes (prOf []) fuel 87 [] tab87 = (true = true) := by kernel_rfl
theorem ok87 : PrimOk Tryz.prog 87 (memoG [] tab87) := memo_ok s0 (by kernel_rfl) run87 (by kernel_rfl)
theorem run263 : chain Tryz.prog ext0 yes (prOf []) fuel 263 [] tab263 = (true = true) := by kernel_rfl
theorem ok263 : PrimOk Tryz.prog 263 (memoG [] tab263) := memo_ok s0 (by kernel_rfl) run263 (by kernel_rfl)
theorem run88 : chain Tryz.prog ext0 yes (prOf []) fuel 88 [] tab88 = (true = true) := by kernel_rfl
theorem ok88 : PrimOk Tryz.prog 88 (memoG [] tab88) := memo_ok s0 (by kernel_rfl) run88 (by kernel_rfl)
theorem run49 : chain Tryz.prog ext0 yes (prOf []) fuel 49 [] tab49 = (true = true) := by kernel_rfl
theorem ok49 : PrimOk Tryz.prog 49 (memoG [] tab49) := memo_ok s0 (by kernel_rfl) run49 (by kernel_rfl)
theorem run124 : chain Tryz.prog ext0 yes (prOf []) fuel 124 [] tab124 = (true = true) := by kernel_rfl
theorem ok124 : PrimOk Tryz.prog 124 (memoG [] tab124) := memo_ok s0 (by kernel_rfl) run124 (by kernel_rfl)
theorem run126 : chain Tryz.prog ext0 yes (prOf []) fuel 126 [] tab126 = (true = true) := by kernel_rfl
theorem ok126 : PrimOk Tryz.prog 126 (memoG [] tab126) := memo_ok s0 (by kernel_rfl) run126 (by kernel_rfl)

end
end Go.Proofs.YtlmlhmphaidnoaaGreatDoor
