/- The whole call, run by the kernel. Conditions: none. -/
import Derived.Test.YtlmlhmphaidnoaaGreatDoorRunC0
import Derived.Test.YtlmlhmphaidnoaaGreatDoorRunC1
import Derived.Test.YtlmlhmphaidnoaaGreatDoorRunC2
import Derived.Test.YtlmlhmphaidnoaaGreatDoorRunC3
import Derived.Test.YtlmlhmphaidnoaaGreatDoorRunC4
namespace Go.Proofs.YtlmlhmphaidnoaaGreatDoor
open Go Go.Ab
noncomputable section
set_option maxRecDepth 100000

theorem okF5 : PrimOk Tryz.prog 5 (seenG [seen0]) := by
  refine seen_ok s2 fun r h => ?_
  simp only [List.mem_cons, List.not_mem_nil, or_false] at h
  rcases h with rfl
  · exact okS0
theorem okF6 : PrimOk Tryz.prog 6 (seenG [seen1]) := by
  refine seen_ok s2 fun r h => ?_
  simp only [List.mem_cons, List.not_mem_nil, or_false] at h
  rcases h with rfl
  · exact okS1
theorem okF7 : PrimOk Tryz.prog 7 (seenG [seen2, seen3, seen4]) := by
  refine seen_ok s2 fun r h => ?_
  simp only [List.mem_cons, List.not_mem_nil, or_false] at h
  rcases h with rfl | rfl | rfl
  · exact okS2
  · exact okS3
  · exact okS4
def pt3 : PT := [(5, seenG [seen0]), (6, seenG [seen1]), (7, seenG [seen2, seen3, seen4])]
theorem pt3_ok : ∀ p ∈ pt3, PrimOk Tryz.prog p.1 p.2 := by
  intro p h
  simp only [pt3, List.mem_cons, List.not_mem_nil, or_false] at h
  rcases h with rfl | rfl | rfl
  · exact okF5
  · exact okF6
  · exact okF7
theorem s3 : Sound Tryz.prog ext0 yes (prOf pt3) := sound_of pt3_ok
theorem runMain : must Tryz.prog ext0 yes (prOf pt3) fuel (.call 3 [] false .run) { heap := heapK rungsK, next := Tryz.prog.globals.size } (fun o s => retOk (.bool true) rungsK o s = true) = (true = true) := by kernel_rfl

end
end Go.Proofs.YtlmlhmphaidnoaaGreatDoor
