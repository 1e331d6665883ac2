/- The whole call, run by the kernel. Conditions: none. -/
import Derived.Test.YtljlnlbkohchcaaGreatDoorRunC0
import Derived.Test.YtljlnlbkohchcaaGreatDoorRunC1
import Derived.Test.YtljlnlbkohchcaaGreatDoorRunC2
import Derived.Test.YtljlnlbkohchcaaGreatDoorRunC3
import Derived.Test.YtljlnlbkohchcaaGreatDoorRunC4
import Derived.Test.YtljlnlbkohchcaaGreatDoorRunC5
import Derived.Test.YtljlnlbkohchcaaGreatDoorRunC6
import Derived.Test.YtljlnlbkohchcaaGreatDoorRunC7
namespace Go.Proofs.YtljlnlbkohchcaaGreatDoor
open Go Go.Ab
noncomputable section
set_option maxRecDepth 100000

theorem okF19 : PrimOk Tryz.prog 19 (seenG [seen0, seen4]) := by
  refine seen_ok s2 fun r h => ?_
  simp only [List.mem_cons, List.not_mem_nil, or_false] at h
  rcases h with rfl | rfl
  · exact okS0
  · exact okS4
theorem okF41 : PrimOk Tryz.prog 41 (seenG [seen1, seen2, seen3, seen5, seen6]) := by
  refine seen_ok s2 fun r h => ?_
  simp only [List.mem_cons, List.not_mem_nil, or_false] at h
  rcases h with rfl | rfl | rfl | rfl | rfl
  · exact okS1
  · exact okS2
  · exact okS3
  · exact okS5
  · exact okS6
theorem okF54 : PrimOk Tryz.prog 54 (seenG [seen7]) := by
  refine seen_ok s2 fun r h => ?_
  simp only [List.mem_cons, List.not_mem_nil, or_false] at h
  rcases h with rfl
  · exact okS7
def pt3 : PT := [(19, seenG [seen0, seen4]), (41, seenG [seen1, seen2, seen3, seen5, seen6]), (54, seenG [seen7]), (94, joinG joined), (26, asG Tryz.prog 0 69 182 73 75), (36, memoG [] tab36), (238, memoG [] tab238), (160, memoG [] tab160), (107, memoG [] tab107), (159, memoG [] tab159), (156, memoG [] tab156), (31, memoG [] tab31), (33, memoG [] tab33), (166, memoG [] tab166), (191, memoG [] tab191), (116, memoG [] tab116), (44, memoG [] tab44)]
theorem pt3_ok : ∀ p ∈ pt3, PrimOk Tryz.prog p.1 p.2 := by
  intro p h
  simp only [pt3, List.mem_cons, List.not_mem_nil, or_false] at h
  rcases h with rfl | rfl | rfl | rfl | rfl | rfl | rfl | rfl | rfl | rfl | rfl | rfl | rfl | rfl | rfl | rfl | rfl
  · exact okF19
  · exact okF41
  · exact okF54
  · exact join_ok join_does joined
  · exact as_ok as_does
  · exact ok36
  · exact ok238
  · exact ok160
  · exact ok107
  · exact ok159
  · exact ok156
  · exact ok31
  · exact ok33
  · exact ok166
  · exact ok191
  · exact ok116
  · exact ok44
theorem s3 : Sound Tryz.prog ext0 yes (prOf pt3) := sound_of pt3_ok
theorem runMain : must Tryz.prog ext0 yes (prOf pt3) fuel (.call 3 [] false .run) { heap := heapK (knownOf vars0), next := Tryz.prog.globals.size + 1 } (fun o s => retOk (.bool true) (knownOf vars0) o s = true) = (true = true) := by kernel_rfl

end
end Go.Proofs.YtljlnlbkohchcaaGreatDoor
