/- Plain calls, run by the kernel: those that lean on others; the lists of a map. Conditions: none. -/
import Derived.Test.YtljlnlbkohchcaaGreatDoorRunA0
import Derived.Test.YtljlnlbkohchcaaGreatDoorJoin
import Derived.Test.YtljlnlbkohchcaaGreatDoorAs
namespace Go.Proofs.YtljlnlbkohchcaaGreatDoor
open Go Go.Ab
noncomputable section
set_option maxRecDepth 100000

def joined : List (List UInt8) := [[97, 99, 99, 111, 117, 110, 116, 32, 97, 32, 114, 111, 111, 116, 32, 49], [115, 117, 98, 109, 105, 116, 32, 97, 32, 50, 32, 53]]
def pt1 : PT := [(36, memoG [] tab36), (238, memoG [] tab238), (160, memoG [] tab160), (107, memoG [] tab107), (159, memoG [] tab159), (156, memoG [] tab156), (31, memoG [] tab31), (33, memoG [] tab33), (166, memoG [] tab166), (191, memoG [] tab191), (116, memoG [] tab116), (44, memoG [] tab44)]
theorem pt1_ok : ∀ p ∈ pt1, PrimOk Tryz.prog p.1 p.2 := by
  intro p h
  simp only [pt1, List.mem_cons, List.not_mem_nil, or_false] at h
  rcases h with rfl | rfl | rfl | rfl | rfl | rfl | rfl | rfl | rfl | rfl | rfl | rfl
  · exact ok36
  · exact ok238
  · exact ok160
  · exact ok107
  · exact ok159
  · exact ok156
  · exact ok31
  · exact ok33
  · exact ok166
  · exact ok191
  · exact ok116
  · exact ok44
theorem s1 : Sound Tryz.prog ext0 yes (prOf pt1) := sound_of pt1_ok
def pt2 : PT := [(94, joinG joined), (26, asG Tryz.prog 0 69 182 73 75), (36, memoG [] tab36), (238, memoG [] tab238), (160, memoG [] tab160), (107, memoG [] tab107), (159, memoG [] tab159), (156, memoG [] tab156), (31, memoG [] tab31), (33, memoG [] tab33), (166, memoG [] tab166), (191, memoG [] tab191), (116, memoG [] tab116), (44, memoG [] tab44)]
theorem pt2_ok : ∀ p ∈ pt2, PrimOk Tryz.prog p.1 p.2 := by
  intro p h
  simp only [pt2, List.mem_cons, List.not_mem_nil, or_false] at h
  rcases h with rfl | rfl | rfl | rfl | rfl | rfl | rfl | rfl | rfl | rfl | rfl | rfl | rfl | rfl
  · exact join_ok join_does joined
  · exact as_ok as_does
  · exact ok36
  · exact ok238
  · exact ok160
  · exact ok107
  · exact ok159
  · exact ok156
  · exact ok31
  · exact ok33
  · exact ok166
  · exact ok191
  · exact ok116
  · exact ok44
theorem s2 : Sound Tryz.prog ext0 yes (prOf pt2) := sound_of pt2_ok

end
end Go.Proofs.YtljlnlbkohchcaaGreatDoor
