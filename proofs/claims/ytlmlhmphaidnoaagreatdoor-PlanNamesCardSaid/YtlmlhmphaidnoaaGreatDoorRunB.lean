/- Plain calls, run by the kernel: those that lean on others; the lists of a map. Conditions: none. -/
import Derived.Test.YtlmlhmphaidnoaaGreatDoorRunA0
import Derived.Test.YtlmlhmphaidnoaaGreatDoorRunA1
namespace Go.Proofs.YtlmlhmphaidnoaaGreatDoor
open Go Go.Ab
noncomputable section
set_option maxRecDepth 100000

def pt1 : PT := [(89, memoG [] tab89), (151, memoG [] tab151), (203, memoG [] tab203), (275, memoG [] tab275), (87, memoG [] tab87), (263, memoG [] tab263), (88, memoG [] tab88), (49, memoG [] tab49), (124, memoG [] tab124), (126, memoG [] tab126), (198, memoG [] tab198), (230, memoG [] tab230)]
theorem pt1_ok : ∀ p ∈ pt1, PrimOk Tryz.prog p.1 p.2 := by
  intro p h
  simp only [pt1, List.mem_cons, List.not_mem_nil, or_false] at h
  rcases h with rfl | rfl | rfl | rfl | rfl | rfl | rfl | rfl | rfl | rfl | rfl | rfl
  · exact ok89
  · exact ok151
  · exact ok203
  · exact ok275
  · exact ok87
  · exact ok263
  · exact ok88
  · exact ok49
  · exact ok124
  · exact ok126
  · exact ok198
  · exact ok230
theorem s1 : Sound Tryz.prog ext0 yes (prOf pt1) := sound_of pt1_ok
theorem run28 : chain Tryz.prog ext0 yes (prOf pt1) fuel 28 rungsK tab28 = (true = true) := by kernel_rfl
theorem ok28 : PrimOk Tryz.prog 28 (memoG rungsK tab28) := memo_ok s1 (by kernel_rfl) run28 (by kernel_rfl)
theorem run85 : chain Tryz.prog ext0 yes (prOf pt1) fuel 85 rungsK tab85 = (true = true) := by kernel_rfl
theorem ok85 : PrimOk Tryz.prog 85 (memoG rungsK tab85) := memo_ok s1 (by kernel_rfl) run85 (by kernel_rfl)
theorem run270 : chain Tryz.prog ext0 yes (prOf pt1) fuel 270 rungsK tab270 = (true = true) := by kernel_rfl
theorem ok270 : PrimOk Tryz.prog 270 (memoG rungsK tab270) := memo_ok s1 (by kernel_rfl) run270 (by kernel_rfl)
theorem run161 : chain Tryz.prog ext0 yes (prOf pt1) fuel 161 rungsK tab161 = (true = true) := by kernel_rfl
theorem ok161 : PrimOk Tryz.prog 161 (memoG rungsK tab161) := memo_ok s1 (by kernel_rfl) run161 (by kernel_rfl)
theorem run145 : chain Tryz.prog ext0 yes (prOf pt1) fuel 145 rungsK tab145 = (true = true) := by kernel_rfl
theorem ok145 : PrimOk Tryz.prog 145 (memoG rungsK tab145) := memo_ok s1 (by kernel_rfl) run145 (by kernel_rfl)
theorem run16 : chain Tryz.prog ext0 yes (prOf pt1) fuel 16 rungsK tab16 = (true = true) := by kernel_rfl
theorem ok16 : PrimOk Tryz.prog 16 (memoG rungsK tab16) := memo_ok s1 (by kernel_rfl) run16 (by kernel_rfl)
theorem run60 : chain Tryz.prog ext0 yes (prOf pt1) fuel 60 rungsK tab60 = (true = true) := by kernel_rfl
theorem ok60 : PrimOk Tryz.prog 60 (memoG rungsK tab60) := memo_ok s1 (by kernel_rfl) run60 (by kernel_rfl)
theorem run99 : chain Tryz.prog ext0 yes (prOf pt1) fuel 99 rungsK tab99 = (true = true) := by kernel_rfl
theorem ok99 : PrimOk Tryz.prog 99 (memoG rungsK tab99) := memo_ok s1 (by kernel_rfl) run99 (by kernel_rfl)
theorem run256 : chain Tryz.prog ext0 yes (prOf pt1) fuel 256 rungsK tab256 = (true = true) := by kernel_rfl
theorem ok256 : PrimOk Tryz.prog 256 (memoG rungsK tab256) := memo_ok s1 (by kernel_rfl) run256 (by kernel_rfl)
theorem run43 : chain Tryz.prog ext0 yes (prOf pt1) fuel 43 rungsK tab43 = (true = true) := by kernel_rfl
theorem ok43 : PrimOk Tryz.prog 43 (memoG rungsK tab43) := memo_ok s1 (by kernel_rfl) run43 (by kernel_rfl)
theorem run239 : chain Tryz.prog ext0 yes (prOf pt1) fuel 239 rungsK tab239 = (true = true) := by kernel_rfl
theorem ok239 : PrimOk Tryz.prog 239 (memoG rungsK tab239) := memo_ok s1 (by kernel_rfl) run239 (by kernel_rfl)
theorem run271 : chain Tryz.prog ext0 yes (prOf pt1) fuel 271 rungsK tab271 = (true = true) := by kernel_rfl
theorem ok271 : PrimOk Tryz.prog 271 (memoG rungsK tab271) := memo_ok s1 (by kernel_rfl) run271 (by kernel_rfl)
theorem run19 : chain Tryz.prog ext0 yes (prOf pt1) fuel 19 rungsK tab19 = (true = true) := by kernel_rfl
theorem ok19 : PrimOk Tryz.prog 19 (memoG rungsK tab19) := memo_ok s1 (by kernel_rfl) run19 (by kernel_rfl)
theorem runL0 : must Tryz.prog ext0 yes (prOf []) fuel (.call 259 [.pointer (some ⟨Tryz.prog.globals.size, 0, none⟩)] false .run) { heap := heapK (partOf Tryz.prog 177 lst0), next := Tryz.prog.globals.size + 2 } (fun o s => listTest Tryz.prog 177 308 lst0 o s = true) = (((true = true)) ∧ ((true = true))) := by kernel_rfl
theorem runL1 : must Tryz.prog ext0 yes (prOf []) fuel (.call 259 [.pointer (some ⟨Tryz.prog.globals.size, 0, none⟩)] false .run) { heap := heapK (partOf Tryz.prog 177 lst1), next := Tryz.prog.globals.size + 2 } (fun o s => listTest Tryz.prog 177 308 lst1 o s = true) = ((true = true)) := by kernel_rfl
theorem okL : PrimOk Tryz.prog 259 (listG 177 308 [lst0, lst1]) := by
  refine list_ok s0 fun l h => ?_
  simp only [List.mem_cons, List.not_mem_nil, or_false] at h
  rcases h with rfl | rfl
  · exact ⟨⟨fuel, _, runL0, by simp⟩, by kernel_rfl, by kernel_rfl⟩
  · exact ⟨⟨fuel, _, runL1, by simp⟩, by kernel_rfl, by kernel_rfl⟩
def pt2 : PT := [(259, listG 177 308 [lst0, lst1]), (28, memoG rungsK tab28), (85, memoG rungsK tab85), (270, memoG rungsK tab270), (161, memoG rungsK tab161), (145, memoG rungsK tab145), (16, memoG rungsK tab16), (60, memoG rungsK tab60), (99, memoG rungsK tab99), (256, memoG rungsK tab256), (43, memoG rungsK tab43), (239, memoG rungsK tab239), (271, memoG rungsK tab271), (19, memoG rungsK tab19), (89, memoG [] tab89), (151, memoG [] tab151), (203, memoG [] tab203), (275, memoG [] tab275), (87, memoG [] tab87), (263, memoG [] tab263), (88, memoG [] tab88), (49, memoG [] tab49), (124, memoG [] tab124), (126, memoG [] tab126), (198, memoG [] tab198), (230, memoG [] tab230)]
theorem pt2_ok : ∀ p ∈ pt2, PrimOk Tryz.prog p.1 p.2 := by
  intro p h
  simp only [pt2, List.mem_cons, List.not_mem_nil, or_false] at h
  rcases h with rfl | rfl | rfl | rfl | rfl | rfl | rfl | rfl | rfl | rfl | rfl | rfl | rfl | rfl | rfl | rfl | rfl | rfl | rfl | rfl | rfl | rfl | rfl | rfl | rfl | rfl
  · exact okL
  · exact ok28
  · exact ok85
  · exact ok270
  · exact ok161
  · exact ok145
  · exact ok16
  · exact ok60
  · exact ok99
  · exact ok256
  · exact ok43
  · exact ok239
  · exact ok271
  · exact ok19
  · exact ok89
  · exact ok151
  · exact ok203
  · exact ok275
  · exact ok87
  · exact ok263
  · exact ok88
  · exact ok49
  · exact ok124
  · exact ok126
  · exact ok198
  · exact ok230
theorem s2 : Sound Tryz.prog ext0 yes (prOf pt2) := sound_of pt2_ok

end
end Go.Proofs.YtlmlhmphaidnoaaGreatDoor
