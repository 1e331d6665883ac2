/- Every operation of the abstract machine does what the model's does. Conditions: as each lemma says. -/
import Derived.Test.YtljlnlbkohchcaaGreatDoorAbOne
import Derived.Great.FillDense
import Derived.Laws.Append
import Derived.Laws.BytesString
/- The operations under the relation, fourth part: slices, elements, fields, built values. Conditions: none (lemmas). -/
namespace Go.Ab

section
variable {P : Program}

theorem VRel.sliceCap {μ : Mp} {a c : Option Addr} {l l' k cap : Nat} (h : VRel μ (.slice a l k) (.slice c l' cap)) : l' = l ∧ CapRel k cap ∧ l ≤ cap := by
  cases h with
  | sliceNil _ _ hl => exact ⟨rfl, .inl rfl, hl⟩
  | slice _ _ hl _ => exact ⟨rfl, .inl rfl, hl⟩
  | «open» _ k _ _ _ _ _ hl _ _ _ hk _ => exact ⟨rfl, .inr ⟨k, rfl, hk⟩, hl⟩

theorem slice_shape {μ : Mp} {a : Option Addr} {l k : Nat} {v : Value} (h : VRel μ (.slice a l k) v) :
    ∃ c cap, v = .slice c l cap ∧ (a = none ↔ c = none) := by
  cases h <;> exact ⟨_, _, rfl, by simp⟩

theorem slice_sim {μ : Mp} {s : St} {w : World} (hs : SimS P μ s w) {t : TypeId} {x x' v : Value} (hx : VRel μ x x') {lo hi mx lo' hi' mx' : Option Value}
    (hlo : OptV μ lo lo') (hhi : OptV μ hi hi') (hmx : OptV μ mx mx') (h : sliceA P s t x lo hi mx = some v) :
    ∃ u, (Instr.sliceAt t x' lo' hi' mx').run P w = .ok u w ∧ VRel μ v u := by
  unfold sliceA at h
  have hh := bind_some h
  clear h
  obtain ⟨u, h1, h⟩ := hh
  have hrun := run_under h1 w
  split at h
  · rename_i b
    cases hx
    split at h
    · cases h
    · have hh := bind_some h
      clear h
      obtain ⟨⟨l, hh, c'⟩, h2, h⟩ := hh
      obtain ⟨bs, h3, rfl⟩ := map_some h
      obtain ⟨m, k1, k2, k3, k4, _⟩ := bounds_sim (P := P) (b := false) (len := b.data.toList.length) (cap := b.data.toList.length) (.inl rfl) hlo hhi hmx h2 w
      cases hmx
      have e1 : b.data.toList.length = b.size := rfl
      rw [e1] at k1
      refine ⟨.string (b.extract l hh), ?_, ?_⟩
      · simp only [Instr.sliceAt, Instr.slice, Sem.run_bind, hrun, Result.andThen_ok, Option.isSome_none, Bool.false_eq_true, if_false, k1, Sem.run_pure]
      · obtain ⟨rfl, h4⟩ := window_eq h3
        have : (⟨⟨(b.data.toList.drop l).take (hh - l)⟩⟩ : ByteArray) = b.extract l hh := by
          apply ByteArray.ext
          rw [ByteArray.data_extract]
          apply Array.ext'
          simp
        rw [this]
        exact .string _
  · rename_i elem a len c
    obtain ⟨ca, cap, rfl, hn⟩ := slice_shape hx
    have hca : ∃ q, ca = some q := by
      cases ca with
      | none => exact absurd (hn.2 rfl) (by simp)
      | some q => exact ⟨q, rfl⟩
    obtain ⟨q, rfl⟩ := hca
    have hh := bind_some h
    clear h
    obtain ⟨⟨l, hh, c'⟩, h2, h⟩ := hh
    obtain ⟨n, h3, h⟩ := bind_some h
    obtain ⟨m, k1, k2, k3, k4, k5, k6, k7⟩ := bounds_sim (P := P) (b := true) hx.sliceCap.2.1 hlo hhi hmx h2 w
    refine ⟨_, ?_, sliceOf_sim hs h3 hx ⟨k2, k3, k4, k5, k6, k7⟩ h⟩
    simp only [Instr.sliceAt, Instr.slice, Sem.run_bind, hrun, Result.andThen_ok, k1, run_size h3, Sem.run_pure]
    congr 2
    split <;> rfl
  · rename_i elem len c
    split at h
    · rename_i hex
      obtain ⟨ca, cap, rfl, hn⟩ := slice_shape hx
      have hca : ca = none := hn.1 rfl
      subst hca
      have hh := bind_some h
      clear h
      obtain ⟨⟨l, hh, c'⟩, h2, h⟩ := hh
      obtain ⟨n, h3, rfl⟩ := map_some h
      obtain ⟨m, k1, k2, k3, k4, k5, k6, k7⟩ := bounds_sim (P := P) (b := true) hx.sliceCap.2.1 hlo hhi hmx h2 w
      rw [capExact_iff] at hex
      have e7 : c' = 2 * (m - l) := by
        rcases Nat.mod_two_eq_zero_or_one c' with e | e
        · exact k7 e
        · have := (k6 e).2.2; omega
      refine ⟨.slice none (hh - l) (m - l), ?_, ?_⟩
      · simp only [Instr.sliceAt, Instr.slice, Sem.run_bind, hrun, Result.andThen_ok, k1, run_size h3, Sem.run_pure]
        congr 2
        split <;> rfl
      · rw [e7]; exact .sliceNil _ _ (by omega)
    · cases h
  · rename_i n elem a
    cases hx with
    | ptr r =>
    have hh := bind_some h
    clear h
    obtain ⟨⟨l, hh, c'⟩, h2, h⟩ := hh
    obtain ⟨z, h3, h⟩ := bind_some h
    obtain ⟨m, k1, k2, k3, k4, k5, k6, k7⟩ := bounds_sim (P := P) (b := false) (.inl rfl) hlo hhi hmx h2 w
    have hv : VRel μ (.slice (some a) n (2 * n)) (.slice (some _) n n) := .slice n n (Nat.le_refl _) (.inl r)
    refine ⟨_, ?_, sliceOf_sim hs h3 hv ⟨k2, k3, k4, k5, k6, k7⟩ h⟩
    simp only [Instr.sliceAt, Instr.sureAddr, Sem.run_bind, hrun, Result.andThen_ok, Sem.run_pure, k1, run_size h3]
  · cases h

theorem elemAddr_sim {μ : Mp} {elem : TypeId} {a c : Addr} {i len : Nat} {v : Value} (hr : ARel μ a c ∨ len = 0) (h : elemAddr P elem a i len = some v) :
    i < len ∧ ∃ n, sizeA P elem = some n ∧ VRel μ v (.pointer (some (c.add (i * n)))) := by
  unfold elemAddr at h
  obtain ⟨h1, h2⟩ := iteB_some' h
  rw [Nat.blt_eq] at h1
  obtain ⟨n, h3, rfl⟩ := map_some h2
  exact ⟨h1, n, h3, .ptr ((hr.resolve_right (by omega)).add _)⟩

theorem indexAddr_sim {μ : Mp} {t : TypeId} {x i x' i' v : Value} (hx : VRel μ x x') (hi : VRel μ i i') (h : indexAddrA P t x i = some v) (w : World) :
    ∃ u, (Instr.indexAt t x' i').run P w = .ok u w ∧ VRel μ v u := by
  unfold indexAddrA at h
  split at h
  · cases hi
    rename_i k i
    have hh := bind_some h
    clear h
    obtain ⟨u, h1, h⟩ := hh
    have hrun := run_under h1 w
    split at h
    · rename_i len elem a
      cases hx with
      | ptr r =>
      obtain ⟨h2, n, h3, h4⟩ := elemAddr_sim (.inl r) h
      refine ⟨_, ?_, h4⟩
      have h5 : (0 : Int) ≤ Int.ofNat i ∧ Int.ofNat i < (len : Int) := by simp only [Int.ofNat_eq_natCast]; omega
      simp only [Instr.indexAt, asIntOf, Instr.sureAddr, Sem.run_bind, Sem.run_pure, hrun, Result.andThen_ok]
      rw [if_pos h5]
      simp [run_size h3]
    · rename_i elem a len c
      obtain ⟨ca, cap, rfl, hn⟩ := slice_shape hx
      have hca : ∃ q, ca = some q := by
        cases ca with
        | none => exact absurd (hn.2 rfl) (by simp)
        | some q => exact ⟨q, rfl⟩
      obtain ⟨q, rfl⟩ := hca
      have hadr : ARel μ a q ∨ len = 0 := by
        cases hx with
        | slice _ _ hl r => exact r.imp id (fun e => by omega)
        | «open» _ _ _ _ _ _ _ hl r _ _ _ _ => exact r.imp id (fun e => by omega)
      obtain ⟨h2, n, h3, h4⟩ := elemAddr_sim hadr h
      refine ⟨_, ?_, h4⟩
      have h5 : (0 : Int) ≤ Int.ofNat i ∧ Int.ofNat i < (len : Int) := by simp only [Int.ofNat_eq_natCast]; omega
      simp only [Instr.indexAt, asIntOf, Sem.run_bind, Sem.run_pure, hrun, Result.andThen_ok]
      rw [if_pos h5]
      simp [run_size h3]
    · cases h
  · cases h

theorem index_sim {μ : Mp} {t : TypeId} {x i x' i' v : Value} (hx : VRel μ x x') (hi : VRel μ i i') (h : indexA P t x i = some v) (w : World) :
    ∃ u, (Instr.index t x' i').run P w = .ok u w ∧ VRel μ v u := by
  unfold indexA at h
  split at h
  · cases hi
    rename_i k i
    have hh := bind_some h
    clear h
    obtain ⟨u, h1, h⟩ := hh
    have hrun := run_under h1 w
    split at h
    · rename_i len elem cs
      cases hx with
      | agg s1 i1 =>
      obtain ⟨h2, h⟩ := iteB_some' h
      rw [Nat.blt_eq] at h2
      obtain ⟨n, h3, h⟩ := bind_some h
      obtain ⟨u, k1, k2⟩ := partA_sim (LRel.of_arrays s1 i1) h w
      refine ⟨u, ?_, k2⟩
      have h5 : (0 : Int) ≤ Int.ofNat i ∧ Int.ofNat i < (len : Int) := by simp only [Int.ofNat_eq_natCast]; omega
      simp only [Instr.index, asIntOf, Sem.run_bind, Sem.run_pure, hrun, Result.andThen_ok]
      rw [if_pos h5]
      simpa [run_size h3] using k1
    · rename_i b
      cases hx
      obtain ⟨c, h2, rfl⟩ := map_some h
      rw [nth_eq] at h2
      refine ⟨.int .u8 c.toNat, ?_, .int _ _⟩
      have h3 : b[i]? = some c := by
        have hl : i < b.data.toList.length := by
          rcases Nat.lt_or_ge i b.data.toList.length with h0 | h0
          · exact h0
          · rw [List.getElem?_eq_none h0] at h2; cases h2
        have hl' : i < b.size := hl
        rw [List.getElem?_eq_getElem hl] at h2
        rw [getElem?_pos b i hl']
        exact h2
      simp only [Instr.index, asIntOf, Sem.run_bind, Sem.run_pure, hrun, Result.andThen_ok]
      rw [if_pos (by simp)]
      simp [h3]
    · cases h
  · cases h

theorem fieldAddr_sim {μ : Mp} {t : TypeId} {x x' v : Value} {f : Nat} (hx : VRel μ x x') (h : fieldAddrA P t x f = some v) (w : World) :
    ∃ u, (Instr.fieldAt t x' f).run P w = .ok u w ∧ VRel μ v u := by
  unfold fieldAddrA at h
  split at h
  · cases hx with
    | ptr r =>
    have hh := bind_some h
    clear h
    obtain ⟨u, h1, h⟩ := hh
    have hrun := run_under h1 w
    split at h
    · obtain ⟨g, h2, h⟩ := bind_some h
      obtain ⟨n, h3, h⟩ := bind_some h
      split at h
      · cases h
      · rename_i hn
        cases h
        refine ⟨_, ?_, .ptr (r.add _)⟩
        simp only [Instr.fieldAt, Sem.run_bind, hrun, Result.andThen_ok, h2, Instr.sureAddr, Sem.run_pure, fieldPlace, run_size h3]
        rw [if_neg hn]
        rfl
    · cases h
  · cases h

theorem field_sim {μ : Mp} {t : TypeId} {x x' v : Value} {f : Nat} (hx : VRel μ x x') (h : fieldA P t x f = some v) (w : World) :
    ∃ u, (Instr.field t x' f).run P w = .ok u w ∧ VRel μ v u := by
  unfold fieldA at h
  split at h
  · cases hx with
    | agg s1 i1 =>
    have hh := bind_some h
    clear h
    obtain ⟨u, h1, h⟩ := hh
    have hrun := run_under h1 w
    split at h
    · obtain ⟨g, h2, h⟩ := bind_some h
      obtain ⟨u, k1, k2⟩ := partA_sim (LRel.of_arrays s1 i1) h w
      refine ⟨u, ?_, k2⟩
      simp only [Instr.field, Sem.run_bind, hrun, Result.andThen_ok, h2, asAgg, Sem.run_pure]
      exact k1
    · cases h
  · cases h

end
end Go.Ab

/- The operations under the relation, fifth part: built values, new memory. Conditions: none (lemmas). -/
namespace Go.Ab

section
variable {P : Program}

theorem fill_sim {μ : Mp} {place : Nat → Option (Nat × Nat)} : ∀ (ps ps' : List (Nat × Value)) (cs cs' xs : List Value),
    All2 (fun p q => q.1 = p.1 ∧ VRel μ p.2 q.2) ps ps' → LRel μ cs cs' → fillA place cs ps = some xs → ∃ ys : Array Value, Instr.fill place cs'.toArray ps' = some ys ∧ LRel μ xs ys.toList
  | [], ps', cs, cs', xs, hp, hc, h => by
    cases hp
    cases h
    exact ⟨cs'.toArray, rfl, by simpa using hc⟩
  | (i, v) :: ps, ps', cs, cs', xs, hp, hc, h => by
    cases hp with
    | @cons _ q _ ps' r hp =>
    obtain ⟨i', v'⟩ := q
    obtain ⟨rfl, hv⟩ := r
    unfold fillA at h
    obtain ⟨⟨off, size⟩, h1, h⟩ := bind_some h
    simp only at h
    split at h
    · rename_i hsz
      obtain ⟨ds, h2, h⟩ := bind_some h
      obtain ⟨m1, m2, m3⟩ := overlay_eq _ _ _ _ h2
      have hcells := hv.cells
      have hlen : v.cells.toList.length = v'.cells.toList.length := hcells.length
      have hsz0 : cs'.toArray.size = cs'.length := by simp
      have hsz' : v'.cells.size = size := by rw [← hcells.size]; exact hsz
      have hcl := hc.length
      obtain ⟨n1, n2⟩ := Go.Great.foldl_set off v'.cells.toList 0 cs'.toArray
      obtain ⟨ys, k1, k2⟩ := fill_sim ps ps' ds ((v'.cells.toList.zipIdx 0).foldl (fun cs (x : Value × Nat) => cs.setIfInBounds (off + x.2) x.1) cs'.toArray).toList xs hp (by
        refine All2.of_get ?_ fun j a b ha hb => ?_
        · simp only [Array.length_toList, n1]; simp [m1, hcl]
        · rw [m3] at ha
          rw [Array.getElem?_toList, n2] at hb
          by_cases hc2 : off ≤ j ∧ j < off + v.cells.toList.length
          · rw [if_pos hc2] at ha
            rw [if_pos (by simp only [List.size_toArray]; omega), Nat.add_zero] at hb
            exact hcells.get _ _ _ ha hb
          · rw [if_neg hc2] at ha
            rw [if_neg (by omega)] at hb
            exact hc.get j a b ha (by simpa using hb)) h
      refine ⟨ys, ?_, k2⟩
      unfold Instr.fill
      simp only [h1]
      have e1 : ¬ ((decide (v'.cells.size ≠ size) || decide (off + v'.cells.size > cs'.toArray.size)) = true) := by
        simp only [Bool.or_eq_true, decide_eq_true_eq, List.size_toArray]
        have : v'.cells.toList.length = v'.cells.size := rfl
        have h5 : v.cells.toList.length = v.cells.size := rfl
        omega
      rw [if_neg e1]
      rw [← Array.foldl_toList, Array.toList_zipIdx]
      simpa using k1
    · cases h

theorem get_new (s : St) (o : AObj) (j : Nat) : (s.new o).2.heap.get j = if j = s.next then some o else s.heap.get j := Tr.get_set _ _ _ _

theorem cells_obj {μ : Mp} {w : World} {xs : List Value} {ys : Array Value} (e : TypeId) (h : LRel μ xs ys.toList) :
    ORel μ ⟨w.heap.size, 0, none⟩ (.cells xs e) (.cells ys e) := by
  refine .cells (fun j v hj => ?_) (.inl rfl) (by have := h.length; simp at this ⊢; omega) (by have := h.length; simp at this ⊢; omega)
  have hl := h.length
  have hlt : j < ys.toList.length := by
    rw [← hl]
    rcases Nat.lt_or_ge j xs.length with h0 | h0
    · exact h0
    · rw [List.getElem?_eq_none h0] at hj; cases hj
  have hy : ys.toList[j]? = some ys.toList[j] := List.getElem?_eq_getElem hlt
  refine ⟨ys.toList[j], ?_, h.get j _ _ hj hy⟩
  rw [Array.getElem?_toList] at hy
  simp only [Nat.zero_add]
  exact hy

theorem new_sim {μ : Mp} {s : St} {w : World} (hs : SimS P μ s w) (hf : μ s.next = none) {o : AObj} {p : Obj} (ho : ORel μ ⟨w.heap.size, 0, none⟩ o p) :
    MovedS P μ s w (μ.add s.next ⟨w.heap.size, 0, none⟩) (s.new o).2 { w with heap := w.heap.push p } :=
  hs.alloc hf (w' := { w with heap := w.heap.push p }) (b := ⟨w.heap.size, 0, none⟩) rfl (fun _ _ _ h => by cases h) ho rfl rfl rfl rfl _ (get_new s o)

theorem new_addr (μ : Mp) (i n : Nat) : ARel (μ.add i ⟨n, 0, none⟩) ⟨i, 0, none⟩ ⟨n, 0, none⟩ := ⟨rfl, rfl, _, μ.add_same _ _, rfl, rfl⟩

theorem alloc_sim {μ : Mp} {s s' : St} {w : World} (hs : SimS P μ s w) (hf : μ s.next = none) {elem : TypeId} {r : Res} (h : xAlloc P elem s = some (r, s')) :
    ∃ u w' μ' v, r = .val v ∧ (Instr.alloc elem true (.tuple #[])).run P w = .ok u w' ∧ VRel μ' v u ∧ MovedS P μ s w μ' s' w' := by
  unfold xAlloc newRow at h
  obtain ⟨z, h1, h⟩ := bind_some h
  simp only [Option.some.injEq, Prod.mk.injEq] at h
  obtain ⟨rfl, rfl⟩ := h
  refine ⟨_, _, _, _, rfl, ?_, .ptr (new_addr _ _ _), new_sim hs hf (cells_obj elem (zero_rel h1 μ).cells)⟩
  simp [Instr.alloc, run_zero h1, newVar, Go.newRow]

theorem box_sim {μ : Mp} {s s' : St} {w : World} (hs : SimS P μ s w) (hf : μ s.next = none) {elem : TypeId} {x x' : Value} (hx : VRel μ x x') {r : Res} (h : xBox elem x s = some (r, s')) :
    ∃ u w' μ' v, r = .val v ∧ (Instr.box elem x').run P w = .ok u w' ∧ VRel μ' v u ∧ MovedS P μ s w μ' s' w' := by
  unfold xBox newRow at h
  simp only [Option.some.injEq, Prod.mk.injEq] at h
  obtain ⟨rfl, rfl⟩ := h
  refine ⟨_, _, _, _, rfl, ?_, .ptr (new_addr _ _ _), new_sim hs hf (cells_obj elem hx.cells)⟩
  simp [Instr.box, newVar, Go.newRow]

theorem places_run : ∀ (fs : List Field) (ps : List (Nat × Nat)) (w : World), places P fs = some ps →
    (fs.mapM (fun (f : Field) => (do pure (f.offset, ← Go.sizeOf f.type) : Sem (Nat × Nat)))).run P w = .ok ps w
  | [], ps, w, h => by cases h; simp
  | f :: fs, ps, w, h => by
    unfold places at h
    obtain ⟨n, h1, h⟩ := bind_some h
    obtain ⟨qs, h2, rfl⟩ := map_some h
    have := places_run fs qs w h2
    simp only [List.mapM_cons, Sem.run_bind, run_size h1, Result.andThen_ok, Sem.run_pure, this]

abbrev PtRel (μ : Mp) := All2 (fun (p q : Nat × Value) => q.1 = p.1 ∧ VRel μ p.2 q.2)

theorem build_sim {μ : Mp} {t : TypeId} {ps : List (Nat × Value)} {ps' : Array (Nat × Value)} (hp : PtRel μ ps ps'.toList) {v : Value} (h : buildA P t ps = some v) (w : World) :
    ∃ u, (Instr.build t ps').run P w = .ok u w ∧ VRel μ v u := by
  unfold buildA at h
  obtain ⟨z, h1, h⟩ := bind_some h
  have hh := bind_some h
  clear h
  obtain ⟨u, h2, h⟩ := hh
  have hz := (zero_rel h1 μ).cells
  split at h
  · obtain ⟨qs, h3, h⟩ := bind_some h
    obtain ⟨cs, h4, rfl⟩ := map_some h
    obtain ⟨ys, k1, k2⟩ := fill_sim _ _ _ _ _ hp hz h4
    refine ⟨.agg ys, ?_, .aggL (by simpa using k2)⟩
    have h5 := places_run _ _ w h3
    rename_i fields _ _
    have h6 : (fields.mapM (fun (f : Field) => (do pure (f.offset, ← Go.sizeOf f.type) : Sem (Nat × Nat)))).run P w = .ok qs.toArray w := by
      rw [Array.mapM_eq_mapM_toList]
      simp only [Sem.run_map, h5, Result.andThen_ok]
    have h7 : (fun i => nth qs i) = (fun i => qs[i]?) := by funext i; rw [nth_eq]
    rw [h7] at k1
    simp only [Instr.build, Sem.run_bind, run_zero h1, run_under h2, Result.andThen_ok, h6]
    have e : z.cells.toList.toArray = z.cells := by simp
    rw [e] at k1
    simp [k1]
  · obtain ⟨n, h3, h⟩ := bind_some h
    obtain ⟨cs, h4, rfl⟩ := map_some h
    obtain ⟨ys, k1, k2⟩ := fill_sim _ _ _ _ _ hp hz h4
    refine ⟨.agg ys, ?_, .aggL (by simpa using k2)⟩
    have e : z.cells.toList.toArray = z.cells := by simp
    rw [e] at k1
    simp only [Instr.build, Sem.run_bind, run_zero h1, run_under h2, Result.andThen_ok, run_size h3]
    simp [k1]
  · cases h

theorem zerosN_length (z : List Value) : ∀ n, (zerosN z n).length = n * z.length
  | 0 => by simp [zerosN]
  | n + 1 => by simp [zerosN, zerosN_length z n, Nat.succ_mul]; omega

theorem zerosN_rel {μ : Mp} {z : List Value} (h : LRel μ z z) : ∀ n, LRel μ (zerosN z n) (zerosN z n)
  | 0 => .nil
  | n + 1 => h.append (zerosN_rel h n)

theorem zerosN_get (z : List Value) (hz : 0 < z.length) : ∀ (n i : Nat), i < n * z.length → (zerosN z n)[i]? = z[i % z.length]?
  | 0, i, h => by omega
  | n + 1, i, h => by
    unfold zerosN
    rcases Nat.lt_or_ge i z.length with h1 | h1
    · rw [List.getElem?_append_left h1, Nat.mod_eq_of_lt h1]
    · rw [List.getElem?_append_right h1, zerosN_get z hz n (i - z.length) (by rw [Nat.succ_mul] at h; omega)]
      rw [← Nat.mod_eq_sub_mod h1]

theorem zeros_eq (z : Array Value) (n : Nat) : ((Array.range (n * z.size)).map (fun i => z[i % z.size]!)) = (zerosN z.toList n).toArray := by
  rcases Nat.eq_zero_or_pos z.size with h0 | h0
  · have : z = #[] := by simpa using h0
    subst this
    have : zerosN ([] : List Value) n = [] := by induction n with | zero => rfl | succ n ih => simpa [zerosN] using ih
    simp [this]
  · apply Array.ext'
    apply List.ext_getElem?
    intro i
    have hl := zerosN_length z.toList n
    simp only [Array.toList_map, List.getElem?_map]
    rcases Nat.lt_or_ge i (n * z.size) with h1 | h1
    · have hm : i % z.size < z.size := Nat.mod_lt _ h0
      rw [zerosN_get z.toList (by simpa using h0) n i (by simpa using h1)]
      simp [Array.toList_range, h1, hm]
    · rw [List.getElem?_eq_none (l := zerosN z.toList n) (by rw [hl]; simpa using h1)]
      simp [h1]

theorem buildSlice_sim {μ : Mp} {s s' : St} {w : World} (hs : SimS P μ s w) (hf : μ s.next = none) {t : TypeId} {len : Nat} {ps : List (Nat × Value)} {ps' : Array (Nat × Value)} (hp : PtRel μ ps ps'.toList)
    {r : Res} (h : xBuildSlice P t len ps s = some (r, s')) :
    ∃ u w' μ' v, r = .val v ∧ (Instr.buildSlice t len ps').run P w = .ok u w' ∧ VRel μ' v u ∧ MovedS P μ s w μ' s' w' := by
  unfold xBuildSlice at h
  have hh := bind_some h
  clear h
  obtain ⟨u, h1, h⟩ := hh
  split at h
  · rename_i elem
    obtain ⟨n, h2, h⟩ := bind_some h
    obtain ⟨z, h3, h⟩ := bind_some h
    obtain ⟨h4, h⟩ := iteB_some h
    obtain ⟨cs, h5, h⟩ := bind_some h
    unfold newRow at h
    simp only [Option.some.injEq, Prod.mk.injEq] at h
    obtain ⟨rfl, rfl⟩ := h
    rw [orB_eq, Bool.or_eq_false_iff, notB_eq, Bool.not_eq_false', Nat.beq_eq] at h4
    obtain ⟨h6, h7⟩ := h4
    have h8 : ¬ 1048576 < len * n := fun e => by rw [← Nat.blt_eq, h6] at e; cases e
    have hz := (zero_rel h3 μ).cells
    obtain ⟨ys, k1, k2⟩ := fill_sim _ _ _ _ _ hp (zerosN_rel hz len) h5
    refine ⟨_, _, _, _, rfl, ?_, .slice len len (Nat.le_refl _) (.inl (new_addr _ _ _)), new_sim hs hf (cells_obj elem k2)⟩
    simp only [Instr.buildSlice, Sem.run_bind, run_under h1, run_size h2, Result.andThen_ok]
    rw [if_neg (by omega)]
    by_cases h9 : len * n = 0
    · have h10 : (zerosN z.cells.toList len).length = 0 := by rw [zerosN_length]; simpa [h7] using h9
      have h11 : zerosN z.cells.toList len = [] := List.eq_nil_of_length_eq_zero h10
      rw [h11] at k1
      rw [if_pos h9, h9]
      have h12 : (Array.range 0).map (fun x => (#[] : Array Value)[x % (#[] : Array Value).size]!) = ([] : List Value).toArray := by apply Array.ext'; simp
      simp only [Sem.run_bind, Sem.run_pure, Result.andThen_ok, h12, k1, Go.newRow, run_newObj]
    · rw [if_neg h9]
      have hcells := zeros_eq z.cells len
      rw [h7] at hcells
      simp only [Sem.run_bind, run_zero h3, Result.andThen_ok, Sem.run_pure, h7, hcells, k1, Go.newRow, run_newObj]
  · cases h

end
end Go.Ab

/- The operations under the relation, sixth part: make, append, copy. Conditions: none (lemmas). -/
namespace Go.Ab

section
variable {P : Program}

theorem newMap_sim {μ : Mp} {s s' : St} {w : World} (hs : SimS P μ s w) (hf : μ s.next = none) {r : Res} (h : newMap s = some (r, s')) :
    ∃ u w' μ' v, r = .val v ∧ (do pure (.map (some (← newObj (.map #[] 0)))) : Sem Value).run P w = .ok u w' ∧ VRel μ' v u ∧ MovedS P μ s w μ' s' w' := by
  unfold newMap at h
  simp only [Option.some.injEq, Prod.mk.injEq] at h
  obtain ⟨rfl, rfl⟩ := h
  refine ⟨_, _, _, _, rfl, ?_, .map _ ⟨w.heap.size, 0, none⟩ (μ.add_same _ _), new_sim hs hf (.map 0 .nil)⟩
  simp

theorem makeMapN_sim {μ : Mp} {s s' : St} {w : World} (hs : SimS P μ s w) (hf : μ s.next = none) {t : TypeId} {r : Res} (h : newMap s = some (r, s')) :
    ∃ u w' μ' v, r = .val v ∧ (Instr.makeMap t none).run P w = .ok u w' ∧ VRel μ' v u ∧ MovedS P μ s w μ' s' w' := by
  obtain ⟨u, w', μ', v, h1, h2, h3⟩ := newMap_sim hs hf h
  exact ⟨u, w', μ', v, h1, by simpa [Instr.makeMap] using h2, h3⟩

theorem makeMapS_sim {μ : Mp} {s s' : St} {w : World} (hs : SimS P μ s w) (hf : μ s.next = none) {t : TypeId} {x x' : Value} (hx : VRel μ x x') {r : Res} (h : xMakeMap P t x s = some (r, s')) :
    ∃ u w' μ' v, r = .val v ∧ (Instr.makeMap t (some x')).run P w = .ok u w' ∧ VRel μ' v u ∧ MovedS P μ s w μ' s' w' := by
  unfold xMakeMap at h
  have hh := bind_some h
  clear h
  obtain ⟨d, h1, h⟩ := hh
  split at h
  · split at h
    · cases hx
      obtain ⟨u, w', μ', v, k1, k2, k3⟩ := newMap_sim hs hf h
      refine ⟨u, w', μ', v, k1, ?_, k3⟩
      simp only [Instr.makeMap, Sem.run_bind, run_under h1, Result.andThen_ok, asInt, asIntOf, Sem.run_pure]
      simpa using k2
    · cases h
  · cases h

theorem wrap_small {n : Nat} (h : n ≤ most) : IntKind.i64.wrap (Int.ofNat n) = Int.ofNat n := by
  unfold most at h
  rw [← wrapA_eq]
  unfold wrapA lowK backK
  have h1 : n % modK .i64 = n := Nat.mod_eq_of_lt (by simp [modK]; omega)
  simp only [h1, sgnK, halfK]
  have h2 : Nat.blt n 9223372036854775808 = true := by rw [Nat.blt_eq]; omega
  rw [h2]

theorem makeSlice_sim {μ : Mp} {s s' : St} {w : World} (hs : SimS P μ s w) (hf : μ s.next = none) {t : TypeId} {l c l' c' : Value} (hl : VRel μ l l') (hc : VRel μ c c') {r : Res} (h : xMakeSlice P t l c s = some (r, s')) :
    ∃ u w' μ' v, r = .val v ∧ (Instr.makeSlice t l' c').run P w = .ok u w' ∧ VRel μ' v u ∧ MovedS P μ s w μ' s' w' := by
  unfold xMakeSlice at h
  have hh := bind_some h
  clear h
  obtain ⟨d, h1, h⟩ := hh
  split at h
  · rename_i elem
    have hh := bind_some h
    clear h
    obtain ⟨info, h2, h⟩ := hh
    have hh := bind_some h
    clear h
    obtain ⟨z, h3, h⟩ := hh
    split at h
    · rename_i kl l kc c
      cases hl; cases hc
      obtain ⟨h4, h⟩ := iteB_some h
      unfold newRow at h
      simp only [Option.some.injEq, Prod.mk.injEq] at h
      obtain ⟨rfl, rfl⟩ := h
      rw [orB_eq, orB_eq, Bool.or_eq_false_iff, Bool.or_eq_false_iff, notB_eq, Bool.not_eq_false', Nat.beq_eq] at h4
      obtain ⟨h5, h6, h7⟩ := h4
      have h8 : l ≤ c := Nat.le_of_not_lt fun e => by rw [← Nat.blt_eq, h5] at e; cases e
      have h9 : c * (info.bytes + info.size + 1) ≤ most := Nat.le_of_not_lt fun e => by rw [← Nat.blt_eq, h6] at e; cases e
      have h10 : c ≤ most := Nat.le_trans (Nat.le_mul_of_pos_right c (by omega)) h9
      have h11 : info.bytes * c ≤ most := by
        refine Nat.le_trans ?_ h9
        rw [Nat.mul_comm]; exact Nat.mul_le_mul_left c (by omega)
      have hz := (zero_rel h3 μ).cells
      have hsz : sizeA P elem = some info.size := by simp [sizeA, h2]
      refine ⟨_, _, _, _, rfl, ?_, .slice l c h8 (.inl (new_addr _ _ _)), new_sim hs hf (cells_obj (ys := (zerosN z.cells.toList c).toArray) elem (by simpa using zerosN_rel hz c))⟩
      have m48 : most ≤ 2 ^ 48 := by unfold most; decide
      have t1 : ∀ n : Nat, n ≤ c → (((info.bytes : Int) * (Int.ofNat n) > 2 ^ 48) ↔ False) := by
        intro n hn
        have : info.bytes * n ≤ 2 ^ 48 := Nat.le_trans (Nat.mul_le_mul_left _ hn) (Nat.le_trans h11 m48)
        have h12 : ((info.bytes * n : Nat) : Int) = (info.bytes : Int) * Int.ofNat n := by simp
        rw [← h12]
        simp only [iff_false, gt_iff_lt, Int.not_lt]
        exact_mod_cast this
      simp only [Instr.makeSlice, Sem.run_bind, run_under h1, Result.andThen_ok, asInt, asIntOf, Sem.run_pure, run_info h2, wrap_small h10, wrap_small (Nat.le_trans h8 h10)]
      have c1 : ¬ ((decide (Int.ofNat c < 0) || decide ((info.bytes : Int) * Int.ofNat c > 2 ^ 48) || decide (Int.ofNat l < 0) || decide (Int.ofNat l > Int.ofNat c)) = true) := by
        simp only [Bool.or_eq_true, decide_eq_true_eq]
        rintro (((e | e) | e) | e)
        · simp only [Int.ofNat_eq_natCast] at e; omega
        · exact (t1 c (Nat.le_refl _)).1 e
        · simp only [Int.ofNat_eq_natCast] at e; omega
        · simp only [Int.ofNat_eq_natCast] at e; omega
      rw [if_neg c1]
      simp only [Int.ofNat_eq_natCast, Int.toNat_natCast, run_size hsz, Result.andThen_ok, Sem.run_bind, run_askRoom]
      have hcells := zeros_eq z.cells c
      rw [h7] at hcells
      by_cases h13 : c * info.size = 0
      · rw [if_pos h13]
        have h14 : (zerosN z.cells.toList c).length = 0 := by rw [zerosN_length]; simpa [h7] using h13
        have h15 : zerosN z.cells.toList c = [] := List.eq_nil_of_length_eq_zero h14
        have h12 : (Array.range 0).map (fun x => (#[] : Array Value)[x % (#[] : Array Value).size]!) = ([] : List Value).toArray := by apply Array.ext'; simp
        simp only [Sem.run_bind, Sem.run_pure, Result.andThen_ok, h13, h12, h15, Go.newRow, run_newObj]
      · rw [if_neg h13]
        simp only [Sem.run_bind, run_zero h3, Result.andThen_ok, Sem.run_pure, h7, hcells, Go.newRow, run_newObj]
    · cases h
  · cases h

end
end Go.Ab

/- The operations under the relation, seventh part: append and copy. Conditions: none (lemmas). -/
namespace Go.Ab

section
variable {P : Program}

theorem lenOf_sim {μ : Mp} {x x' : Value} {n : Nat} (hx : VRel μ x x') (h : lenOfA x = some n) (w : World) : (Builtin.lenOf x').run P w = .ok n w := by
  unfold lenOfA at h
  split at h
  · cases h
    obtain ⟨c, cap, rfl, _⟩ := slice_shape hx
    rfl
  · cases hx; cases h; rfl
  · cases h

/-- The slice's address, where it has elements. -/
theorem VRel.adr {μ : Mp} {a : Addr} {l k : Nat} {c : Option Addr} {l' cap : Nat} (h : VRel μ (.slice (some a) l k) (.slice c l' cap)) (hk : 0 < l ∨ 0 < capLow k) : ∃ q, c = some q ∧ ARel μ a q := by
  unfold capLow at hk
  cases h with
  | slice _ k0 hl r => exact ⟨_, rfl, r.resolve_right (by omega)⟩
  | «open» _ k0 _ _ _ _ _ hl r _ _ hk2 _ => exact ⟨_, rfl, r.resolve_right (by omega)⟩

theorem first_sim {μ : Mp} {s : St} {w : World} (hs : SimS P μ s w) {x x' : Value} (hx : VRel μ x x') {size n len : Nat} (hn : n ≤ len) (hl : lenOfA x = some len) {cs : List Value} (h : firstA s size n x = some cs) :
    ∃ ys : List Value, (∀ w' : World, w'.heap = w.heap → (Builtin.firstCells size n x').run P w' = .ok ys.toArray w') ∧ LRel μ cs ys := by
  unfold firstA at h
  split at h
  · rename_i a l k
    simp [lenOfA] at hl
    subst hl
    obtain ⟨c, cap, rfl, hnn⟩ := slice_shape hx
    rcases Nat.eq_zero_or_pos (n * size) with h0 | h0
    · rw [h0] at h
      simp [loadN] at h
      subst h
      have : ∃ q, c = some q := by
        cases c with
        | none => exact absurd (hnn.2 rfl) (by simp)
        | some q => exact ⟨q, rfl⟩
      obtain ⟨q, rfl⟩ := this
      refine ⟨[], fun _ _ => ?_, .nil⟩
      simp [Builtin.firstCells, h0, loadCells, loadCellsFrom]
    · have hnpos : 0 < n := Nat.pos_of_mul_pos_right h0
      obtain ⟨q, rfl, r⟩ := hx.adr (.inl (by omega))
      obtain ⟨ys, k1, k2, k3⟩ := loadN_simH (P := P) hs r h
      exact ⟨ys, fun w' e => by simpa [Builtin.firstCells] using k1 w' e, k2⟩
  · cases h
    obtain ⟨c, cap, rfl, hnn⟩ := slice_shape hx
    have : c = none := hnn.1 rfl
    subst this
    exact ⟨[], fun _ _ => by simp [Builtin.firstCells], .nil⟩
  · rename_i b
    cases hx
    cases h
    refine ⟨(b.data.toList.take n).map fun c => .int .u8 c.toNat, fun _ _ => ?_, ?_⟩
    · simp only [Builtin.firstCells, Sem.run_pure]
      congr 1
      apply Array.ext'
      simp [ByteArray.data_extract]
    · generalize b.data.toList.take n = l
      induction l with
      | nil => exact .nil
      | cons c l ih => exact .cons (.int _ _) ih
  · cases h

/-- What append does where there is room. -/
theorem append_room_run {argTypes : Array TypeId} {ty sType elem : TypeId} {info : TypeInfo} {args : Array Value} {base : Option Addr} {sLen sCap n : Nat} {x : Value} {new : List Value} {w : World}
    (h0 : argTypes[0]? = some sType) (h1 : args[0]? = some (.slice base sLen sCap)) (h2 : args[1]? = some x) (ht : under P sType = some (.slice elem)) (hi : P.info? elem = some info)
    (hz : ∀ t, argTypes[1]? = some t → ∃ u, under P t = some u ∧ isInt u = false) (hn : (Builtin.lenOf x).run P w = .ok n w) (hf : (Builtin.firstCells info.size n x).run P w = .ok new.toArray w) (hr : sLen + n ≤ sCap) :
    (Builtin.append_ argTypes ty args).run P w = (match base with | some a => ((storeCells (a.add (sLen * info.size)) new).run P w).andThen fun _ w' => .ok (.slice base (sLen + n) sCap) w' | none => .ok (.slice base (sLen + n) sCap) w) := by
  have hsz : sizeA P elem = some info.size := by simp [sizeA, hi]
  unfold Builtin.append_
  simp only [h0, h1, h2, Sem.run_bind, run_under ht, Result.andThen_ok, run_size hsz]
  cases e : argTypes[1]? with
  | none =>
    simp only [Sem.run_bind, Sem.run_pure, Result.andThen_ok, Bool.false_eq_true, if_false, hn, Bool.not_false, if_true]
    rw [if_pos hr]
    simp only [Sem.run_bind, hf, Result.andThen_ok]
    cases base <;> simp
  | some t =>
    obtain ⟨u, hu, hv⟩ := hz t e
    cases u <;> first
      | (cases hv; done)
      | (simp only [Sem.run_bind, run_under hu, Sem.run_pure, Result.andThen_ok, Bool.false_eq_true, if_false, hn, Bool.not_false, if_true]
         rw [if_pos hr]
         simp only [Sem.run_bind, hf, Result.andThen_ok]
         cases base <;> simp)

/-- What append does where it grows. -/
theorem append_grow_run {argTypes : Array TypeId} {ty sType elem : TypeId} {info : TypeInfo} {args : Array Value} {base : Option Addr} {sLen sCap n : Nat} {x z : Value} {old new : List Value} {w : World}
    (h0 : argTypes[0]? = some sType) (h1 : args[0]? = some (.slice base sLen sCap)) (h2 : args[1]? = some x) (ht : under P sType = some (.slice elem)) (hi : P.info? elem = some info)
    (hz : ∀ t, argTypes[1]? = some t → ∃ u, under P t = some u ∧ isInt u = false) (hn : (Builtin.lenOf x).run P w = .ok n w) (hzero : zeroA P elem = some z)
    (ho : ∀ w' : World, w'.heap = w.heap → (Builtin.firstCells info.size sLen (.slice base sLen sCap)).run P w' = .ok old.toArray w')
    (hf : ∀ w' : World, w'.heap = w.heap → (Builtin.firstCells info.size n x).run P w' = .ok new.toArray w') (hr : ¬ sLen + n ≤ sCap) (hmost : (sLen + n) * 2 * (info.bytes + 1) ≤ 1073741824) :
    ∃ m, sLen + n ≤ m ∧ (Builtin.append_ argTypes ty args).run P w = .ok (.slice (some ⟨w.heap.size, 0, none⟩) (sLen + n) m)
      { w with heap := w.heap.push (.cells (old ++ new ++ zerosN z.cells.toList (m - (sLen + n))).toArray elem), drawn := w.drawn + 1 } := by
  have hsz : sizeA P elem = some info.size := by simp [sizeA, hi]
  have hb : (sLen + n) * info.bytes ≤ 140737488355328 := by
    have h3 : (sLen + n) * info.bytes ≤ (sLen + n) * 2 * (info.bytes + 1) := by
      rw [Nat.mul_assoc]
      exact Nat.mul_le_mul_left _ (by omega)
    omega
  have hn0 : sLen + n ≤ 1073741824 := by
    have h3 : (sLen + n) ≤ (sLen + n) * 2 * (info.bytes + 1) := by
      rw [Nat.mul_assoc]
      exact Nat.le_mul_of_pos_right _ (by omega)
    omega
  have c1 : ∀ (p : Prop) [Decidable p], ¬ (((sLen + n : Nat) : Int) > IntKind.i64.max ∧ p) := by
    intro p _ ⟨e, _⟩
    have : IntKind.i64.max = 9223372036854775807 := by decide
    rw [this] at e
    omega
  have c2 : ¬ Builtin.nextslicecap (sLen + n) sCap * info.bytes > 2 ^ 48 := by
    have := growslice_fits (need := sLen + n) (old := sCap) (bytes := info.bytes) (by omega) hb
    omega
  have hq : (Question.appendCap (sLen + n) sCap elem).forced = false := rfl
  refine ⟨(Question.appendCap (sLen + n) sCap elem).cut (w.tape w.drawn (.appendCap (sLen + n) sCap elem)), by simp [Question.cut], ?_⟩
  have hzc := zeros_eq z.cells
  have e2 : ∀ m, Builtin.zeroCells z.cells m = (zerosN z.cells.toList m).toArray := fun m => hzc m
  have hd : ({ w with drawn := w.drawn + 1 } : World).heap = w.heap := rfl
  unfold Builtin.append_
  simp only [h0, h1, h2, Sem.run_bind, run_under ht, Result.andThen_ok, run_size hsz]
  cases e : argTypes[1]? with
  | none =>
    simp only [Sem.run_bind, Sem.run_pure, Result.andThen_ok, Bool.false_eq_true, if_false, hn, Bool.not_false, if_true]
    rw [if_neg hr]
    simp only [Sem.run_bind, run_info hi, Result.andThen_ok, false_or]
    rw [if_neg (c1 _)]
    simp only [Sem.run_bind, run_info hi, Result.andThen_ok]
    rw [if_neg c2]
    simp only [Sem.run_bind, run_choose, hq, Bool.false_eq_true, if_false, Result.andThen_ok, run_info hi, run_askRoom, ho _ hd, hf _ hd, run_zero hzero, e2, Go.newRow, run_newObj, Sem.run_pure]
    simp
  | some t =>
    obtain ⟨u, hu, hv⟩ := hz t e
    cases u <;> first
      | (cases hv; done)
      | (simp only [Sem.run_bind, run_under hu, Sem.run_pure, Result.andThen_ok, Bool.false_eq_true, if_false, hn, Bool.not_false, if_true]
         rw [if_neg hr]
         simp only [Sem.run_bind, run_info hi, Result.andThen_ok, false_or]
         rw [if_neg (c1 _)]
         simp only [Sem.run_bind, run_info hi, Result.andThen_ok]
         rw [if_neg c2]
         simp only [Sem.run_bind, run_choose, hq, Bool.false_eq_true, if_false, Result.andThen_ok, run_info hi, run_askRoom, ho _ hd, hf _ hd, run_zero hzero, e2, Go.newRow, run_newObj, Sem.run_pure]
         simp)

/-- What append does where there is room, where it grows: said of what is appended. -/
def Rooms (P : Program) (argTypes : Array TypeId) (ty : TypeId) (cb : Option Addr) (len cap : Nat) (x' : Value) (size n : Nat) (ys : List Value) (w : World) : Prop :=
  len + n ≤ cap → (Builtin.append_ argTypes ty #[.slice cb len cap, x']).run P w =
    (match cb with | some a => ((storeCells (a.add (len * size)) ys).run P w).andThen fun _ w' => .ok (.slice cb (len + n) cap) w' | none => .ok (.slice cb (len + n) cap) w)
def Grows (P : Program) (argTypes : Array TypeId) (ty elem : TypeId) (z : Value) (cb : Option Addr) (len cap : Nat) (x' : Value) (size bytes n : Nat) (ys : List Value) (w : World) : Prop :=
  ∀ old : List Value, (∀ w' : World, w'.heap = w.heap → (Builtin.firstCells size len (.slice cb len cap)).run P w' = .ok old.toArray w') → ¬ len + n ≤ cap → (len + n) * 2 * (bytes + 1) ≤ 1073741824 →
    ∃ m, len + n ≤ m ∧ (Builtin.append_ argTypes ty #[.slice cb len cap, x']).run P w = .ok (.slice (some ⟨w.heap.size, 0, none⟩) (len + n) m)
      { w with heap := w.heap.push (.cells (old ++ ys ++ zerosN z.cells.toList (m - (len + n))).toArray elem), drawn := w.drawn + 1 }

theorem isInt_spec {u : TypeDesc} (h : isInt u = true) : ∃ k, u = .int k := by
  cases u <;> first | exact ⟨_, rfl⟩ | cases h

theorem append_room_runZ {argTypes : Array TypeId} {ty sType t elem : TypeId} {u : TypeDesc} {kx : IntKind} {info : TypeInfo} {base : Option Addr} {sLen sCap n : Nat} {z : Value} {w : World}
    (h0 : argTypes[0]? = some sType) (ht : under P sType = some (.slice elem)) (hi : P.info? elem = some info)
    (h1 : argTypes[1]? = some t) (hu : under P t = some u) (hv : isInt u = true) (hz : zeroA P elem = some z) (hzs : z.cells.size = info.size) (hm : n * (info.bytes + info.size + 1) ≤ most) :
    Rooms P argTypes ty base sLen sCap (.int kx (Int.ofNat n)) info.size n (zerosN z.cells.toList n) w := by
  intro hr
  have hsz : sizeA P elem = some info.size := by simp [sizeA, hi]
  obtain ⟨k, rfl⟩ := isInt_spec hv
  have hn : n ≤ most := by
    have : n ≤ n * (info.bytes + info.size + 1) := Nat.le_mul_of_pos_right _ (by omega)
    omega
  have hb : ¬ (Int.ofNat n) * (info.bytes : Int) > 2 ^ 48 := by
    have h3 : n * info.bytes ≤ n * (info.bytes + info.size + 1) := Nat.mul_le_mul_left _ (by omega)
    have h4 : ((n * info.bytes : Nat) : Int) = Int.ofNat n * (info.bytes : Int) := Int.natCast_mul n info.bytes
    rw [← h4]
    have h5 : n * info.bytes ≤ 1073741824 := by unfold most at hm; omega
    intro h6
    have h7 : ((n * info.bytes : Nat) : Int) ≤ ((1073741824 : Nat) : Int) := Int.ofNat_le.2 h5
    omega
  have hneg : ¬ (Int.ofNat n) < 0 := Int.not_lt.2 (Int.natCast_nonneg n)
  have e2 : Builtin.zeroCells z.cells n = (zerosN z.cells.toList n).toArray := zeros_eq z.cells n
  unfold Builtin.append_
  have g0 : (#[Value.slice base sLen sCap, Value.int kx (Int.ofNat n)] : Array Value)[0]? = some (.slice base sLen sCap) := rfl
  have g1 : (#[Value.slice base sLen sCap, Value.int kx (Int.ofNat n)] : Array Value)[1]? = some (.int kx (Int.ofNat n)) := rfl
  simp only [h0, g0, g1, Sem.run_bind, run_under ht, Result.andThen_ok, run_size hsz, h1, run_under hu, Sem.run_pure, if_true, asInt, asIntOf, wrap_small hn]
  rw [if_neg hneg]
  simp only [Sem.run_bind, run_info hi, Result.andThen_ok]
  rw [if_neg hb]
  simp only [Sem.run_bind, Sem.run_pure, Result.andThen_ok, Int.ofNat_eq_natCast, Int.toNat_natCast]
  rw [if_pos hr]
  by_cases h13 : n * info.size = 0
  · have h15 : zerosN z.cells.toList n = [] := List.eq_nil_of_length_eq_zero (by rw [zerosN_length]; simpa [hzs] using h13)
    simp only [Bool.not_true, Bool.false_eq_true, if_false, h13, if_true, Sem.run_bind, Sem.run_pure, Result.andThen_ok, h15]
    cases base <;> simp
  · simp only [Bool.not_true, Bool.false_eq_true, if_false, h13, Sem.run_bind, run_zero hz, Sem.run_pure, Result.andThen_ok, e2]
    cases base <;> simp

theorem append_grow_runZ {argTypes : Array TypeId} {ty sType t elem : TypeId} {u : TypeDesc} {kx : IntKind} {info : TypeInfo} {base : Option Addr} {sLen sCap n : Nat} {z : Value} {w : World}
    (h0 : argTypes[0]? = some sType) (ht : under P sType = some (.slice elem)) (hi : P.info? elem = some info)
    (h1 : argTypes[1]? = some t) (hu : under P t = some u) (hv : isInt u = true) (hz : zeroA P elem = some z) (hzs : z.cells.size = info.size) (hm : n * (info.bytes + info.size + 1) ≤ most) :
    Grows P argTypes ty elem z base sLen sCap (.int kx (Int.ofNat n)) info.size info.bytes n (zerosN z.cells.toList n) w := by
  intro old ho hr hmost
  have hsz : sizeA P elem = some info.size := by simp [sizeA, hi]
  obtain ⟨k, rfl⟩ := isInt_spec hv
  have hn : n ≤ most := by
    have : n ≤ n * (info.bytes + info.size + 1) := Nat.le_mul_of_pos_right _ (by omega)
    omega
  have hbn : ¬ (Int.ofNat n) * (info.bytes : Int) > 2 ^ 48 := by
    have h3 : n * info.bytes ≤ n * (info.bytes + info.size + 1) := Nat.mul_le_mul_left _ (by omega)
    have h4 : ((n * info.bytes : Nat) : Int) = Int.ofNat n * (info.bytes : Int) := Int.natCast_mul n info.bytes
    rw [← h4]
    have h5 : n * info.bytes ≤ 1073741824 := by unfold most at hm; omega
    intro h6
    have h7 : ((n * info.bytes : Nat) : Int) ≤ ((1073741824 : Nat) : Int) := Int.ofNat_le.2 h5
    omega
  have hneg : ¬ (Int.ofNat n) < 0 := Int.not_lt.2 (Int.natCast_nonneg n)
  have hb : (sLen + n) * info.bytes ≤ 140737488355328 := by
    have h3 : (sLen + n) * info.bytes ≤ (sLen + n) * 2 * (info.bytes + 1) := by
      rw [Nat.mul_assoc]
      exact Nat.mul_le_mul_left _ (by omega)
    omega
  have hn0 : sLen + n ≤ 1073741824 := by
    have h3 : (sLen + n) ≤ (sLen + n) * 2 * (info.bytes + 1) := by
      rw [Nat.mul_assoc]
      exact Nat.le_mul_of_pos_right _ (by omega)
    omega
  have c1 : ∀ (p : Prop) [Decidable p], ¬ (((sLen + n : Nat) : Int) > IntKind.i64.max ∧ p) := by
    intro p _ ⟨e, _⟩
    have : IntKind.i64.max = 9223372036854775807 := by decide
    rw [this] at e
    omega
  have c2 : ¬ Builtin.nextslicecap (sLen + n) sCap * info.bytes > 2 ^ 48 := by
    have := growslice_fits (need := sLen + n) (old := sCap) (bytes := info.bytes) (by omega) hb
    omega
  have hq : (Question.appendCap (sLen + n) sCap elem).forced = false := rfl
  refine ⟨(Question.appendCap (sLen + n) sCap elem).cut (w.tape w.drawn (.appendCap (sLen + n) sCap elem)), by simp [Question.cut], ?_⟩
  have hzc := zeros_eq z.cells
  have e2 : ∀ m, Builtin.zeroCells z.cells m = (zerosN z.cells.toList m).toArray := fun m => hzc m
  have hd : ({ w with drawn := w.drawn + 1 } : World).heap = w.heap := rfl
  unfold Builtin.append_
  have g0 : (#[Value.slice base sLen sCap, Value.int kx (Int.ofNat n)] : Array Value)[0]? = some (.slice base sLen sCap) := rfl
  have g1 : (#[Value.slice base sLen sCap, Value.int kx (Int.ofNat n)] : Array Value)[1]? = some (.int kx (Int.ofNat n)) := rfl
  simp only [h0, g0, g1, Sem.run_bind, run_under ht, Result.andThen_ok, run_size hsz, h1, run_under hu, Sem.run_pure, if_true, asInt, asIntOf, wrap_small hn]
  rw [if_neg hneg]
  simp only [Sem.run_bind, run_info hi, Result.andThen_ok]
  rw [if_neg hbn]
  simp only [Sem.run_bind, Sem.run_pure, Result.andThen_ok, Int.ofNat_eq_natCast, Int.toNat_natCast]
  rw [if_neg hr]
  simp only [Sem.run_bind, run_info hi, Result.andThen_ok, true_or]
  rw [if_neg (c1 _)]
  simp only [Sem.run_bind, run_info hi, Result.andThen_ok]
  rw [if_neg c2]
  by_cases h13 : n * info.size = 0
  · have h15 : zerosN z.cells.toList n = [] := List.eq_nil_of_length_eq_zero (by rw [zerosN_length]; simpa [hzs] using h13)
    simp only [Bool.not_true, Bool.false_eq_true, if_false, h13, if_true, Sem.run_bind, run_choose, hq, Result.andThen_ok, run_info hi, run_askRoom, ho _ hd, run_zero hz, e2, Go.newRow, run_newObj, Sem.run_pure, h15]
    simp
  · simp only [Bool.not_true, Bool.false_eq_true, if_false, h13, Sem.run_bind, run_choose, hq, Result.andThen_ok, run_info hi, run_askRoom, ho _ hd, run_zero hz, e2, Go.newRow, run_newObj, Sem.run_pure]
    simp

theorem isInt_notMade {sType : TypeId} {argTypes : Array TypeId} {xTypes : List TypeId} (e : argTypes.toList = sType :: xTypes) (h : notMade P (sType :: xTypes) = true) :
    argTypes[0]? = some sType ∧ ∀ t, argTypes[1]? = some t → ∃ u, under P t = some u ∧ isInt u = false := by
  have h0 : ∀ i : Nat, argTypes[i]? = (sType :: xTypes)[i]? := fun i => by rw [← e, Array.getElem?_toList]
  refine ⟨by rw [h0]; rfl, fun t ht => ?_⟩
  rw [h0] at ht
  match xTypes, h, ht with
  | [], _, ht => simp at ht
  | [t'], h, ht =>
    simp at ht
    subst ht
    simp only [notMade] at h
    cases hu : under P t' with
    | none => rw [hu] at h; simp at h
    | some u =>
      rw [hu] at h
      simp only [notB_eq] at h
      exact ⟨u, rfl, by simpa using h⟩
  | _ :: _ :: _, h, _ => simp [notMade] at h

theorem open_obj {μ : Mp} {n : Nat} {xs : List Value} {ys zs : List Value} {e : TypeId} {z : Nat} (h : LRel μ xs ys) :
    ORel μ ⟨n, 0, some (e, z, (ys ++ zs).length)⟩ (.cells xs e) (.cells (ys ++ zs).toArray e) := by
  refine .cells (fun j v hj => ?_) (.inl rfl) (by have := h.length; simp; omega) (by simp)
  have hl := h.length
  have hlt : j < ys.length := by
    rw [← hl]
    rcases Nat.lt_or_ge j xs.length with h0 | h0
    · exact h0
    · rw [List.getElem?_eq_none h0] at hj; cases hj
  have hy : ys[j]? = some ys[j] := List.getElem?_eq_getElem hlt
  refine ⟨ys[j], ?_, h.get j _ _ hj hy⟩
  simp only [Nat.zero_add, List.getElem?_toArray]
  rw [List.getElem?_append_left hlt]
  exact hy

theorem loadN_len {s : St} {a : Addr} {n : Nat} {xs : List Value} (h : loadN s a n = some xs) : xs.length = n := by
  unfold loadN at h
  split at h
  · cases h; rfl
  · split at h
    · cases h
    · obtain ⟨⟨vs, e⟩, _, h⟩ := bind_some h
      exact window_len h

theorem grow_new {μ : Mp} {s : St} {w : World} (hs : SimS P μ s w) (hf : μ s.next = none) {elem : TypeId} {size : Nat} (hsz : sizeA P elem = some size) {xs ys zs : List Value} (h : LRel μ xs ys) (w' : World)
    (hw : w'.heap = w.heap.push (.cells (ys ++ zs).toArray elem)) (h1 : w'.os = w.os) (h2 : w'.tape = w.tape) (h3 : w'.output = w.output) :
    MovedS P μ s w (μ.add s.next ⟨w.heap.size, 0, some (elem, size, (ys ++ zs).length)⟩) (s.new (.cells xs elem)).2 w' :=
  hs.alloc hf (b := ⟨w.heap.size, 0, some (elem, size, (ys ++ zs).length)⟩) rfl (fun t z n h => by cases h; exact hsz) (open_obj h) hw h1 h2 h3 _ (get_new s _)

theorem args2 {μ : Mp} {base : Option Addr} {len c : Nat} {x : Value} {cargs : Array Value} (h : LRel μ [.slice base len c, x] cargs.toList) :
    ∃ cb cap x', cargs = #[.slice cb len cap, x'] ∧ VRel μ (.slice base len c) (.slice cb len cap) ∧ VRel μ x x' := by
  obtain ⟨l⟩ := cargs
  simp only at h
  cases h with
  | cons r1 h =>
  cases h with
  | cons r2 h =>
  cases h
  obtain ⟨cb, cap, rfl, _⟩ := slice_shape r1
  exact ⟨cb, cap, _, rfl, r1, r2⟩

theorem some_of_slice {μ : Mp} {a : Addr} {len c cap : Nat} {cb : Option Addr} (hb : VRel μ (.slice (some a) len c) (.slice cb len cap)) : ∃ q, cb = some q := by
  obtain ⟨_, _, e, hnn⟩ := slice_shape hb
  cases e
  cases cb with
  | none => exact absurd (hnn.2 rfl) (by simp)
  | some q => exact ⟨q, rfl⟩

theorem none_of_slice {μ : Mp} {len c cap : Nat} {cb : Option Addr} (hb : VRel μ (.slice none len c) (.slice cb len cap)) : cb = none := by
  obtain ⟨_, _, e, hnn⟩ := slice_shape hb
  cases e
  exact hnn.1 rfl

/-- There is room for what is appended. -/
theorem append_room {μ : Mp} {s s' : St} {w : World} (hs : SimS P μ s w) {argTypes : Array TypeId} {ty : TypeId} {info : TypeInfo} {base cb : Option Addr} {len c cap n : Nat} {x' : Value} {new : List Value}
 {v : Value}
    (h : (match base with
      | some a => (storeN s (a.add (len * info.size)) new).map fun s => (Value.slice base (len + n) c, s)
      | none => match new with
        | [] => some (.slice none (len + n) c, s)
        | _ => none) = some (v, s'))
    (hb : VRel μ (.slice base len c) (.slice cb len cap)) {ys : List Value} (k2 : LRel μ new ys) (hR : Rooms P argTypes ty cb len cap x' info.size n ys w) (hnl : new.length = n * info.size) (hroom : len + n ≤ capLow c) :
    ∃ u w' μ', (Builtin.append_ argTypes ty #[.slice cb len cap, x']).run P w = .ok u w' ∧ VRel μ' v u ∧ MovedS P μ s w μ' s' w' := by
  have hcap := hb.sliceCap
  have hroom' : len + n ≤ cap := Nat.le_trans hroom hcap.2.1.low
  have hrun := hR hroom'
  cases base with
  | some a =>
    obtain ⟨s1, h1, h2⟩ := map_some h
    simp only [Prod.mk.injEq] at h2
    obtain ⟨rfl, rfl⟩ := h2
    obtain ⟨q, rfl⟩ := some_of_slice hb
    have hres : VRel μ (.slice (some a) (len + n) c) (.slice (some q) (len + n) cap) := by
      cases hb with
      | slice _ k hl r => exact .slice _ _ hroom' r
      | «open» _ k m b t z nn hl r hm ho hk hcz => exact .open _ k _ b t z nn hroom' r hm ho hk hcz
    rcases Nat.eq_zero_or_pos (capLow c) with h0 | h0
    · have hn0 : n = 0 := by omega
      have hnil : new = [] := List.eq_nil_of_length_eq_zero (by rw [hnl, hn0]; simp)
      subst hnil
      simp [storeN] at h1
      subst h1
      cases k2
      refine ⟨_, w, μ, ?_, hres, .refl hs⟩
      rw [hrun]
      simp [storeCells]
    · obtain ⟨q', e, r⟩ := hb.adr (.inr h0)
      cases e
      obtain ⟨w', k4, k5⟩ := storeN_sim (P := P) hs (r.add (len * info.size)) k2 h1
      refine ⟨_, w', μ, ?_, hres, k5⟩
      rw [hrun]
      simp [k4]
  | none =>
    have := none_of_slice hb
    subst this
    simp only at h
    split at h
    · cases h
      refine ⟨_, w, μ, by rw [hrun], ?_, .refl hs⟩
      cases hb with
      | sliceNil _ k hl => exact .sliceNil _ _ hroom'
    · cases h

end
end Go.Ab

/- The operations under the relation, eighth part: append that grows, copy. Conditions: none (lemmas). -/
namespace Go.Ab

section
variable {P : Program}

theorem append_grow {μ : Mp} {s s' : St} {w : World} (hs : SimS P μ s w) (hf : μ s.next = none) {argTypes : Array TypeId} {ty elem : TypeId} {info : TypeInfo} {z : Value} {base cb : Option Addr} {len c cap n : Nat} {x' : Value} {new : List Value}
    (hb : VRel μ (.slice base len c) (.slice cb len cap)) {yn : List Value} (f2 : LRel μ new yn) (hR : Rooms P argTypes ty cb len cap x' info.size n yn w) (hG : Grows P argTypes ty elem z cb len cap x' info.size info.bytes n yn w)
    (hi : P.info? elem = some info) (hzs : z.cells.size = info.size)
    (hnl : new.length = n * info.size) (hroom : ¬ len + n ≤ capLow c) (hpos : capExact c = true ∨ 0 < n) {v : Value}
    (h : growA s elem base len n c info.size info.bytes new = some (v, s')) :
    ∃ u w' μ', (Builtin.append_ argTypes ty #[.slice cb len cap, x']).run P w = .ok u w' ∧ VRel μ' v u ∧ MovedS P μ s w μ' s' w' := by
  have hsz : sizeA P elem = some info.size := by simp [sizeA, hi]
  have hcap := hb.sliceCap
  unfold growA at h
  split at h
  case h_2 => cases h
  rename_i hm0 hs0
  have hmost : (len + n) * 2 * (info.bytes + 1) ≤ 1073741824 := Nat.le_of_not_lt fun e => by rw [← Nat.blt_eq, hm0] at e; cases e
  have hnl' : yn.length = n * info.size := by rw [← f2.length]; exact hnl
  -- growing into a new block
  have fresh : ∀ (old yo : List Value) (s1 : St), (∀ w' : World, w'.heap = w.heap → (Builtin.firstCells info.size len (.slice cb len cap)).run P w' = .ok yo.toArray w') → LRel μ old yo → old.length = len * info.size → ¬ len + n ≤ cap →
      SimS P μ s1 w → μ s1.next = none → ∃ u w' μ', (Builtin.append_ argTypes ty #[.slice cb len cap, x']).run P w = .ok u w' ∧
        VRel μ' (.slice (some ⟨s1.next, 0, none⟩) (len + n) (2 * (len + n) + 1)) u ∧ MovedS P μ s1 w μ' (s1.new (.cells (old ++ new) elem)).2 w' := by
    intro old yo s1 ho hold hlen hnot hs1 hf1
    obtain ⟨m, j1, j2⟩ := hG yo ho hnot hmost
    have hll : LRel μ (old ++ new) (yo ++ yn) := hold.append f2
    have hg := grow_new (P := P) hs1 hf1 (elem := elem) (size := info.size) hsz (zs := zerosN z.cells.toList (m - (len + n))) hll
      { w with heap := w.heap.push (.cells ((yo ++ yn) ++ zerosN z.cells.toList (m - (len + n))).toArray elem), drawn := w.drawn + 1 } rfl rfl rfl rfl
    refine ⟨_, _, _, j2, ?_, hg⟩
    refine .open _ _ _ _ elem info.size _ j1 (.inl ⟨rfl, rfl, _, μ.add_same _ _, rfl, rfl⟩) (μ.add_same _ _) rfl j1 (.inl ?_)
    have hyo : yo.length = len * info.size := by rw [← hold.length]; exact hlen
    simp only [List.length_append, zerosN_length, hyo, hnl', Array.length_toList, hzs, Nat.zero_add]
    rw [← Nat.add_mul, ← Nat.add_mul]
    exact Nat.mul_le_mul_right _ (by omega)
  cases base with
  | none =>
    have := none_of_slice hb
    subst this
    simp only at h
    split at h
    · rename_i hex
      rw [capExact_iff] at hex
      split at h
      · cases h
        have hk : capLow c = cap := by
          cases hb with
          | sliceNil _ k hl => unfold capLow; omega
        obtain ⟨u, w', μ', k1, k2, k3⟩ := fresh [] [] s (fun _ _ => by simp [Builtin.firstCells]) .nil (by simp) (by omega) hs hf
        exact ⟨u, w', μ', k1, by simpa using k2, by simpa using k3⟩
      · cases h
    · cases h
  | some a =>
    obtain ⟨q, rfl⟩ := some_of_slice hb
    simp only at h
    obtain ⟨old, h1, h⟩ := bind_some h
    have hlen := loadN_len h1
    have hfa : firstA s info.size len (.slice (some a) len c) = some old := by simpa [firstA] using h1
    obtain ⟨yo, o1, o2⟩ := first_sim (P := P) hs hb (Nat.le_refl len) rfl hfa
    split at h
    · rename_i hex
      rw [capExact_iff] at hex
      cases h
      have hk : capLow c = cap := by
        cases hb with
        | slice _ k hl r => unfold capLow; omega
        | «open» _ k _ _ _ _ _ _ _ _ _ _ _ => omega
      exact fresh old yo s o1 o2 hlen (by omega) hs hf
    · rename_i hex
      have hodd : c % 2 = 1 := by
        have : ¬ c % 2 = 0 := fun e => by rw [← capExact_iff, hex] at e; cases e
        omega
      have hn0 : 0 < n := hpos.resolve_left (by rw [capExact_iff]; omega)
      obtain ⟨⟨vs, e⟩, h2, h⟩ := bind_some h
      simp only at h
      split at h
      · rename_i he
        have he : e = elem := by rwa [Nat.beq_eq] at he
        subst he
        split at h
        case h_2 => cases h
        rename_i hone0
        cases h
        by_cases hfit : len + n ≤ cap
        · -- in place: the block goes on under a new name
          obtain ⟨b, cs, fr, q1, q2, q3, q4, q5, q6⟩ := hs.row (row_some h2)
          cases hb with
          | slice _ k hl r => omega
          | «open» _ k m b' t zz nn hl r hm ho hk hcz =>
          rw [hm] at q1; cases q1
          rw [ho] at q6
          simp only at q6
          have hzz := hs.opn _ _ _ _ _ hm ho
          rw [q6.1, hsz] at hzz
          cases hzz
          have r := r.resolve_right (by omega)
          have hcz := hcz.resolve_right (by omega)
          obtain ⟨r1, r2, b2, r3, r4, r5⟩ := r
          rw [hm] at r3; cases r3
          have hadd := Addr.add_off q (len * info.size) r2
          have hmul : (len + n) * info.size ≤ cap * info.size := Nat.mul_le_mul_right _ hfit
          rw [Nat.add_mul] at hmul
          have hrun := hR hfit
          have hone : ∀ v ∈ yn, v.oneCell' = true := fun v hv => by
            obtain ⟨j, hj⟩ := List.mem_iff_getElem?.1 hv
            have hjl : j < new.length := by
              rw [f2.length]
              rcases Nat.lt_or_ge j yn.length with h0 | h0
              · exact h0
              · rw [List.getElem?_eq_none h0] at hj; cases hj
            have hu : new[j]? = some new[j] := List.getElem?_eq_getElem hjl
            exact (f2.get j _ v hu hj).oneCell (allOne_spec _ hone0 _ (List.mem_iff_getElem?.2 ⟨j, hu⟩))
          obtain ⟨w', cs', n1, n2, n3, n4, n5, n6, n7, n8, n9⟩ := storeCells_run (P := P) (c := q.add (len * info.size)) (by rw [hadd]) yn 0 w cs (by rw [Addr.add_off', r4]; exact q2) (by rw [hadd]; simp only; omega) q4.not hone
          rw [Addr.add_off'] at n2 n5
          rw [hadd] at n4
          simp only [Nat.add_zero] at n4
          have hlo : yo.length = len * info.size := by rw [← o2.length]; exact hlen
          have hres := hs.reseat hf (b' := ⟨b.block, b.base + a.off, b.opn⟩) (p' := .cells cs' e fr) (o' := .cells (old ++ new) e) (row_some h2) hm rfl rfl ?_ (by rw [← r4]; exact n2) (fun k hk => n5 k (by rw [r4]; exact hk)) n6 n7 n8 n9 (fun c0 t0 fr0 h0 => by rw [q2] at h0; cases h0; exact ⟨cs', _, rfl, n3, .inl rfl⟩)
            ((s.put a.block none).new (.cells (old ++ new) e)).2.heap.get (fun j => by
              have hp := get_put s a.block none j
              rw [get_new, hp]; rfl)
          · refine ⟨.slice (some q) (len + n) cap, w', _, ?_, ?_, hres⟩
            · rw [hrun]; simp only [n1, Result.andThen_ok]
            · refine .open _ _ _ ⟨b.block, b.base + a.off, b.opn⟩ t info.size nn (by omega) (.inl ⟨rfl, r2, _, μ.add_same _ _, r4, by simp [r5]⟩) (μ.add_same _ _) ho (by omega) (.inl hcz)
          · refine .cells (fun j v hj => ?_) (by rw [n3]; exact q4) ?_ ?_
            · rw [n4]
              rcases Nat.lt_or_ge j old.length with hjl | hjl
              · rw [List.getElem?_append_left hjl] at hj
                rw [if_neg (by simp only; omega)]
                have : vs[a.off + j]? = some v := by
                  unfold loadN at h1
                  split at h1
                  · cases h1; simp at hj
                  · rw [r1] at h1
                    simp only [h2, Option.bind_some] at h1
                    exact (window_get h1 j v hj).1
                obtain ⟨u, g1, g2⟩ := q3 _ _ this
                exact ⟨u, by rw [← g1]; congr 1; simp only; omega, g2⟩
              · rw [List.getElem?_append_right hjl] at hj
                have hjn : j - old.length < new.length := by
                  rcases Nat.lt_or_ge (j - old.length) new.length with h0 | h0
                  · exact h0
                  · rw [List.getElem?_eq_none h0] at hj; cases hj
                have hyl : j - old.length < yn.length := by omega
                rw [if_pos (by simp only; omega)]
                refine ⟨yn[j - old.length], ?_, f2.get _ _ _ hj (List.getElem?_eq_getElem hyl)⟩
                rw [← List.getElem?_eq_getElem hyl]
                congr 1
                simp only
                omega
            · simp only [List.length_append]; omega
            · simp only [ho]; exact ⟨q6.1, by omega⟩
        · -- a new block; the old name is forgotten
          have hd := hs.drop (P := P) (s.put a.block none).heap.get (fun j o hj => by
            rw [get_put] at hj
            split at hj
            · cases hj
            · exact hj)
          obtain ⟨u, w', μ', k1, k2, k3⟩ := fresh old yo (s.put a.block none) o1 o2 hlen hfit hd.sim hf
          exact ⟨u, w', μ', k1, k2, hd.trans k3⟩
      · cases h

end
end Go.Ab

/- The operations under the relation, ninth part: append whole, copy, conversions, maps. Conditions: none (lemmas). -/
namespace Go.Ab

section
variable {P : Program}

theorem appendN_sim {μ : Mp} {s s' : St} {w : World} (hs : SimS P μ s w) (hf : μ s.next = none) {argTypes : Array TypeId} {ty elem : TypeId} {info : TypeInfo} {z : Value} {base cb : Option Addr} {len c cap n : Nat} {x' : Value} {new ys : List Value}
    (hb : VRel μ (.slice base len c) (.slice cb len cap)) (k2 : LRel μ new ys) (hR : Rooms P argTypes ty cb len cap x' info.size n ys w) (hG : Grows P argTypes ty elem z cb len cap x' info.size info.bytes n ys w)
    (hi : P.info? elem = some info) (hzs : z.cells.size = info.size) (hnl : new.length = n * info.size) {v : Value}
    (h : appendN s elem base len c n new info.size info.bytes = some (v, s')) :
    ∃ u w' μ', (Builtin.append_ argTypes ty #[.slice cb len cap, x']).run P w = .ok u w' ∧ VRel μ' v u ∧ MovedS P μ s w μ' s' w' := by
  unfold appendN at h
  split at h
  · rename_i hroom
    rw [Nat.ble_eq] at hroom
    exact append_room hs h hb k2 hR hnl hroom
  · rename_i hroom
    have hroom' : ¬ len + n ≤ capLow c := fun e => by rw [← Nat.ble_eq, hroom] at e; cases e
    have hne : ¬ (n = 0 ∧ capExact c = false) := by
      rintro ⟨e1, e2⟩
      subst e1
      rw [e2] at h
      cases h
    have h : growA s elem base len n c info.size info.bytes new = some (v, s') := by
      split at h
      · cases h
      · exact h
    · refine append_grow hs hf hb k2 hR hG hi hzs hnl hroom' ?_ h
      cases hc : capExact c with
      | true => exact .inl rfl
      | false =>
        rcases Nat.eq_zero_or_pos n with h0 | h0
        · exact absurd ⟨h0, hc⟩ hne
        · exact .inr h0

theorem append_sim {μ : Mp} {s s' : St} {w : World} (hs : SimS P μ s w) (hf : μ s.next = none) {argTypes : Array TypeId} {ty : TypeId} {args : List Value} {cargs : Array Value} (hargs : LRel μ args cargs.toList) {v : Value}
    (h : appendA P s argTypes args = some (v, s')) : ∃ u w' μ', (Builtin.append_ argTypes ty cargs).run P w = .ok u w' ∧ VRel μ' v u ∧ MovedS P μ s w μ' s' w' := by
  unfold appendA at h
  split at h
  case h_2 => cases h
  rename_i sType xTypes base len c x etypes
  split at h
  case h_2 =>
    rename_i hnm
    split at h
    case h_2 => cases h
    rename_i t kx n
    obtain ⟨u, hu, h⟩ := bind_some h
    split at h
    case h_2 => cases h
    rename_i hv
    have hh := bind_some h
    clear h
    obtain ⟨d, ht, h⟩ := hh
    split at h
    case h_2 => cases h
    rename_i elem
    obtain ⟨info, hi, h⟩ := bind_some h
    obtain ⟨z, hz, h⟩ := bind_some h
    unfold appendM at h
    split at h
    case h_2 => cases h
    rename_i hzs hm
    rw [Nat.beq_eq] at hzs
    have hm' : n * (info.bytes + info.size + 1) ≤ most := Nat.le_of_not_lt fun e => by rw [← Nat.blt_eq, hm] at e; cases e
    obtain ⟨cb, cap, x', rfl, hb, hx⟩ := args2 hargs
    cases hx
    have h0 : argTypes[0]? = some sType := by
      have : ∀ i : Nat, argTypes[i]? = [sType, t][i]? := fun i => by rw [← etypes, Array.getElem?_toList]
      rw [this]; rfl
    have h1 : argTypes[1]? = some t := by
      have : ∀ i : Nat, argTypes[i]? = [sType, t][i]? := fun i => by rw [← etypes, Array.getElem?_toList]
      rw [this]; rfl
    have hR := append_room_runZ (ty := ty) (kx := kx) (base := cb) (sLen := len) (sCap := cap) (n := n) (w := w) h0 ht hi h1 hu hv hz hzs hm'
    have hG := append_grow_runZ (ty := ty) (kx := kx) (base := cb) (sLen := len) (sCap := cap) (n := n) (w := w) h0 ht hi h1 hu hv hz hzs hm'
    exact appendN_sim hs hf hb (zerosN_rel ((zero_rel hz μ).cells) n) hR hG hi hzs (by rw [zerosN_length]; simp [hzs]) h
  rename_i hnm
  have hh := bind_some h
  clear h
  obtain ⟨d, ht, h⟩ := hh
  split at h
  case h_2 => cases h
  rename_i elem
  obtain ⟨info, hi, h⟩ := bind_some h
  obtain ⟨z, hz, h⟩ := bind_some h
  split at h
  case h_2 => cases h
  rename_i hzs
  rw [Nat.beq_eq] at hzs
  unfold appendS at h
  obtain ⟨n, hn, h⟩ := bind_some h
  obtain ⟨new, hnew, h⟩ := bind_some h
  split at h
  case h_1 => cases h
  rename_i hnl
  rw [Nat.beq_eq] at hnl
  obtain ⟨hty0, hty1⟩ := isInt_notMade etypes hnm
  obtain ⟨cb, cap, x', rfl, hb, hx⟩ := args2 hargs
  obtain ⟨ys, k1, k2⟩ := first_sim (P := P) hs hx (Nat.le_refl n) hn hnew
  have hrn := lenOf_sim (P := P) hx hn w
  have hR : Rooms P argTypes ty cb len cap x' info.size n ys w := fun hr => append_room_run (P := P) (ty := ty) (args := #[.slice cb len cap, x']) (base := cb) (sLen := len) (sCap := cap) (x := x') hty0 rfl rfl ht hi hty1 hrn (k1 w rfl) hr
  have hG : Grows P argTypes ty elem z cb len cap x' info.size info.bytes n ys w := fun old ho hnot hmost => append_grow_run (P := P) (ty := ty) (args := #[.slice cb len cap, x']) (base := cb) (sLen := len) (sCap := cap) (x := x') hty0 rfl rfl ht hi hty1 hrn hz ho k1 hnot hmost
  exact appendN_sim hs hf hb k2 hR hG hi hzs hnl h

theorem copy_sim {μ : Mp} {s s' : St} {w : World} (hs : SimS P μ s w) {argTypes : Array TypeId} {ty : TypeId} {args : List Value} {cargs : Array Value} (hargs : LRel μ args cargs.toList) {v : Value}
    (h : copyA P s argTypes args = some (v, s')) : ∃ u w', (Builtin.copy_ argTypes ty cargs).run P w = .ok u w' ∧ VRel μ v u ∧ MovedS P μ s w μ s' w' := by
  unfold copyA at h
  split at h
  case h_2 => cases h
  rename_i dType dTypes base len c src etypes
  have hh := bind_some h
  clear h
  obtain ⟨d, ht, h⟩ := hh
  split at h
  case h_2 => cases h
  rename_i elem
  obtain ⟨z, hz, h⟩ := bind_some h
  obtain ⟨m, hm, h⟩ := bind_some h
  obtain ⟨cs, hcs, h⟩ := bind_some h
  obtain ⟨cb, cap, x', rfl, hb, hx⟩ := args2 hargs
  have h0 : argTypes[0]? = some dType := by
    have : ∀ i : Nat, argTypes[i]? = (dType :: dTypes)[i]? := fun i => by rw [← etypes, Array.getElem?_toList]
    rw [this]; rfl
  obtain ⟨ys, f1, f2⟩ := first_sim (P := P) hs hx (Nat.min_le_left m len) hm hcs
  have hl := lenOf_sim (P := P) hx hm w
  have hrun : (Builtin.copy_ argTypes ty #[.slice cb len cap, x']).run P w =
      (match cb with | some a => ((storeCells a ys).run P w).andThen fun _ w' => .ok (goInt (Nat.min m len)) w' | none => .ok (goInt (Nat.min m len)) w) := by
    unfold Builtin.copy_
    have e1 : (#[.slice cb len cap, x'] : Array Value)[0]? = some (.slice cb len cap) := rfl
    have e2 : (#[.slice cb len cap, x'] : Array Value)[1]? = some x' := rfl
    simp only [h0, e1, e2, Sem.run_bind, run_under ht, Result.andThen_ok, hl, run_size hz, f1 w rfl]
    cases cb <;> simp
  split at h
  · rename_i a
    obtain ⟨s1, h1, h2⟩ := map_some h
    simp only [Prod.mk.injEq] at h2
    obtain ⟨rfl, rfl⟩ := h2
    obtain ⟨q, rfl⟩ := some_of_slice hb
    rcases Nat.eq_zero_or_pos len with h0' | h0'
    · have : cs = [] := by
        subst h0'
        have h3 : Nat.min m 0 = 0 := by simp
        rw [h3] at hcs
        unfold firstA at hcs
        split at hcs
        · simpa [loadN] using hcs.symm
        · simpa using hcs.symm
        · simpa using hcs.symm
        · cases hcs
      subst this
      simp [storeN] at h1
      subst h1
      cases f2
      exact ⟨_, w, by rw [hrun]; simp only [storeCells, Sem.run_pure, Result.andThen_ok]; rfl, .int _ _, .refl hs⟩
    · obtain ⟨q', e, r⟩ := hb.adr (.inl h0')
      cases e
      obtain ⟨w', k1, k2⟩ := storeN_sim (P := P) hs r f2 h1
      exact ⟨_, w', by rw [hrun]; simp only [k1, Result.andThen_ok]; rfl, .int _ _, k2⟩
  · cases h
    have := none_of_slice hb
    subst this
    exact ⟨_, w, hrun, .int _ _, .refl hs⟩

theorem len_sim {μ : Mp} {s : St} {w : World} (hs : SimS P μ s w) {argTypes : Array TypeId} {ty : TypeId} {args : List Value} {cargs : Array Value} (hargs : LRel μ args cargs.toList) {v : Value}
    (h : lenA P s argTypes args = some v) : ∃ u, (Builtin.len_ argTypes ty cargs).run P w = .ok u w ∧ VRel μ v u := by
  unfold lenA at h
  split at h
  case h_2 => cases h
  rename_i t ts x etypes
  obtain ⟨x', rfl, hx⟩ : ∃ x', cargs = #[x'] ∧ VRel μ x x' := by
    obtain ⟨l⟩ := cargs
    simp only at hargs
    cases hargs with
    | cons r hargs =>
    cases hargs
    exact ⟨_, rfl, r⟩
  have h0 : argTypes[0]? = some t := by
    have : ∀ i : Nat, argTypes[i]? = (t :: ts)[i]? := fun i => by rw [← etypes, Array.getElem?_toList]
    rw [this]; rfl
  have hh := bind_some h
  clear h
  obtain ⟨d, ht, h⟩ := hh
  have e1 : (#[x'] : Array Value)[0]? = some x' := rfl
  unfold Builtin.len_
  simp only [h0, e1, Sem.run_bind, run_under ht, Result.andThen_ok]
  split at h
  · cases hx; cases h; exact ⟨_, rfl, .int _ _⟩
  · cases h; exact ⟨_, rfl, .int _ _⟩
  · cases h
    obtain ⟨c, cap, rfl, _⟩ := slice_shape hx
    exact ⟨_, rfl, .int _ _⟩
  · cases hx; cases h; exact ⟨_, rfl, .int _ _⟩
  · rename_i r
    cases hx with
    | map _ b hb =>
    obtain ⟨⟨es, c⟩, h1, rfl⟩ := map_some h
    have h2 : s.heap.get r = some (.map es c) := by
      unfold St.mapOf at h1
      split at h1
      · rename_i h3; cases h1; exact h3
      · cases h1
    obtain ⟨b', p, k1, k2, k3⟩ := hs.live _ _ h2
    rw [hb] at k1; cases k1
    cases k3 with
    | map _ hl =>
    rename_i fs
    refine ⟨goInt fs.size, ?_, ?_⟩
    · simp only [Sem.run_bind, getObj, Sem.run, k2, Result.andThen_ok, Sem.run_pure]
    · have := hl.length
      simp only [Array.length_toList] at this
      simp only [this]
      exact .int _ _
  · cases h

def Obj.noCells : Obj → Bool
  | .cells .. => false
  | _ => true

theorem getObj_run {w : World} {r : Nat} {o : Obj} (hr : w.heap[r]? = some o) (hc : Obj.noCells o = true) : (getObj r).run P w = .ok o w := by
  simp only [getObj, Sem.run, hr]
  cases o <;> first | rfl | cases hc

theorem setObj_run {w : World} {r : Nat} {o : Obj} (o' : Obj) (hr : w.heap[r]? = some o) (hc : Obj.noCells o = true) : (setObj r o').run P w = .ok () { w with heap := w.heap.setIfInBounds r o' } := by
  simp only [setObj, Sem.run, hr]
  cases o <;> first | rfl | cases hc

theorem findKey_run {w : World} {kt : TypeId} {d : TypeDesc} {k : Value} {l : List MapEntry} {a : Option (Nat × Value)} (hd : under P kt = some d) (h : Instr.findNow d k l 0 = some a) : (Instr.findKey kt k l).run P w = .ok a w := by
  simp only [Instr.findKey, Sem.run_bind, run_under hd, Result.andThen_ok, h, Sem.run_pure]

/-- One block that is no row is put in another's place. -/
theorem Sim.setObj {μ : Mp} {s : St} {w : World} (hs : SimS P μ s w) {i : Nat} {o o' : AObj} {b : Blk} {p p' : Obj} (hi : s.heap.get i = some o) (hb : μ i = some b) (hp : w.heap[b.block]? = some p)
    (ho : ORel μ b o' p') (hnc : Obj.noCells p = true := by rfl) : MovedS P μ s w μ (s.put i (some o')) { w with heap := w.heap.setIfInBounds b.block p' } := by
  have hlt : b.block < w.heap.size := (Array.getElem?_eq_some_iff.1 hp).1
  exact hs.update (w' := { w with heap := w.heap.setIfInBounds b.block p' }) hi hb ho (by simp [hlt]) (fun k hk => by simp [Ne.symm hk]) (by simp) rfl rfl rfl (fun c0 t0 fr0 h0 => by rw [hp] at h0; cases h0; cases hnc) _ (fun j => get_put s i _ j)

theorem mapOf_some {s : St} {r c : Nat} {es : List MapEntry} (h : s.mapOf r = some (es, c)) : s.heap.get r = some (.map es c) := by
  unfold St.mapOf at h
  split at h
  · rename_i h3; cases h; exact h3
  · cases h

/-- A map, as it lies. -/
theorem Sim.map {μ : Mp} {s : St} {w : World} (hs : SimS P μ s w) {r c : Nat} {es : List MapEntry} (h : s.mapOf r = some (es, c)) :
    ∃ b fs, μ r = some b ∧ w.heap[b.block]? = some (.map fs c) ∧ All2 (ERel μ) es fs.toList := by
  obtain ⟨b, p, k1, k2, k3⟩ := hs.live _ _ (mapOf_some h)
  cases k3 with
  | map _ hl => exact ⟨b, _, k1, k2, hl⟩

theorem keyOk_desc {t : TypeId} {k : Value} (h : keyOk P t k = true) : (∃ d j n, under P t = some (.int d) ∧ k = .int j n) ∨ (∃ s, under P t = some .string ∧ k = .string s) := by
  unfold keyOk at h
  split at h
  · exact .inl ⟨_, _, _, by assumption, rfl⟩
  · exact .inr ⟨_, by assumption, rfl⟩
  · cases h

theorem checkKey_succ {μ : Mp} {t : TypeId} {k k' : Value} (hk : VRel μ k k') (h : keyOk P t k = true) (b : Bool) (n : Nat) (w : World) : (Instr.checkKey b (n + 1) t k').run P w = .ok () w := by
  rcases keyOk_desc h with ⟨d, j, m, h1, rfl⟩ | ⟨s, h1, rfl⟩
  · cases hk
    unfold Instr.checkKey
    simp only [Sem.run_bind, run_under h1, Result.andThen_ok, Sem.run_pure]
  · cases hk
    unfold Instr.checkKey
    simp only [Sem.run_bind, run_under h1, Result.andThen_ok, Sem.run_pure]

theorem checkKey_run {μ : Mp} {t : TypeId} {k k' : Value} (hk : VRel μ k k') (h : keyOk P t k = true) (b : Bool) (w : World) : (Instr.checkKey b 10000 t k').run P w = .ok () w :=
  checkKey_succ hk h b 9999 w

theorem sameKey_rel {μ : Mp} {k k' e e' : Value} (hk : VRel μ k k') (he : VRel μ e e') {b : Bool} (h : sameKey k e = some b) {t : TypeId} {d : TypeDesc} (ht : under P t = some d) (hko : keyOk P t k = true) :
    Instr.sameNow d k' e' = some b := by
  rcases keyOk_desc hko with ⟨d', j, n, h1, rfl⟩ | ⟨s, h1, rfl⟩
  · rw [ht] at h1; cases h1
    cases hk
    cases he <;> first
      | (simp only [sameKey] at h; cases h; done)
      | (obtain ⟨h2, h3⟩ := iteB_some' h
         have h4 := (sameK_eq _ _).1 h2
         cases h3
         simp only [Instr.sameNow, h4, if_true, eqI_eq])
  · rw [ht] at h1; cases h1
    cases hk
    cases he <;> first
      | (cases h
         simp only [Instr.sameNow, beqL_eq]
         rw [beq_toListBytes, toList_data, toList_data])
      | (simp only [sameKey] at h; cases h; done)

/-- The place of a key. -/
theorem find_sim {μ : Mp} {t : TypeId} {d : TypeDesc} (ht : under P t = some d) {k k' : Value} (hk : VRel μ k k') (hko : keyOk P t k = true) : ∀ (es : List MapEntry) (fs : List MapEntry) (i : Nat) (r : Option MapEntry),
    All2 (ERel μ) es fs → findA k es = some r → ∃ q, Instr.findNow d k' fs i = some q ∧
      (match r with
       | none => q = none
       | some e => ∃ j f, q = some (i + j, f.val) ∧ es[j]? = some e ∧ fs[j]? = some f ∧ sameKey k e.key = some true ∧ ∀ m e', m < j → es[m]? = some e' → sameKey k e'.key = some false)
  | [], fs, i, r, hl, h => by
    cases hl
    cases h
    exact ⟨none, rfl, rfl⟩
  | e :: es, fs, i, r, hl, h => by
    cases hl with
    | @cons _ f _ fs he hl =>
    unfold findA at h
    have hh := bind_some h
    clear h
    obtain ⟨b, h1, h⟩ := hh
    have h2 := sameKey_rel (P := P) hk he.1 h1 ht hko
    cases b with
    | true =>
      cases h
      exact ⟨some (i, f.val), by simp [Instr.findNow, h2], 0, f, rfl, rfl, rfl, h1, fun m _ hm => by omega⟩
    | false =>
      obtain ⟨q, k1, k2⟩ := find_sim ht hk hko es fs (i + 1) r hl h
      refine ⟨q, by simp [Instr.findNow, h2, k1], ?_⟩
      cases r with
      | none => exact k2
      | some e0 =>
        obtain ⟨j, f0, e1, e2, e3, e4, e5⟩ := k2
        refine ⟨j + 1, f0, by rw [e1]; congr 2; omega, by simpa using e2, by simpa using e3, e4, fun m e' hm he' => ?_⟩
        cases m with
        | zero => simp at he'; subst he'; exact h1
        | succ m => exact e5 m e' (by omega) (by simpa using he')

/-- A map's entries, as a lookup reads them. -/
def Reads (w : World) (m : Value) (fs : Array MapEntry) : Prop := (m = .map none ∧ fs = #[]) ∨ ∃ r c, m = .map (some r) ∧ w.heap[r]? = some (.map fs c)

theorem lookup_run {w : World} {t key elem : TypeId} {m k z : Value} {ok : Bool} {fs : Array MapEntry} {q : Option (Nat × Value)} (ht : under P t = some (.map key elem)) (hm : Reads w m fs)
    (hc : ∀ b, (Instr.checkKey b 10000 key k).run P w = .ok () w) (hf : (Instr.findKey key k fs.toList).run P w = .ok q w) (hz : q = none → zeroA P elem = some z) :
    (Instr.lookup t m k ok).run P w = .ok (match q with
      | some (_, v) => if ok then .tuple #[v, .bool true] else v
      | none => if ok then .tuple #[z, .bool false] else z) w := by
  unfold Instr.lookup
  rcases hm with ⟨rfl, rfl⟩ | ⟨r, c, rfl, hr⟩
  · simp only [Sem.run_bind, run_under ht, Result.andThen_ok, Sem.run_pure, hc, hf]
    cases q with
    | some p => simp only [Sem.run_bind, Sem.run_pure, Result.andThen_ok]
    | none => simp only [Sem.run_bind, run_zero (hz rfl), Sem.run_pure, Result.andThen_ok, Bool.false_eq_true]
  · simp only [Sem.run_bind, run_under ht, Result.andThen_ok, Sem.run_pure, getObj_run hr rfl, hc, hf]
    cases q with
    | some p => simp only [Sem.run_bind, Sem.run_pure, Result.andThen_ok]
    | none => simp only [Sem.run_bind, run_zero (hz rfl), Sem.run_pure, Result.andThen_ok, Bool.false_eq_true]

theorem lookup_sim {μ : Mp} {s : St} {w : World} (hs : SimS P μ s w) {t : TypeId} {m m' k k' : Value} (hm : VRel μ m m') (hk : VRel μ k k') {ok : Bool} {v : Value} (h : lookupA P s t m k ok = some v) :
    ∃ u, (Instr.lookup t m' k' ok).run P w = .ok u w ∧ VRel μ v u := by
  unfold lookupA at h
  have hh := bind_some h
  clear h
  obtain ⟨d, ht, h⟩ := hh
  split at h
  case h_2 => cases h
  rename_i key elem
  split at h
  · cases h
  · rename_i hko
    have hko : keyOk P key k = true := by simpa using hko
    have hh := bind_some h
    clear h
    obtain ⟨es, h1, h⟩ := hh
    obtain ⟨r, h2, h⟩ := bind_some h
    obtain ⟨dk, hdk⟩ : ∃ dk, under P key = some dk := by
      rcases keyOk_desc hko with ⟨d, j, n, h1, rfl⟩ | ⟨s, h1, rfl⟩ <;> exact ⟨_, h1⟩
    have hes : ∃ fs : Array MapEntry, All2 (ERel μ) es fs.toList ∧ Reads w m' fs := by
      split at h1
      · cases hm; cases h1; exact ⟨#[], .nil, .inl ⟨rfl, rfl⟩⟩
      · rename_i r0
        cases hm with
        | map _ b hb =>
        obtain ⟨⟨es', c⟩, h3, rfl⟩ := map_some h1
        obtain ⟨b', fs, k1, k2, k3⟩ := Sim.map hs h3
        rw [hb] at k1; cases k1
        exact ⟨fs, k3, .inr ⟨_, c, rfl, k2⟩⟩
      · cases h1
    obtain ⟨fs, hfs, hrd⟩ := hes
    obtain ⟨q, k1, k2⟩ := find_sim (P := P) hdk hk hko es fs.toList 0 r hfs h2
    have hfind : (Instr.findKey key k' fs.toList).run P w = .ok q w := findKey_run hdk k1
    cases r with
    | none =>
      simp only at k2
      subst k2
      obtain ⟨z, hz, rfl⟩ := map_some h
      have hzr := zero_rel hz μ
      refine ⟨_, lookup_run (ok := ok) ht hrd (fun b => checkKey_run hk hko b w) hfind (fun _ => hz), ?_⟩
      cases ok
      · exact hzr
      · exact .tupleL (.cons hzr (.cons (.bool false) .nil))
    | some e =>
      obtain ⟨j, f, rfl, e2, e3, _⟩ := k2
      cases h
      have her := hfs.get _ _ _ e2 e3
      refine ⟨_, lookup_run (z := .nilFunc) (ok := ok) ht hrd (fun b => checkKey_run hk hko b w) hfind (fun e => by cases e), ?_⟩
      cases ok
      · exact her.2.1
      · exact .tupleL (.cons her.2.1 (.cons (.bool true) .nil))

/-- What a key's store leaves where the key stands. -/
theorem setEntry_sim {μ : Mp} {k v v' : Value} (hv : VRel μ v v') : ∀ (es : List MapEntry) (fs : List MapEntry) (j : Nat) (ds : List MapEntry) (e f : MapEntry), All2 (ERel μ) es fs →
    setEntry k v es = some ds → es[j]? = some e → fs[j]? = some f → sameKey k e.key = some true → (∀ m e', m < j → es[m]? = some e' → sameKey k e'.key = some false) →
    ∃ key', VRel μ e.key key' → All2 (ERel μ) ds (fs.set j { f with key := key', val := v' })
  | es, fs, j, ds, e, f, hl, h, he, hf, hk, hb => by
    refine ⟨f.key, fun _ => ?_⟩
    induction hl generalizing j ds with
    | nil => simp at he
    | @cons e0 f0 es fs r hl ih =>
      unfold setEntry at h
      have hh := bind_some h
      clear h
      obtain ⟨b, h1, h⟩ := hh
      cases j with
      | zero =>
        simp at he hf
        subst he; subst hf
        rw [hk] at h1; cases h1
        cases h
        exact .cons ⟨r.1, hv, r.2.2⟩ hl
      | succ j =>
        have := hb 0 e0 (by omega) rfl
        rw [this] at h1; cases h1
        obtain ⟨ds', h2, rfl⟩ := map_some h
        simp only [List.set_cons_succ]
        exact .cons r (ih j ds' h2 (by simpa using he) (by simpa using hf) (fun m e' hm he' => hb (m + 1) e' (by omega) (by simpa using he')))

end
end Go.Ab

/- The operations under the relation, tenth part: maps written. Conditions: none (lemmas). -/
namespace Go.Ab

section
variable {P : Program}

theorem sameKey_true {k e : Value} (h : sameKey k e = some true) : e = k := by
  unfold sameKey at h
  split at h
  · obtain ⟨h1, h2⟩ := iteB_some' h
    have := (sameK_eq _ _).1 h1
    rw [eqI_eq] at h2
    simp at h2
    rw [this, h2]
  · cases h2 : beqL _ _ <;> rw [h2] at h <;> cases h
    rw [beqL_eq] at h2
    simp only [beq_iff_eq] at h2
    rename_i a b
    have : a = b := by
      obtain ⟨⟨x⟩⟩ := a; obtain ⟨⟨y⟩⟩ := b
      simp at h2
      rw [h2]
    rw [this]
  · cases h

theorem staysKey_run {μ : Mp} {t : TypeId} {k k' : Value} (hk : VRel μ k k') (h : keyOk P t k = true) (w : World) : (Instr.keyThatStays k' k').run P w = .ok k' w := by
  rcases keyOk_desc h with ⟨d, j, n, h1, rfl⟩ | ⟨s, h1, rfl⟩
  · cases hk; simp [Instr.keyThatStays, Instr.sameBits]
  · cases hk
    have : (s == s) = true := by rw [beq_toListBytes]; simp
    simp [Instr.keyThatStays, Instr.sameBits, this]

theorem VRel.plainKey {μ : Mp} {t : TypeId} {k k' : Value} (hk : VRel μ k k') (h : keyOk P t k = true) : k' = k := by
  rcases keyOk_desc h with ⟨d, j, n, h1, rfl⟩ | ⟨s, h1, rfl⟩ <;> cases hk <;> rfl

theorem setEntry_all {μ : Mp} {k v v' key' : Value} (hv : VRel μ v v') (hkey : VRel μ k key') : ∀ (es : List MapEntry) (fs : List MapEntry) (j : Nat) (ds gs : List MapEntry) (e f : MapEntry), All2 (ERel μ) es fs →
    setEntry k v es = some ds → es[j]? = some e → fs[j]? = some f → sameKey k e.key = some true → (∀ m e', m < j → es[m]? = some e' → sameKey k e'.key = some false) →
    gs.length = fs.length → (∀ m, gs[m]? = if m = j then some { f with key := key', val := v' } else fs[m]?) → All2 (ERel μ) ds gs := by
  intro es fs j ds gs e f hl
  induction hl generalizing j ds gs with
  | nil => intro _ h; simp at h
  | @cons e0 f0 es fs r hl ih =>
    intro h he hf hk hb hlen hg
    unfold setEntry at h
    have hh := bind_some h
    clear h
    obtain ⟨b, h1, h⟩ := hh
    cases gs with
    | nil => simp at hlen
    | cons g gs =>
    cases j with
    | zero =>
      simp at he hf
      subst he; subst hf
      rw [hk] at h1; cases h1
      cases h
      have hg0 := hg 0
      simp at hg0
      subst hg0
      have : gs = fs := by
        apply List.ext_getElem?
        intro m
        have := hg (m + 1)
        simpa using this
      subst this
      exact .cons ⟨by rw [sameKey_true hk]; exact hkey, hv, r.2.2⟩ hl
    | succ j =>
      have h2 := hb 0 e0 (by omega) rfl
      rw [h2] at h1; cases h1
      obtain ⟨ds', h3, rfl⟩ := map_some h
      have hg0 := hg 0
      simp at hg0
      subst hg0
      refine .cons r (ih j ds' gs h3 (by simpa using he) (by simpa using hf) hk (fun m e' hm he' => hb (m + 1) e' (by omega) (by simpa using he')) (by simpa using hlen) fun m => ?_)
      have := hg (m + 1)
      simpa using this

theorem mapUpdate_sim {μ : Mp} {s s' : St} {w : World} (hs : SimS P μ s w) {t : TypeId} {m m' k k' v v' : Value} (hm : VRel μ m m') (hk : VRel μ k k') (hv : VRel μ v v') (h : mapUpdateA P s t m k v = some s') :
    ∃ w', (Instr.mapUpdate t m' k' v').run P w = .ok () w' ∧ MovedS P μ s w μ s' w' := by
  unfold mapUpdateA at h
  have hh := bind_some h
  clear h
  obtain ⟨d, ht, h⟩ := hh
  split at h
  case h_2 => cases h
  rename_i key elem
  split at h
  case h_2 => cases h
  rename_i r0
  split at h
  · cases h
  · rename_i hko
    have hko : keyOk P key k = true := by simpa using hko
    have hh := bind_some h
    clear h
    obtain ⟨⟨es, c⟩, h1, h⟩ := hh
    simp only at h
    have hh := bind_some h
    clear h
    obtain ⟨r, h2, h⟩ := hh
    obtain ⟨dk, hdk⟩ : ∃ dk, under P key = some dk := by
      rcases keyOk_desc hko with ⟨d, j, n, h1, rfl⟩ | ⟨s, h1, rfl⟩ <;> exact ⟨_, h1⟩
    cases hm with
    | map _ b hb =>
    obtain ⟨b', fs, k1, k2, k3⟩ := Sim.map hs h1
    rw [hb] at k1; cases k1
    obtain ⟨q, j1, j2⟩ := find_sim (P := P) hdk hk hko es fs.toList 0 r k3 h2
    have hfind : (Instr.findKey key k' fs.toList).run P w = .ok q w := findKey_run hdk j1
    have hke := hk.plainKey hko
    cases r with
    | none =>
      simp only at j2 h
      subst j2
      cases h
      refine ⟨_, ?_, Sim.setObj hs (mapOf_some h1) hb k2 (p' := .map (fs.push { key := k', val := v', born := c }) (c + 1)) (.map (c + 1) ?_)⟩
      · simp only [Instr.mapUpdate, Sem.run_bind, run_under ht, Result.andThen_ok, getObj_run k2 rfl, checkKey_run hk hko, hfind, setObj_run _ k2 rfl]
      · rw [Array.toList_push]
        exact k3.append (.cons ⟨hk, hv, rfl⟩ .nil)
    | some e =>
      obtain ⟨j, f, rfl, e2, e3, e4, e5⟩ := j2
      obtain ⟨ds, h3, rfl⟩ := map_some h
      have hf : fs[j]? = some f := by simpa using e3
      have hfk : f.key = k' := by
        have := (k3.get _ _ _ e2 e3).1
        rw [sameKey_true e4] at this
        rw [this.plainKey hko, hke]
      refine ⟨_, ?_, Sim.setObj hs (mapOf_some h1) hb k2 (p' := .map (fs.modify j fun e => { e with key := k', val := v' }) c) (.map c ?_)⟩
      · have hst := staysKey_run (P := P) hk hko w
        simp only [Nat.zero_add] at hfind
        have hg : ((fs[j]?).map (·.key)).getD k' = k' := by rw [hf]; simpa using hfk
        simp only [Instr.mapUpdate, Sem.run_bind, run_under ht, Result.andThen_ok, getObj_run k2 rfl, checkKey_run hk hko, hfind, hg, hst, setObj_run _ k2 rfl]
      · refine setEntry_all hv hk es fs.toList j ds _ e f k3 h3 e2 e3 e4 e5 (by simp) fun m => ?_
        rw [Array.getElem?_toList, Array.getElem?_modify]
        split
        · rename_i e; subst e
          rw [if_pos rfl, hf]
          rfl
        · rename_i hne
          rw [if_neg (fun e => hne e.symm)]; simp

theorem mapEntry_sim {μ : Mp} {s s' : St} {w : World} (hs : SimS P μ s w) {t : TypeId} {m m' k k' v : Value} (hm : VRel μ m m') (hk : VRel μ k k') (h : mapEntryA P s t m k = some (v, s')) :
    ∃ u w', (Instr.mapEntry t m' k').run P w = .ok u w' ∧ VRel μ v u ∧ MovedS P μ s w μ s' w' := by
  unfold mapEntryA at h
  have hh := bind_some h
  clear h
  obtain ⟨d, ht, h⟩ := hh
  split at h
  case h_2 => cases h
  rename_i key elem
  split at h
  case h_2 => cases h
  rename_i r0
  split at h
  · cases h
  · rename_i hko
    have hko : keyOk P key k = true := by simpa using hko
    have hh := bind_some h
    clear h
    obtain ⟨⟨es, c⟩, h1, h⟩ := hh
    simp only at h
    have hh := bind_some h
    clear h
    obtain ⟨r, h2, h⟩ := hh
    obtain ⟨dk, hdk⟩ : ∃ dk, under P key = some dk := by
      rcases keyOk_desc hko with ⟨d, j, n, h1, rfl⟩ | ⟨s, h1, rfl⟩ <;> exact ⟨_, h1⟩
    cases hm with
    | map _ b hb =>
    obtain ⟨b', fs, k1, k2, k3⟩ := Sim.map hs h1
    rw [hb] at k1; cases k1
    obtain ⟨q, j1, j2⟩ := find_sim (P := P) hdk hk hko es fs.toList 0 r k3 h2
    have hfind : (Instr.findKey key k' fs.toList).run P w = .ok q w := findKey_run hdk j1
    have hke := hk.plainKey hko
    cases r with
    | none =>
      simp only at j2 h
      subst j2
      obtain ⟨z, hz, h3⟩ := map_some h
      simp only [Prod.mk.injEq] at h3
      obtain ⟨rfl, rfl⟩ := h3
      have hzr := zero_rel hz μ
      refine ⟨.tuple #[z, goInt c], _, ?_, ?_, Sim.setObj hs (mapOf_some h1) hb k2 (p' := .map (fs.push { key := k', val := z, born := c }) (c + 1)) (.map (c + 1) ?_)⟩
      · simp only [Instr.mapEntry, Sem.run_bind, run_under ht, Result.andThen_ok, getObj_run k2 rfl, checkKey_run hk hko, hfind, run_zero hz, setObj_run _ k2 rfl, Sem.run_pure]
      · exact .tupleL (.cons hzr (.cons (.int _ _) .nil))
      · rw [Array.toList_push]
        exact k3.append (.cons ⟨hk, hzr, rfl⟩ .nil)
    | some e =>
      obtain ⟨j, f, rfl, e2, e3, e4, e5⟩ := j2
      cases h
      have hf : fs[j]? = some f := by simpa using e3
      have her := k3.get _ _ _ e2 e3
      have hfk : f.key = k' := by
        have := her.1
        rw [sameKey_true e4] at this
        rw [this.plainKey hko, hke]
      refine ⟨.tuple #[f.val, goInt f.born], { w with heap := w.heap.setIfInBounds b.block (.map (fs.modify j fun e => { e with key := k' }) c) }, ?_, ?_, ?_⟩
      · have hst := staysKey_run (P := P) hk hko w
        simp only [Nat.zero_add] at hfind
        have hg : ((fs[j]?).map (·.key)).getD k' = k' := by rw [hf]; simpa using hfk
        simp only [Instr.mapEntry, Sem.run_bind, run_under ht, Result.andThen_ok, getObj_run k2 rfl, checkKey_run hk hko, hfind, hg, hst, setObj_run _ k2 rfl, Sem.run_pure]
        rw [hf]; rfl
      · refine .tupleL (.cons her.2.1 (.cons ?_ .nil))
        have : goInt (f.born : Int) = .int .i64 e.born := by rw [her.2.2]; rfl
        rw [this]; exact .int _ _
      · have hsame : fs.modify j (fun e => { e with key := k' }) = fs := by
          apply Array.ext_getElem?
          intro m
          rw [Array.getElem?_modify]
          split
          · rename_i e; subst e
            rw [hf]
            simp only [Option.map_some, Option.some.injEq]
            rw [← hfk]
          · rfl
        rw [hsame]
        have hsame2 : w.heap.setIfInBounds b.block (.map fs c) = w.heap := by
          apply Array.ext_getElem?
          intro m
          rw [Array.getElem?_setIfInBounds]
          split
          · rename_i e
            subst e
            have := (Array.getElem?_eq_some_iff.1 k2).1
            rw [if_pos this, k2]
          · rfl
        rw [hsame2]
        exact .refl hs

theorem setBorn_sim {μ : Mp} {n : Int} {v v' : Value} (hv : VRel μ v v') : ∀ (es : List MapEntry) (fs : List MapEntry) (ds : List MapEntry), All2 (ERel μ) es fs → setBorn n v es = some ds →
    ∃ j f, fs.findIdx? (fun e => (e.born : Int) == n) = some j ∧ fs[j]? = some f ∧ ∀ gs : List MapEntry, gs.length = fs.length → (∀ m, gs[m]? = if m = j then some { f with val := v' } else fs[m]?) → All2 (ERel μ) ds gs := by
  intro es fs ds hl
  induction hl generalizing ds with
  | nil => intro h; cases h
  | @cons e f es fs r hl ih =>
    intro h
    unfold setBorn at h
    cases hb : eqI (.ofNat e.born) n with
    | true =>
      rw [hb] at h
      cases h
      rw [eqI_eq] at hb
      refine ⟨0, f, ?_, rfl, fun gs hlen hg => ?_⟩
      · rw [List.findIdx?_cons]
        have : ((f.born : Int) == n) = true := by rw [r.2.2]; exact hb
        simp [this]
      · cases gs with
        | nil => simp at hlen
        | cons g gs =>
          have hg0 := hg 0
          simp at hg0
          subst hg0
          have : gs = fs := by
            apply List.ext_getElem?
            intro m
            have := hg (m + 1)
            simpa using this
          subst this
          exact .cons ⟨r.1, hv, r.2.2⟩ hl
    | false =>
      rw [hb] at h
      obtain ⟨ds', h1, rfl⟩ := map_some h
      obtain ⟨j, f0, k1, k2, k3⟩ := ih ds' h1
      rw [eqI_eq] at hb
      refine ⟨j + 1, f0, ?_, by simpa using k2, fun gs hlen hg => ?_⟩
      · rw [List.findIdx?_cons]
        have : ((f.born : Int) == n) = false := by rw [r.2.2]; exact hb
        simp [this, k1]
      · cases gs with
        | nil => simp at hlen
        | cons g gs =>
          have hg0 := hg 0
          simp at hg0
          subst hg0
          refine .cons r (k3 gs (by simpa using hlen) fun m => ?_)
          have := hg (m + 1)
          simpa using this

theorem entryStore_sim {μ : Mp} {s s' : St} {w : World} (hs : SimS P μ s w) {t : TypeId} {m m' n n' v v' : Value} (hm : VRel μ m m') (hn : VRel μ n n') (hv : VRel μ v v') (h : entryStoreA s m n v = some s') :
    ∃ w', (Instr.entryStore t m' n' v').run P w = .ok () w' ∧ MovedS P μ s w μ s' w' := by
  unfold entryStoreA at h
  split at h
  case h_2 => cases h
  rename_i r0 kn n
  have hh := bind_some h
  clear h
  obtain ⟨⟨es, c⟩, h1, h⟩ := hh
  obtain ⟨ds, h2, rfl⟩ := map_some h
  cases hn
  cases hm with
  | map _ b hb =>
  obtain ⟨b', fs, k1, k2, k3⟩ := Sim.map hs h1
  rw [hb] at k1; cases k1
  obtain ⟨j, f, j1, j2, j3⟩ := setBorn_sim hv es fs.toList ds k3 h2
  have hidx : fs.findIdx? (fun e => (e.born : Int) == n) = some j := by
    have e : fs = fs.toList.toArray := by simp
    rw [e, List.findIdx?_toArray]; exact j1
  refine ⟨_, ?_, Sim.setObj hs (mapOf_some h1) hb k2 (p' := .map (fs.modify j fun e => { e with val := v' }) c) (.map c ?_)⟩
  · simp only [Instr.entryStore, Sem.run_bind, getObj_run k2 rfl, Result.andThen_ok, asInt, asIntOf, Sem.run_pure, hidx, setObj_run _ k2 rfl]
  · refine j3 _ (by simp) fun m => ?_
    have hf : fs[j]? = some f := by simpa using j2
    rw [Array.getElem?_toList, Array.getElem?_modify]
    split
    · rename_i e; subst e
      rw [if_pos rfl, hf]
      rfl
    · rename_i hne
      rw [if_neg (fun e => hne e.symm)]; simp

theorem dropEntry_all {μ : Mp} {k : Value} : ∀ (es fs ds : List MapEntry), All2 (ERel μ) es fs → dropEntry k es = some ds → ∀ r, findA k es = some r →
    (r = none → ds = es) ∧ ∀ (e : MapEntry) (j : Nat), r = some e → es[j]? = some e → sameKey k e.key = some true → (∀ m e', m < j → es[m]? = some e' → sameKey k e'.key = some false) → All2 (ERel μ) ds (fs.eraseIdx j) := by
  intro es fs ds hl
  induction hl generalizing ds with
  | nil =>
    intro h r hr
    cases h; cases hr
    exact ⟨fun _ => rfl, fun e j he => by cases he⟩
  | @cons e f es fs rel hl ih =>
    intro h r hr
    unfold dropEntry at h
    unfold findA at hr
    have hh := bind_some h
    clear h
    obtain ⟨b, h1, h⟩ := hh
    rw [h1] at hr
    simp only [Option.bind_some] at hr
    cases b with
    | true =>
      cases h
      cases hr
      refine ⟨fun e => (by cases e), fun e' j he hj hk hb => ?_⟩
      cases he
      cases j with
      | zero => simpa using hl
      | succ j => have := hb 0 e (by omega) rfl; rw [h1] at this; cases this
    | false =>
      obtain ⟨ds', h2, rfl⟩ := map_some h
      obtain ⟨i1, i2⟩ := ih ds' h2 r hr
      refine ⟨fun e => by rw [i1 e], fun e' j he hj hk hb => ?_⟩
      cases j with
      | zero => simp at hj; subst hj; rw [h1] at hk; cases hk
      | succ j =>
        simp only [List.eraseIdx_cons_succ]
        exact .cons rel (i2 e' j he (by simpa using hj) hk (fun m e2 hm he2 => hb (m + 1) e2 (by omega) (by simpa using he2)))

theorem findA_of_drop {k : Value} : ∀ (es ds : List MapEntry), dropEntry k es = some ds → ∃ r, findA k es = some r
  | [], ds, _ => ⟨none, rfl⟩
  | e :: es, ds, h => by
    unfold dropEntry at h
    have hh := bind_some h
    clear h
    obtain ⟨b, h1, h⟩ := hh
    cases b with
    | true => exact ⟨some e, by simp [findA, h1, iteB]⟩
    | false =>
      obtain ⟨ds', h2, _⟩ := map_some h
      obtain ⟨r, hr⟩ := findA_of_drop es ds' h2
      exact ⟨r, by simp [findA, h1, iteB, hr]⟩

theorem delete_sim {μ : Mp} {s s' : St} {w : World} (hs : SimS P μ s w) {t ty : TypeId} {ts : List TypeId} {argTypes : Array TypeId} (et : argTypes.toList = t :: ts) {m k : Value} {cargs : Array Value} (hargs : LRel μ [m, k] cargs.toList)
    (h : deleteA P s t m k = some s') : ∃ w', (Builtin.delete_ argTypes ty cargs).run P w = .ok (.tuple #[]) w' ∧ MovedS P μ s w μ s' w' := by
  obtain ⟨m', k', rfl, hm, hk⟩ : ∃ m' k', cargs = #[m', k'] ∧ VRel μ m m' ∧ VRel μ k k' := by
    obtain ⟨l⟩ := cargs
    simp only at hargs
    cases hargs with
    | cons r1 hargs =>
    cases hargs with
    | cons r2 hargs =>
    cases hargs
    exact ⟨_, _, rfl, r1, r2⟩
  have h0 : argTypes[0]? = some t := by
    have : ∀ i : Nat, argTypes[i]? = (t :: ts)[i]? := fun i => by rw [← et, Array.getElem?_toList]
    rw [this]; rfl
  have e1 : (#[m', k'] : Array Value)[0]? = some m' := rfl
  have e2 : (#[m', k'] : Array Value)[1]? = some k' := rfl
  unfold deleteA at h
  have hh := bind_some h
  clear h
  obtain ⟨d, ht, h⟩ := hh
  split at h
  case h_2 => cases h
  rename_i key elem
  split at h
  · cases h
  · rename_i hko
    have hko : keyOk P key k = true := by simpa using hko
    obtain ⟨dk, hdk⟩ : ∃ dk, under P key = some dk := by
      rcases keyOk_desc hko with ⟨d, j, n, h1, rfl⟩ | ⟨s, h1, rfl⟩ <;> exact ⟨_, h1⟩
    split at h
    · cases hm
      cases h
      exact ⟨w, by simp only [Builtin.delete_, h0, e1, e2, Sem.run_bind, run_under ht, Result.andThen_ok, checkKey_run hk hko, Sem.run_pure], .refl hs⟩
    · have hh := bind_some h
      clear h
      obtain ⟨⟨es, c⟩, h1, h⟩ := hh
      obtain ⟨ds, h2, rfl⟩ := map_some h
      cases hm with
      | map _ b hb =>
      obtain ⟨b', fs, k1, k2, k3⟩ := Sim.map hs h1
      rw [hb] at k1; cases k1
      obtain ⟨r, hr⟩ := findA_of_drop es ds h2
      obtain ⟨q, j1, j2⟩ := find_sim (P := P) hdk hk hko es fs.toList 0 r k3 hr
      have hfind : (Instr.findKey key k' fs.toList).run P w = .ok q w := findKey_run hdk j1
      obtain ⟨d1, d2⟩ := dropEntry_all es fs.toList ds k3 h2 r hr
      cases r with
      | none =>
        simp only at j2
        subst j2
        rw [d1 rfl]
        refine ⟨_, ?_, Sim.setObj hs (mapOf_some h1) hb k2 (p' := .map fs c) (.map c k3)⟩
        simp only [Builtin.delete_, h0, e1, e2, Sem.run_bind, run_under ht, Result.andThen_ok, getObj_run k2 rfl, checkKey_run hk hko, hfind, setObj_run _ k2 rfl, Sem.run_pure]
      | some e =>
        obtain ⟨j, f, rfl, e3, e4, e5, e6⟩ := j2
        simp only [Nat.zero_add] at hfind
        have hlt : j < fs.size := by
          have := (List.getElem?_eq_some_iff.1 e4).1
          simpa using this
        refine ⟨_, ?_, Sim.setObj hs (mapOf_some h1) hb k2 (p' := .map (fs.eraseIdxIfInBounds j) c) (.map c ?_)⟩
        · simp only [Builtin.delete_, h0, e1, e2, Sem.run_bind, run_under ht, Result.andThen_ok, getObj_run k2 rfl, checkKey_run hk hko, hfind, setObj_run _ k2 rfl, Sem.run_pure]
        · have := d2 e j rfl e3 e5 e6
          have he : (fs.eraseIdxIfInBounds j).toList = fs.toList.eraseIdx j := by
            unfold Array.eraseIdxIfInBounds
            rw [dif_pos hlt]
            simp
          rw [he]
          exact this
    · cases h

end
end Go.Ab

/- The operations under the relation, eleventh part: what is left, and calls. Conditions: none (lemmas). -/
namespace Go.Ab

section
variable {P : Program}

theorem extract_sim {μ : Mp} {t t' v : Value} {i : Nat} (ht : VRel μ t t') {s s' : St} {r : Res} (h : xExtract t i s = some (r, s')) (w : World) :
    ∃ v u, r = .val v ∧ s' = s ∧ (Instr.extract t' i).run P w = .ok u w ∧ VRel μ v u := by
  unfold xExtract at h
  split at h
  case h_2 => cases h
  cases ht with
  | tuple s1 i1 =>
  obtain ⟨v, h1, h2⟩ := map_some h
  simp only [Prod.mk.injEq] at h2
  obtain ⟨rfl, rfl⟩ := h2
  rw [nth_eq] at h1
  rename_i xs ys
  have hl := LRel.of_arrays s1 i1
  have hlt : i < ys.toList.length := by
    rw [← hl.length]
    rcases Nat.lt_or_ge i xs.toList.length with h0 | h0
    · exact h0
    · rw [List.getElem?_eq_none h0] at h1; cases h1
  have hy : ys[i]? = some ys.toList[i] := by rw [← Array.getElem?_toList]; exact List.getElem?_eq_getElem hlt
  refine ⟨v, ys.toList[i], rfl, rfl, ?_, hl.get _ _ _ h1 (List.getElem?_eq_getElem hlt)⟩
  simp only [Instr.extract, hy, Sem.run_pure]

theorem missing_none : ∀ (want : List (String × TypeId)) (got : Array Method), (want.any fun (name, sig) => !got.any fun m => m.name == name && m.sig == sig) = false →
    want.filter (fun (name, sig) => !got.any fun m => m.name == name && m.sig == sig) = [] := by
  intro want got h
  rw [List.filter_eq_nil_iff]
  intro a ha
  rw [List.any_eq_false] at h
  simpa using h a ha

theorem least_none {l : List String} (h : Instr.least l = none) : l = [] := by
  cases l with
  | nil => rfl
  | cons a l => simp [Instr.least] at h

theorem part_none (p : String → Bool) (l : List String) (f : String → String) (h : (Instr.least (l.filter (not ∘ p)) <|> Instr.least ((l.filter p).map f)) = none) : l = [] := by
  cases h1 : Instr.least (l.filter (not ∘ p)) with
  | some a => rw [h1] at h; simp at h
  | none =>
    have n1 := least_none h1
    rw [h1] at h
    have n2 := least_none (show Instr.least ((l.filter p).map f) = none by simpa using h)
    rw [List.map_eq_nil_iff] at n2
    cases l with
    | nil => rfl
    | cons a l =>
      cases hc : p a with
      | true => rw [List.filter_cons] at n2; simp [hc] at n2
      | false => rw [List.filter_cons] at n1; simp [hc] at n1

theorem missing_iff (want : Array (String × TypeId)) (got : Array Method) : (Instr.missingMethod want got = none) ↔ missingA want got = false := by
  have e : missingA want got = want.toList.any (fun x => !got.any fun m => m.name == x.1 && m.sig == x.2) := rfl
  have f : want.toList.filter (fun x => !got.any fun m => m.name == x.1 && m.sig == x.2) = [] ↔ missingA want got = false := by
    rw [e, List.filter_eq_nil_iff, List.any_eq_false]
  rw [← f]
  unfold Instr.missingMethod
  constructor
  · intro h
    simp only [List.partition_eq_filter_filter] at h
    have := part_none _ _ _ h
    simpa using this
  · intro h
    have h' : (want.toList.filter fun (name, sig) => !got.any fun m => m.name == name && m.sig == sig) = [] := h
    simp [h', Instr.least]

theorem typeAssert_sim {μ : Mp} {x x' v : Value} {xt t : TypeId} {ok : Bool} (hx : VRel μ x x') (h : typeAssertA P x t ok = some v) (w : World) :
    ∃ u, (Instr.typeAssert x' xt t ok).run P w = .ok u w ∧ VRel μ v u := by
  unfold typeAssertA at h
  have hh := bind_some h
  clear h
  obtain ⟨d, ht, h⟩ := hh
  have hrun := run_under ht w
  have fails : ∀ (a b : Option TypeId) (s : String), (if ok then (zeroA P t).map fun z => Value.tuple #[z, .bool false] else none) = some v →
      ∃ u, (do if ok then pure (.tuple #[← zeroValue t, .bool false]) else runtimePanic (.typeAssertion a b t s) : Sem Value).run P w = .ok u w ∧ VRel μ v u := by
    intro a b s h
    cases ok with
    | false => simp at h
    | true =>
      simp only [if_true] at h
      obtain ⟨z, h1, rfl⟩ := map_some h
      refine ⟨_, ?_, .tupleL (.cons (zero_rel h1 μ) (.cons (.bool false) .nil))⟩
      simp [run_zero h1]
  have holds : ∀ (y y' : Value), VRel μ y y' → some (if ok then Value.tuple #[y, .bool true] else y) = some v → ∃ u, (pure (if ok then .tuple #[y', .bool true] else y') : Sem Value).run P w = .ok u w ∧ VRel μ v u := by
    intro y y' hy h
    cases h
    refine ⟨_, rfl, ?_⟩
    cases ok
    · exact hy
    · exact .tupleL (.cons hy (.cons (.bool true) .nil))
  unfold Instr.typeAssert
  simp only [Sem.run_bind, hrun, Result.andThen_ok]
  split at h
  · cases hx
    exact fails none none "" h
  · rename_i want tx vx
    cases hx with
    | iface _ hy =>
    obtain ⟨i, h1, h⟩ := bind_some h
    simp only [Sem.run_bind, run_info h1, Result.andThen_ok]
    cases hm : missingA want i.methods with
    | true =>
      rw [hm] at h
      cases hmm : Instr.missingMethod want i.methods with
      | none => have := (missing_iff _ _).1 hmm; rw [hm] at this; cases this
      | some m => exact fails none _ m h
    | false =>
      rw [hm] at h
      rw [(missing_iff _ _).2 hm]
      exact holds _ _ (.iface _ hy) h
  · cases hx
    rename_i hne
    cases d <;> first | (exact (hne _ rfl).elim) | exact fails (some xt) none "" h
  · rename_i tx vx hne1
    cases hx with
    | iface _ hy =>
    by_cases he : tx = t
    · rw [if_pos he] at h
      cases d <;> first | (exact (hne1 _ rfl).elim) | (simp only [he, if_true]; exact holds _ _ hy h)
    · rw [if_neg he] at h
      cases d <;> first | (exact (hne1 _ rfl).elim) | (simp only [he, if_false]; exact fails (some xt) _ "" h)
  · cases h

theorem bytes_sim {μ : Mp} : ∀ (cs ys : List Value) (l : List UInt8), LRel μ cs ys → convertA.bytesA cs = some l → ys = cs ∧ ∀ c ∈ cs, ∃ n, c = .int .u8 n
  | [], ys, l, hl, h => by cases hl; exact ⟨rfl, fun c hc => by simp at hc⟩
  | c :: cs, ys, l, hl, h => by
    unfold convertA.bytesA at h
    split at h
    · rename_i e; cases e
    · rename_i n rest e
      cases e
      obtain ⟨l', h1, rfl⟩ := map_some h
      cases hl with
      | cons r hl =>
      cases r
      obtain ⟨rfl, h2⟩ := bytes_sim cs _ l' hl h1
      exact ⟨rfl, fun c hc => by
        rcases List.mem_cons.1 hc with rfl | hc
        · exact ⟨n, rfl⟩
        · exact h2 c hc⟩
    · cases h

end
end Go.Ab

/- The operations under the relation, twelfth part: conversions, methods, calls. Conditions: none (lemmas). -/
namespace Go.Ab

section
variable {P : Program}

theorem bytes_ints : ∀ (cs : List Value) (l : List UInt8), convertA.bytesA cs = some l → ∃ ns : List Int, cs = ns.map (Value.int .u8) ∧ l = ns.map (fun n => UInt8.ofNat n.toNat)
  | [], l, h => by cases h; exact ⟨[], rfl, rfl⟩
  | c :: cs, l, h => by
    unfold convertA.bytesA at h
    split at h
    · rename_i e; cases e
    · rename_i n rest e
      cases e
      obtain ⟨l', h1, rfl⟩ := map_some h
      obtain ⟨ns, rfl, rfl⟩ := bytes_ints cs l' h1
      exact ⟨n :: ns, rfl, rfl⟩
    · cases h

theorem fold_push (ns : List Int) : ∀ (s : ByteArray), (ns.foldl (fun r n => r.push (UInt8.ofNat n.toNat)) s) = ⟨⟨s.data.toList ++ ns.map (fun n => UInt8.ofNat n.toNat)⟩⟩ := by
  induction ns with
  | nil => intro s; simp
  | cons n ns ih =>
    intro s
    simp only [List.foldl_cons, ih]
    apply ByteArray.ext
    simp [ByteArray.push]

theorem rel_ints {μ : Mp} {ns : List Int} : ∀ {ys : List Value}, LRel μ (ns.map (Value.int .u8)) ys → ys = ns.map (Value.int .u8) := by
  induction ns with
  | nil => intro ys h; cases h; rfl
  | cons n ns ih =>
    intro ys h
    cases h with
    | cons r h =>
    cases r
    rw [ih h]; rfl

theorem ints_rel (μ : Mp) (l : List UInt8) : LRel μ (l.map fun c => Value.int .u8 (.ofNat c.toNat)) (l.map fun c => Value.int .u8 c.toNat) := by
  induction l with
  | nil => exact .nil
  | cons c l ih => exact .cons (.int _ _) ih

theorem freeze_heap (w : World) (k n : Nat) (cs : Array Value) (e : TypeId) (hk : w.heap[k]? = some (.cells cs e (0, 0))) :
    (w.freeze { block := k, off := n } 1).heap = w.heap.setIfInBounds k (.cells cs e (n, n + 1)) := by
  have hlt := (Array.getElem?_eq_some_iff.1 hk).1
  unfold World.freeze
  simp only [Nat.one_ne_zero, if_false]
  apply Array.ext_getElem?
  intro m
  rw [Array.getElem?_modify, Array.getElem?_setIfInBounds]
  split
  · rename_i e; subst e
    rw [hk]
    simp [hlt]
  · rfl

theorem mark_heap (w : World) (k n : Nat) (cs : Array Value) (e : TypeId) (fr : Nat × Nat) (hk : w.heap[k]? = some (.cells cs e fr)) :
    (w.freeze { block := k, off := n } 1).heap = w.heap.setIfInBounds k (.cells cs e (if fr.1 == fr.2 then (n, n + 1) else (min fr.1 n, max fr.2 (n + 1)))) := by
  have hlt := (Array.getElem?_eq_some_iff.1 hk).1
  unfold World.freeze
  simp only [Nat.one_ne_zero, if_false]
  apply Array.ext_getElem?
  intro m
  rw [Array.getElem?_modify, Array.getElem?_setIfInBounds]
  split
  · rename_i e; subst e
    rw [hk]
    simp [hlt]
  · rfl

theorem freeze_world (w : World) (a : Addr) (n : Nat) : (w.freeze a n).os = w.os ∧ (w.freeze a n).tape = w.tape ∧ (w.freeze a n).output = w.output := by
  unfold World.freeze
  split <;> exact ⟨rfl, rfl, rfl⟩

theorem convert_sim {μ : Mp} {s s' : St} {w : World} (hs : SimS P μ s w) (hf : μ s.next = none) {src dst : TypeId} {x x' v : Value} (hx : VRel μ x x') (h : convertA P s src dst x = some (v, s')) :
    ∃ u w' μ', (convert src dst x').run P w = .ok u w' ∧ VRel μ' v u ∧ MovedS P μ s w μ' s' w' := by
  unfold convertA at h
  have hh := bind_some h
  clear h
  obtain ⟨a, ha, h⟩ := hh
  have hh := bind_some h
  clear h
  obtain ⟨b, hb, h⟩ := hh
  have r1 := run_under ha
  have r2 := run_under hb
  split at h
  · cases hx
    cases h
    rename_i k _ n
    refine ⟨.int k (k.wrap n), w, μ, ?_, by rw [wrapA_eq]; exact .int _ _, .refl hs⟩
    simp only [convert, Sem.run_bind, r1, r2, Result.andThen_ok, Conv.intToInt]
    rfl
  · cases hx
    cases h
    refine ⟨_, w, μ, ?_, .string _, .refl hs⟩
    simp only [convert, Sem.run_bind, r1, r2, Result.andThen_ok]
    rfl
  · rename_i e bs
    cases hx
    have hh := bind_some h
    clear h
    obtain ⟨d, hd, h⟩ := hh
    split at h
    case h_2 => cases h
    split at h
    case h_2 => cases h
    rename_i hsz
    cases h
    have r3 := run_under hd
    have hcap : bs.size ≤ (Question.appendCap bs.size 0 e).cut (w.tape w.drawn (.appendCap bs.size 0 e)) := by simp [Question.cut]
    generalize hc : (Question.appendCap bs.size 0 e).cut (w.tape w.drawn (.appendCap bs.size 0 e)) = cap at hcap
    have hq : (Question.appendCap bs.size 0 e).forced = false := rfl
    let cells : Array Value := (bs.data.map fun b => Value.int .u8 b.toNat) ++ Array.replicate (cap - bs.size) (Value.int .u8 0)
    have hcs : cells.size = cap := by
      have : bs.data.size = bs.size := rfl
      simp only [cells, Array.size_append, Array.size_map, Array.size_replicate, this]; omega
    let w1 : World := { w with heap := w.heap.push (.cells cells e), drawn := w.drawn + 1 }
    have hw1 : w1.heap[w.heap.size]? = some (.cells cells e (0, 0)) := by simp [w1]
    have hfz := freeze_heap w1 w.heap.size cells.size cells e hw1
    let w2 : World := w1.freeze { block := w.heap.size, off := cells.size } 1
    refine ⟨.slice (some ⟨w.heap.size, 0, none⟩) bs.size cap, w2, μ.add s.next ⟨w.heap.size, 0, some (e, 1, cells.size)⟩, ?_, ?_, ?_⟩
    · simp only [convert, Sem.run_bind, r1, r2, r3, Result.andThen_ok, Conv.stringToBytes, run_choose, hq, Bool.false_eq_true, if_false, hc, Go.newRow, run_newObj, Sem.run_pure, markStringish, run_shape]
      have hsh : World.shape? { w with heap := w.heap.push (.cells ((bs.data.map fun b => Value.int .u8 b.toNat) ++ Array.replicate (cap - bs.size) (Value.int .u8 0)) e), drawn := w.drawn + 1 } w.heap.size = some (e, cells.size) := by
        simp [World.shape?, cells]
      simp only [hsh, run_freeze, Result.andThen_ok]
      rfl
    · have e1 : bs.data.toList.length = bs.size := rfl
      rw [e1]
      exact .open _ _ _ ⟨w.heap.size, 0, some (e, 1, cells.size)⟩ e 1 cells.size hcap (.inl ⟨rfl, rfl, _, μ.add_same _ _, rfl, rfl⟩) (μ.add_same _ _) rfl hcap (.inl (by simp; omega))
    · have hal := hs.alloc hf (P := P) (w' := w2) (b := ⟨w.heap.size, 0, some (e, 1, cells.size)⟩) (o := .cells (bs.data.toList.map fun c => .int .u8 (.ofNat c.toNat)) e) (p := .cells cells e (cells.size, cells.size + 1)) rfl
        (fun t z n h => by cases h; exact hsz) ?_ ?_ rfl rfl rfl _ (get_new s _)
      · exact hal
      · have hl := ints_rel μ bs.data.toList
        have hlen := hl.length
        refine .cells (fun j v hj => ?_) (.inr (Nat.le_refl _)) ?_ (by simp)
        · have hlt : j < bs.data.toList.length := by
            rcases Nat.lt_or_ge j bs.data.toList.length with h0 | h0
            · exact h0
            · rw [List.getElem?_eq_none (by simpa using h0)] at hj; cases hj
          have hy : (bs.data.toList.map fun c => Value.int .u8 c.toNat)[j]? = some (.int .u8 (bs.data.toList[j]).toNat) := by
            simp
            exact ⟨_, Array.getElem?_eq_getElem hlt, rfl⟩
          refine ⟨_, ?_, hl.get j _ _ hj hy⟩
          have hlt2 : j < bs.data.size := hlt
          simp only [cells, Nat.zero_add]
          rw [Array.getElem?_append_left (by simpa using hlt2)]
          simp
          exact ⟨_, Array.getElem?_eq_getElem hlt2, rfl⟩
        · have e1 : bs.data.toList.length = bs.size := rfl
          simp only [List.length_map, e1, hcs, Nat.zero_add]; exact hcap
      · rw [show w2.heap = w1.heap.setIfInBounds w.heap.size (.cells cells e (cells.size, cells.size + 1)) from hfz]
        apply Array.ext_getElem?
        intro m
        rw [Array.getElem?_setIfInBounds]
        simp only [w1, Array.size_push, Array.getElem?_push]
        by_cases hm : w.heap.size = m
        · subst hm; simp
        · rw [if_neg hm, if_neg (fun e => hm e.symm), if_neg (fun e => hm e.symm)]
  · rename_i e0 e a l c
    split at h
    case h_2 => cases h
    rename_i hsd hcl
    have hsd := Nat.eq_of_beq_eq_true hsd
    have hcl : 0 < c / 2 := by simpa [capLow] using hcl
    subst hsd
    have hh := bind_some h
    clear h
    obtain ⟨d, hd, h⟩ := hh
    split at h
    case h_2 => cases h
    have hh := bind_some h
    clear h
    obtain ⟨⟨vs, e'⟩, hrow, h⟩ := hh
    simp only at h
    split at h
    case h_2 => cases h
    rename_i he
    have he := Nat.eq_of_beq_eq_true he
    subst he
    cases h
    have r3 := run_under hd
    have hee := ha.symm.trans hb
    cases hee
    obtain ⟨b, cs, fr, k1, k2, k3, k4, k5, k6⟩ := hs.row (row_some hrow)
    have hca : ∃ ca cap, x' = .slice (some ca) l cap ∧ ARel μ a ca := by
      generalize hcc : c = c0 at hx
      cases hx with
      | slice _ k _ r => exact ⟨_, _, rfl, r.resolve_right (by omega)⟩
      | «open» _ k m _ _ _ _ _ r _ _ hk _ => exact ⟨_, _, rfl, r.resolve_right (by omega)⟩
    obtain ⟨ca, cap, rfl, hr⟩ := hca
    obtain ⟨_, q2, b', q3, q4, _⟩ := hr
    rw [k1] at q3; cases q3
    have hsh : w.shape? ca.block = some (e0, cs.size) := by simp [World.shape?, q4, k2]
    refine ⟨.slice (some ca) l cap, w.freeze { block := ca.block, off := cs.size } 1, μ, ?_, hx, ?_⟩
    · simp only [convert, Sem.run_bind, r1, r2, r3, Result.andThen_ok, beq_self_eq_true, markStringish, run_shape, hsh, run_freeze, Sem.run_pure]
    · obtain ⟨f1, f2, f3⟩ := freeze_world w { block := ca.block, off := cs.size } 1
      have hfz := mark_heap w ca.block cs.size cs e0 fr (by rw [q4]; exact k2)
      have hlt : b.block < w.heap.size := (Array.getElem?_eq_some_iff.1 k2).1
      refine hs.update (o' := .cells vs e0) (row_some hrow) k1 (p' := .cells cs e0 (if fr.1 == fr.2 then (cs.size, cs.size + 1) else (min fr.1 cs.size, max fr.2 (cs.size + 1)))) (.cells k3 ?_ k5 k6)
        (by rw [hfz, q4]; simp [hlt]) (fun k hk => by rw [hfz, q4]; simp [Ne.symm hk]) (by rw [hfz]; simp) f1 f2 f3 (fun c0 t0 fr0 h0 => by rw [k2] at h0; cases h0; exact ⟨cs, _, rfl, rfl, .inr hd⟩) _ (fun j => ?_)
      · rcases k4 with h4 | h4
        · simp only [h4, beq_self_eq_true, if_true]
          exact .inr (Nat.le_refl _)
        · split
          · exact .inr (Nat.le_refl _)
          · exact .inr (Nat.le_min.2 ⟨h4, Nat.le_refl _⟩)
      · split
        · rename_i e; subst e; exact row_some hrow
        · rfl
  · have hh := bind_some h
    clear h
    obtain ⟨d, hd, h⟩ := hh
    split at h
    case h_2 => cases h
    cases h
    obtain ⟨c, cap, rfl, hn⟩ := slice_shape hx
    have : c = none := hn.1 rfl
    subst this
    refine ⟨.string .empty, w, μ, ?_, ?_, .refl hs⟩
    · rw [run_convert_bytes_string w src dst _ _ _ _ ha hd hb]
      rfl
    · exact .string _
  · rename_i e a len c
    have hh := bind_some h
    clear h
    obtain ⟨d, hd, h⟩ := hh
    split at h
    case h_2 => cases h
    obtain ⟨cs, h1, h⟩ := bind_some h
    obtain ⟨l, h2, h3⟩ := map_some h
    simp only [Prod.mk.injEq] at h3
    obtain ⟨rfl, rfl⟩ := h3
    obtain ⟨q', cap, rfl, hn⟩ := slice_shape hx
    obtain ⟨q, rfl⟩ := some_of_slice hx
    obtain ⟨ns, rfl, rfl⟩ := bytes_ints cs l h2
    have hload : (loadCells q len).run P w = .ok (ns.map (Value.int .u8)).toArray w := by
      rcases Nat.eq_zero_or_pos len with h0 | h0
      · subst h0
        simp [loadN] at h1
        subst h1
        simp [loadCells, loadCellsFrom]
      · obtain ⟨q2, e2, r⟩ := hx.adr (.inl h0)
        cases e2
        obtain ⟨ys, k1, k2, _⟩ := loadN_sim (P := P) hs r h1
        rw [rel_ints k2] at k1
        exact k1
    refine ⟨.string (ns.foldl (fun r n => r.push (UInt8.ofNat n.toNat)) ByteArray.empty), w, μ, ?_, ?_, .refl hs⟩
    · rw [run_convert_bytes_string w src dst _ _ _ _ ha hd hb, run_bytesToString w q len cap ns hload]
    · rw [fold_push]
      have : (ByteArray.empty.data.toList ++ ns.map fun n => UInt8.ofNat n.toNat) = ns.map fun n => UInt8.ofNat n.toNat := by simp
      rw [this]
      exact .string _
  · cases h

end
end Go.Ab

/- The operations under the relation, thirteenth part: methods and calls. Conditions: none (lemmas). -/
namespace Go.Ab

section
variable {P : Program}

theorem follow_sim {μ : Mp} : ∀ (path : List FieldStep) (t : TypeId) (v v' : Value) (xt : TypeId) (x : Value) (w : World), VRel μ v v' → followA P path t v = some (xt, x) →
    ∃ x', (follow path t (.val v')).run P w = .ok (xt, .val x') w ∧ VRel μ x x'
  | [], t, v, v', xt, x, w, hv, h => by
    unfold followA at h
    cases h
    exact ⟨v', rfl, hv⟩
  | f :: rest, t, v, v', xt, x, w, hv, h => by
    unfold followA at h
    split at h
    case h_2 => cases h
    rename_i cs hd
    cases hv with
    | agg s1 i1 =>
    have hh := bind_some h
    clear h
    obtain ⟨d, h1, h⟩ := hh
    split at h
    case h_2 => cases h
    obtain ⟨g, h2, h⟩ := bind_some h
    obtain ⟨y, h3, h⟩ := bind_some h
    obtain ⟨y', k1, k2⟩ := partA_sim (LRel.of_arrays s1 i1) h3 w
    obtain ⟨x', k3, k4⟩ := follow_sim rest g.type y y' xt x w k2 h
    refine ⟨x', ?_, k4⟩
    unfold follow
    simp only [Sem.run_bind, run_under h1, Result.andThen_ok, h2, hd, Bool.false_eq_true, if_false, k1, k3]

theorem wrapnil_run (ts : Array TypeId) (t : TypeId) (a : Addr) (x y : String) (w : World) :
    (Builtin.ssaWrapNilChk_ ts t #[.pointer (some a), strVal x, strVal y]).run P w = .ok (.pointer (some a)) w := rfl

theorem receiver_sim {μ : Mp} {s : St} {w : World} (hs : SimS P μ s w) {xt : TypeId} {x x' v : Value} {ptr : Bool} (hx : VRel μ x x') (h : receiverA P s xt x ptr = some v) (wr : Option String) :
    ∃ u, (receiverAt xt (.val x') ptr wr).run P w = .ok u w ∧ VRel μ v u := by
  unfold receiverA at h
  have hh := bind_some h
  clear h
  obtain ⟨d, h1, h⟩ := hh
  have hrun := run_under h1 w
  unfold receiverAt
  simp only [Sem.run_bind, hrun, Result.andThen_ok]
  split at h
  · cases h; exact ⟨x', rfl, hx⟩
  · split at h
    case h_2 => cases h
    rename_i a
    cases hx with
    | ptr r =>
    obtain ⟨u, k1, k2⟩ := loadA_sim (P := P) hs r h
    refine ⟨u, ?_, k2⟩
    cases wr with
    | none => simp only [Place.get, Sem.run_bind, Sem.run_pure, Result.andThen_ok, asAddr, k1]
    | some n => simp only [Place.get, Sem.run_bind, Sem.run_pure, Result.andThen_ok, asAddr, wrapnil_run, k1]
  · cases h
  · rename_i hn1
    cases h
    refine ⟨x', ?_, hx⟩
    cases d <;> first | rfl | (exact (hn1 _ rfl).elim)

theorem method_sim {μ : Mp} {s : St} {w : World} (hs : SimS P μ s w) {t : TypeId} {v v' : Value} {name : String} {f : FuncId} {r : Value} (hv : VRel μ v v') (h : methodA P s t v name = some (f, r)) (k : Nat) :
    ∃ r', (method (k + 1) t v' name).run P w = .ok (f, r') w ∧ VRel μ r r' := by
  unfold methodA at h
  have hh := bind_some h
  clear h
  obtain ⟨info, h1, h⟩ := hh
  have hh := bind_some h
  clear h
  obtain ⟨m, h2, h⟩ := hh
  have hh := bind_some h
  clear h
  obtain ⟨⟨xt, x⟩, h3, h⟩ := hh
  obtain ⟨x', k1, k2⟩ := follow_sim m.path.toList t v v' xt x w hv h3
  unfold method
  simp only [Sem.run_bind, run_info h1, Result.andThen_ok, h2, k1]
  simp only at h
  split at h
  · cases h
  · rename_i f0 ptr hm
    obtain ⟨r0, h4, h5⟩ := map_some h
    simp only [Prod.mk.injEq] at h5
    obtain ⟨rfl, rfl⟩ := h5
    obtain ⟨u, k3, k4⟩ := receiver_sim hs k2 h4 (if m.path.isEmpty then some ((name.splitOn ".").getLastD name) else none)
    refine ⟨u, ?_, k4⟩
    simp only [hm, Sem.run_bind, k3, Result.andThen_ok, Sem.run_pure]

/-- The functions without a Go body that the machine knows do what it says. -/
def ExtOk (P : Program) (ext : Ext) : Prop := ∀ f g args v, ext f = some g → g args = some v →
  ∀ (μ : Mp) (cargs : Array Value) (w : World), LRel μ args cargs.toList → ∃ u, (callFunc f cargs).run P w = .ok (.value u) w ∧ VRel μ v u

/-- What the model's operation comes to, as the machine says. -/
def Upon (P : Program) (μ : Mp) (s : St) (w : World) (r : Res) (s' : St) (res : Result Next) : Prop :=
  ∃ μ' w', MovedS P μ s w μ' s' w' ∧ match r with
    | .val v => ∃ u, res = .ok (.value u) w' ∧ VRel μ' v u
    | .skip => res = .ok .skip w'
    | .defer d => ∃ e, res = .ok (.defer e) w' ∧ DRel μ' d e
    | .enter f args => ∃ cargs : Array Value, res = .ok (.enter f cargs) w' ∧ LRel μ' args cargs.toList
    | .round l args => ∃ (b : Blk) (cargs : Array Value), μ' l = some b ∧ LRel μ' args cargs.toList ∧ res = (Instr.yield b.block cargs).run P w'
    | .recover => res = .ok .recover w'
    | .panic v => ∃ u, res = .halt (.panic u) w' ∧ VRel μ' v u
    | .choose cs => ∃ v s1 μ1 w1 u, (v, s1) ∈ cs ∧ MovedS P μ' s' w' μ1 s1 w1 ∧ res = .ok (.value u) w1 ∧ VRel μ1 v u

theorem callFunc_sim {ext : Ext} (hext : ExtOk P ext) {μ : Mp} {s : St} {w : World} (hs : SimS P μ s w) {f : FuncId} {args : List Value} {cargs : Array Value} (ha : LRel μ args cargs.toList) {r : Res}
    (h : callFuncA P ext f args = some r) : Upon P μ s w r s ((callFunc f cargs).run P w) := by
  unfold callFuncA at h
  split at h
  · rename_i g hg
    obtain ⟨v, h1, rfl⟩ := map_some h
    obtain ⟨u, k1, k2⟩ := hext f g args v hg h1 μ cargs w ha
    exact ⟨μ, w, .refl hs, u, k1, k2⟩
  · have hh := bind_some h
    clear h
    obtain ⟨fn, h1, h⟩ := hh
    split at h
    · cases h
    · rename_i hn
      split at h
      · cases h
      · rename_i hb
        cases h
        refine ⟨μ, w, .refl hs, cargs, ?_, ha⟩
        unfold callFunc
        simp only [Sem.run_bind, run_program, Result.andThen_ok, h1]
        rw [if_neg hn, if_neg hb]
        rfl

theorem minMax_sim {μ : Mp} {mx : Bool} : ∀ (rest : List Value) (crest : List Value) (x x' v : Value), VRel μ x x' → LRel μ rest crest → mmL mx x rest = some v →
    ∀ w, ∃ u, (crest.foldlM (if mx then Builtin.max2 else Builtin.min2) x').run P w = .ok u w ∧ VRel μ v u
  | [], crest, x, x', v, hx, hl, h, w => by
    cases hl; cases h
    exact ⟨x', rfl, hx⟩
  | y :: rest, crest, x, x', v, hx, hl, h, w => by
    cases hl with
    | cons r hl =>
    unfold mmL at h
    obtain ⟨z, h1, h⟩ := bind_some h
    unfold mmA at h1
    split at h1
    case h_2 => cases h1
    cases hx; cases r
    cases h1
    obtain ⟨u, k1, k2⟩ := minMax_sim rest _ _ _ v (.int _ _) hl h w
    refine ⟨u, ?_, k2⟩
    simp only [List.foldlM_cons, Sem.run_bind]
    cases mx
    · simp only [Bool.false_eq_true, if_false, Builtin.min2, Sem.run_pure, Result.andThen_ok, iteB_eq, ltI_eq, decide_eq_true_eq] at k1 ⊢; exact k1
    · simp only [if_true, Builtin.max2, Sem.run_pure, Result.andThen_ok, iteB_eq, ltI_eq, decide_eq_true_eq] at k1 ⊢; exact k1

theorem args1 {μ : Mp} {x : Value} {cargs : Array Value} (h : LRel μ [x] cargs.toList) : ∃ x', cargs = #[x'] ∧ VRel μ x x' := by
  obtain ⟨l⟩ := cargs
  simp only at h
  cases h with
  | cons r h =>
  cases h
  exact ⟨_, rfl, r⟩

theorem clear_sim {μ : Mp} {s s' : St} {w : World} (hs : SimS P μ s w) {ts : Array TypeId} {t : TypeId} {args : List Value} {cargs : Array Value} (ha : LRel μ args cargs.toList) (h : clearA P s ts args = some s') :
    ∃ w', (Builtin.clear_ ts t cargs).run P w = .ok (.tuple #[]) w' ∧ MovedS P μ s w μ s' w' := by
  unfold clearA at h
  split at h
  · rename_i t0 ts0 et
    obtain ⟨x', rfl, hx⟩ := args1 ha
    cases hx
    obtain ⟨d, h1, rfl⟩ := map_some h
    have h0 : ts[0]? = some t0 := by rw [← Array.getElem?_toList, et]; rfl
    refine ⟨w, ?_, .refl hs⟩
    have e1 : (#[.map none] : Array Value)[0]? = some (.map none) := rfl
    simp only [Builtin.clear_, h0, e1, Sem.run_bind, run_under h1, Result.andThen_ok]
    rfl
  · rename_i t0 ts0 r et
    obtain ⟨x', rfl, hx⟩ := args1 ha
    cases hx with
    | map _ b hb =>
    have hh := bind_some h
    clear h
    obtain ⟨d, h1, h⟩ := hh
    obtain ⟨⟨es, c⟩, h2, rfl⟩ := map_some h
    have h0 : ts[0]? = some t0 := by rw [← Array.getElem?_toList, et]; rfl
    obtain ⟨b', fs, k1, k2, k3⟩ := Sim.map hs h2
    rw [hb] at k1; cases k1
    refine ⟨_, ?_, Sim.setObj hs (mapOf_some h2) hb k2 (p' := .map #[] c) (.map c .nil)⟩
    have e1 : (#[.map (some b.block)] : Array Value)[0]? = some (.map (some b.block)) := rfl
    simp only [Builtin.clear_, h0, e1, Sem.run_bind, run_under h1, Result.andThen_ok, getObj_run k2 rfl, setObj_run _ k2 rfl]
    rfl
  · cases h

theorem builtin_sim {μ : Mp} {s s' : St} {w : World} (hs : SimS P μ s w) (hf : μ s.next = none) {b : Builtin} {ts : Array TypeId} {t : TypeId} {cs : Array Bool} {args : List Value} {cargs : Array Value} (ha : LRel μ args cargs.toList) {r : Res}
    (h : builtinA P s b ts args = some (r, s')) : Upon P μ s w r s' ((builtin b ts t cs cargs).run P w) := by
  unfold builtinA at h
  split at h
  · obtain ⟨⟨v, s1⟩, h1, h2⟩ := map_some h
    cases h2
    obtain ⟨u, w', μ', k1, k2, k3⟩ := append_sim (ty := t) hs hf ha h1
    exact ⟨μ', w', k3, u, by simp only [builtin, Sem.run_bind, k1, Result.andThen_ok, Sem.run_pure], k2⟩
  · obtain ⟨⟨v, s1⟩, h1, h2⟩ := map_some h
    cases h2
    obtain ⟨u, w', k1, k2, k3⟩ := copy_sim (ty := t) hs ha h1
    exact ⟨μ, w', k3, u, by simp only [builtin, Sem.run_bind, k1, Result.andThen_ok, Sem.run_pure], k2⟩
  · obtain ⟨v, h1, h2⟩ := map_some h
    cases h2
    obtain ⟨u, k1, k2⟩ := len_sim (ty := t) hs ha h1
    exact ⟨μ, w, .refl hs, u, by simp only [builtin, Sem.run_bind, k1, Result.andThen_ok, Sem.run_pure], k2⟩
  · split at h
    case h_2 => cases h
    rename_i t0 ts0 m k et
    obtain ⟨s1, h1, h2⟩ := map_some h
    cases h2
    obtain ⟨w', k1, k2⟩ := delete_sim (ty := t) hs et ha h1
    exact ⟨μ, w', k2, .tuple #[], by simp only [builtin, Sem.run_bind, k1, Result.andThen_ok, Sem.run_pure], .tupleL .nil⟩
  · obtain ⟨s1, h1, h2⟩ := map_some h
    cases h2
    obtain ⟨w', k1, k2⟩ := clear_sim (t := t) hs ha h1
    exact ⟨μ, w', k2, .tuple #[], by simp only [builtin, Sem.run_bind, k1, Result.andThen_ok, Sem.run_pure], .tupleL .nil⟩
  · obtain ⟨v, h1, h2⟩ := map_some h
    cases h2
    unfold minMaxA at h1
    split at h1
    · cases h1
    · cases hl : cargs.toList with
      | nil => rw [hl] at ha; cases ha
      | cons x' crest =>
        rw [hl] at ha
        cases ha with
        | cons hx ha =>
        obtain ⟨u, k1, k2⟩ := minMax_sim (P := P) (mx := true) _ _ _ _ _ hx ha h1 w
        refine ⟨μ, w, .refl hs, u, ?_, k2⟩
        simp only [if_true] at k1
        simp only [builtin, Builtin.max_, hl, Sem.run_bind, k1, Result.andThen_ok, Sem.run_pure]
  · obtain ⟨v, h1, h2⟩ := map_some h
    cases h2
    unfold minMaxA at h1
    split at h1
    · cases h1
    · cases hl : cargs.toList with
      | nil => rw [hl] at ha; cases ha
      | cons x' crest =>
        rw [hl] at ha
        cases ha with
        | cons hx ha =>
        obtain ⟨u, k1, k2⟩ := minMax_sim (P := P) (mx := false) _ _ _ _ _ hx ha h1 w
        refine ⟨μ, w, .refl hs, u, ?_, k2⟩
        simp only [Bool.false_eq_true, if_false] at k1
        simp only [builtin, Builtin.min_, hl, Sem.run_bind, k1, Result.andThen_ok, Sem.run_pure]
  · cases h
    exact ⟨μ, w, .refl hs, rfl⟩
  · cases h

end
end Go.Ab

/- Ranges over texts and maps under the relation. Conditions: none (lemmas). -/
namespace Go.Ab
noncomputable section
variable {P : Program}

theorem upon_value {μ : Mp} {s s' : St} {w w' : World} {μ' : Mp} {v u : Value} {e : Sem Value} (hm : MovedS P μ s w μ' s' w') (hv : VRel μ' v u) (h : e.run P w = .ok u w') :
    Upon P μ s w (.val v) s' ((do pure (.value (← e)) : Sem Next).run P w) :=
  ⟨μ', w', hm, u, by simp only [Sem.run_bind, h, Result.andThen_ok, Sem.run_pure], hv⟩

theorem beq_nat (a b : Nat) : Nat.beq a b = (a == b) := by rw [Bool.eq_iff_iff]; simp

theorem newIter_sim {μ : Mp} {s s' : St} {w : World} (hs : SimS P μ s w) (hf : μ s.next = none) {o : AObj} {p : Obj} (ho : ORel μ ⟨w.heap.size, 0, none⟩ o p) {r : Res} (h : newIter s o = some (r, s')) :
    ∃ u w' μ' v, r = .val v ∧ (do pure (.pointer (some ⟨← newObj p, 0, none⟩)) : Sem Value).run P w = .ok u w' ∧ VRel μ' v u ∧ MovedS P μ s w μ' s' w' := by
  unfold newIter at h
  cases h
  refine ⟨.pointer (some ⟨w.heap.size, 0, none⟩), _, _, _, rfl, ?_, .ptr (new_addr _ _ _), new_sim hs hf ho⟩
  simp [newObj, Sem.run]

theorem range_sim {μ : Mp} {s s' : St} {w : World} (hs : SimS P μ s w) (hf : μ s.next = none) {t : TypeId} {x x' : Value} (hx : VRel μ x x') {r : Res} (h : xRange P t x s = some (r, s')) :
    ∃ u w' μ' v, r = .val v ∧ (Instr.range t x').run P w = .ok u w' ∧ VRel μ' v u ∧ MovedS P μ s w μ' s' w' := by
  unfold xRange at h
  have hh := bind_some h
  clear h
  obtain ⟨d, hd, h⟩ := hh
  split at h
  · rename_i b
    cases hx
    obtain ⟨u, w', μ', v, h1, h2, h3, h4⟩ := newIter_sim hs hf (.strIter b 0 rfl) h
    refine ⟨u, w', μ', v, h1, ?_, h3, h4⟩
    rw [← h2]
    simp only [Instr.range, Sem.run_bind, run_under hd, Result.andThen_ok, Sem.run_pure]
  · cases hx
    obtain ⟨u, w', μ', v, h1, h2, h3, h4⟩ := newIter_sim hs hf (.mapIterNil 0 [] 0 rfl) h
    refine ⟨u, w', μ', v, h1, ?_, h3, h4⟩
    rw [← h2]
    simp only [Instr.range, Sem.run_bind, run_under hd, Result.andThen_ok, Sem.run_pure]
  · rename_i m
    have hh := bind_some h
    clear h
    obtain ⟨⟨es, c⟩, hm, h⟩ := hh
    cases hx with
    | map _ b hb =>
    obtain ⟨b', fs, k1, k2, k3⟩ := hs.map hm
    rw [hb] at k1; cases k1
    obtain ⟨u, w', μ', v, h1, h2, h3, h4⟩ := newIter_sim hs hf (.mapIter m b c [] c rfl hb) h
    refine ⟨u, w', μ', v, h1, ?_, h3, h4⟩
    rw [← h2]
    simp only [Instr.range, Sem.run_bind, run_under hd, Result.andThen_ok, getObj_run k2 rfl, Sem.run_pure]
  · cases h

theorem memN_eq (n : Nat) : ∀ l : List Nat, memN n l = l.contains n
  | [] => rfl
  | m :: l => by
    simp only [memN, memN_eq n l, orB_eq, List.contains_cons, beq_nat]

theorem keepE_eq (p : MapEntry → Bool) : ∀ l : List MapEntry, keepE p l = l.filter p
  | [] => rfl
  | e :: l => by
    simp only [keepE, List.filter_cons, keepE_eq p l]
    cases p e <;> rfl

theorem allE_eq (p : MapEntry → Bool) : ∀ l : List MapEntry, allE p l = l.all p
  | [] => rfl
  | e :: l => by
    simp only [allE, List.all_cons, allE_eq p l]
    cases p e <;> rfl

theorem filter_rel {μ : Mp} {p : Nat → Bool} : ∀ {es fs : List MapEntry}, All2 (ERel μ) es fs → All2 (ERel μ) (es.filter fun e => p e.born) (fs.filter fun e => p e.born) := by
  intro es fs h
  induction h with
  | nil => exact .nil
  | @cons e f es fs hr h ih =>
    simp only [List.filter_cons, hr.2.2]
    split
    · exact .cons hr ih
    · exact ih

theorem all_rel {μ : Mp} {p : Nat → Bool} {es fs : List MapEntry} (h : All2 (ERel μ) es fs) : es.all (fun e => p e.born) = fs.all fun e => p e.born := by
  induction h with
  | nil => rfl
  | cons hr h ih => simp only [List.all_cons, hr.2.2, ih]

theorem mem_rel {μ : Mp} {es fs : List MapEntry} (h : All2 (ERel μ) es fs) {f : MapEntry} (hf : f ∈ fs) : ∃ e ∈ es, ERel μ e f := by
  induction h with
  | nil => cases hf
  | cons hr h ih =>
    rcases List.mem_cons.1 hf with rfl | hf
    · exact ⟨_, by simp, hr⟩
    · obtain ⟨e, h1, h2⟩ := ih hf
      exact ⟨e, by simp [h1], h2⟩

theorem stepIter_mem {s : St} {r m since : Nat} {seen : List Nat} {clock : Nat} : ∀ {es : List MapEntry} {e : MapEntry}, e ∈ es →
    ((.tuple #[.bool true, e.key, e.val] : Value), s.put r (some (.mapIter (some m) since (seen ++ [e.born]) clock))) ∈ stepIter s r m since seen clock es
  | [], _, h => by cases h
  | e' :: es, e, h => by
    simp only [stepIter, List.mem_cons]
    rcases List.mem_cons.1 h with rfl | h
    · exact .inl rfl
    · exact .inr (stepIter_mem h)

theorem choose_run (q : Question) (w : World) : ∃ n w', (choose q).run P w = .ok n w' ∧ (w' = w ∨ w' = { w with drawn := w.drawn + 1 }) ∧ (∀ k, q = .mapNext k → 0 < k → n < k) := by
  by_cases h : q.forced = true
  · refine ⟨0, w, by simp [choose, Sem.run, h], .inl rfl, fun k _ hk => hk⟩
  · refine ⟨q.cut (w.tape w.drawn q), { w with drawn := w.drawn + 1 }, by simp [choose, Sem.run, h], .inr rfl, fun k e hk => ?_⟩
    subst e
    exact Nat.mod_lt _ hk

theorem moved_drawn {μ : Mp} {s : St} {w w' : World} (hs : SimS P μ s w) (h : w' = w ∨ w' = { w with drawn := w.drawn + 1 }) : MovedS P μ s w μ s w' := by
  rcases h with rfl | rfl
  · exact .refl hs
  · exact Moved.drew hs rfl rfl rfl rfl

theorem back_lastN : ∀ l : List Nat, l.toArray.back? = lastN l
  | [] => rfl
  | [n] => by simp [lastN]
  | a :: b :: l => by
    have := back_lastN (b :: l)
    simp only [lastN]
    rw [← this]
    simp [List.getLast?_cons]

theorem find_rel {μ : Mp} {n : Nat} {es fs : List MapEntry} (h : All2 (ERel μ) es fs) {e : MapEntry} (he : findBorn n es = some e) : ∃ f, fs.find? (fun f => f.born == n) = some f ∧ ERel μ e f := by
  induction h with
  | nil => cases he
  | @cons e' f' es fs hr h ih =>
    simp only [findBorn] at he
    simp only [List.find?_cons, hr.2.2]
    rw [← beq_nat]
    cases hx : Nat.beq e'.born n with
    | true => rw [hx] at he; cases he; exact ⟨f', rfl, hr⟩
    | false => rw [hx] at he; exact ih he

theorem entry_sim {μ : Mp} {s s' : St} {w : World} (hs : SimS P μ s w) {x x' : Value} (hx : VRel μ x x') {r : Res} (h : xEntry x s = some (r, s')) :
    ∃ v u, r = .val v ∧ s' = s ∧ (Instr.entry x').run P w = .ok u w ∧ VRel μ v u := by
  unfold xEntry at h
  split at h
  case h_2 => cases h
  rename_i r' 
  split at h
  case h_2 => cases h
  rename_i m since seen stepped hr
  obtain ⟨stamp, hst, h⟩ := bind_some h
  obtain ⟨⟨es, clock⟩, hm, h⟩ := bind_some h
  simp only at h
  split at h
  case h_2 => cases h
  rename_i hck
  obtain ⟨e, he, h⟩ := bind_some h
  cases h
  have hck := Nat.eq_of_beq_eq_true hck
  subst hck
  obtain ⟨b, p, hb, hp, ho⟩ := hs.live _ _ hr
  cases ho with
  | mapIter _ bm _ _ _ hbase hbm =>
  obtain ⟨bm', fs, k1, k2, k3⟩ := hs.map hm
  rw [hbm] at k1; cases k1
  obtain ⟨f, hf, hrel⟩ := find_rel k3 he
  cases hx with
  | @ptr _ c hr =>
  obtain ⟨_, q2, b', q3, q4, q5⟩ := hr
  simp only at q3 q5
  rw [hb] at q3; cases q3
  obtain ⟨cb, co, cs⟩ := c
  simp only at q2 q4 q5
  subst q2 q4
  rw [hbase] at q5
  subst q5
  refine ⟨_, .tuple #[f.key, f.val], rfl, rfl, ?_, .tupleL (.cons hrel.1 (.cons hrel.2.1 .nil))⟩
  have hff : fs.find? (fun e => e.born == stamp) = some f := by rw [← Array.find?_toList]; exact hf
  simp only [Instr.entry, Sem.run_bind, getObj_run hp rfl, Result.andThen_ok, back_lastN, hst, getObj_run k2 rfl, bne_self_eq_false, hff, Sem.run_pure]
  rfl

theorem next_sim {μ : Mp} {s s' : St} {w : World} (hs : SimS P μ s w) {x x' : Value} (hx : VRel μ x x') {isStr : Bool} {t : TypeId} {r : Res} (h : xNext x isStr s = some (r, s')) :
    Upon P μ s w r s' ((do pure (.value (← Instr.next x' isStr t)) : Sem Next).run P w) := by
  unfold xNext at h
  split at h
  case h_2 => cases h
  rename_i r'
  have hptr : ∀ {o : AObj} {b : Blk}, μ r' = some b → b.base = 0 → x' = .pointer (some ⟨b.block, 0, none⟩) := fun {o b} hb hbase => by
    cases hx with
    | @ptr _ c hr =>
    obtain ⟨_, q2, b', q3, q4, q5⟩ := hr
    simp only at q3 q5
    rw [hb] at q3; cases q3
    obtain ⟨cb, co, cs⟩ := c
    simp only at q2 q4 q5
    subst q2 q4
    rw [hbase] at q5
    subst q5
    rfl
  split at h
  · rename_i bs p hr
    obtain ⟨b, q, hb, hq, ho⟩ := hs.live _ _ hr
    cases ho with
    | strIter _ _ hbase =>
    have := hptr (o := .strIter bs p) hb hbase
    subst this
    unfold nextStr at h
    split at h
    · rename_i hlt
      have hlt : p < bs.size := by simpa using hlt
      cases h
      refine upon_value (hs.setObj hr hb hq (p' := .stringIter bs (p + (Utf8.decode bs p).2)) (.strIter bs _ hbase)) (u := .tuple #[.bool true, goInt p, .int .i32 (Utf8.decode bs p).1]) (.tupleL (.cons (.bool _) (.cons (.int _ _) (.cons (.int _ _) .nil)))) ?_
      simp only [Instr.next, Sem.run_bind, getObj_run hq rfl, Result.andThen_ok, if_pos hlt, setObj_run _ hq rfl, Sem.run_pure]
    · rename_i hlt
      have hlt : ¬ p < bs.size := fun e => by
        have : Nat.blt p bs.data.toList.length = true := by simpa using e
        rw [this] at hlt; cases hlt
      cases h
      refine upon_value (.refl hs) (u := .tuple #[.bool false]) (.tupleL (.cons (.bool _) .nil)) ?_
      simp only [Instr.next, Sem.run_bind, getObj_run hq rfl, Result.andThen_ok, if_neg hlt, Sem.run_pure]
  · rename_i since seen last hr
    obtain ⟨b, q, hb, hq, ho⟩ := hs.live _ _ hr
    cases ho with
    | mapIterNil _ _ _ hbase =>
    have := hptr (o := .mapIter none since seen last) hb hbase
    subst this
    cases h
    refine upon_value (.refl hs) (u := .tuple #[.bool false]) (.tupleL (.cons (.bool _) .nil)) ?_
    simp only [Instr.next, Sem.run_bind, getObj_run hq rfl, Result.andThen_ok, Sem.run_pure]
  · rename_i m since seen last hr
    obtain ⟨⟨es, clock⟩, hm, h⟩ := bind_some h
    simp only at h
    obtain ⟨b, q, hb, hq, ho⟩ := hs.live _ _ hr
    cases ho with
    | mapIter _ bm _ _ _ hbase hbm =>
    have := hptr (o := .mapIter (some m) since seen last) hb hbase
    subst this
    obtain ⟨bm', fs, k1, k2, k3⟩ := hs.map hm
    rw [hbm] at k1; cases k1
    unfold nextMap at h
    -- the lists of the model
    have rl : All2 (ERel μ) (es.filter fun e => !seen.contains e.born) (fs.toList.filter fun e => !seen.contains e.born) := filter_rel (p := fun n => !seen.contains n) k3
    have ro : All2 (ERel μ) ((es.filter fun e => !seen.contains e.born).filter fun e => decide (e.born < since)) ((fs.toList.filter fun e => !seen.contains e.born).filter fun e => decide (e.born < since)) := filter_rel (p := fun n => decide (n < since)) rl
    have rn : All2 (ERel μ) ((es.filter fun e => !seen.contains e.born).filter fun e => decide (e.born ≥ since)) ((fs.toList.filter fun e => !seen.contains e.born).filter fun e => decide (e.born ≥ since)) := filter_rel (p := fun n => decide (n ≥ since)) rl
    have e1 : (keepE (fun e => notB (memN e.born seen)) es) = es.filter fun e => !seen.contains e.born := by
      rw [keepE_eq]; congr 1; funext e; rw [memN_eq, notB_eq]
    have e2 : ∀ l : List MapEntry, keepE (fun e => Nat.blt e.born since) l = l.filter fun e => decide (e.born < since) := fun l => by
      rw [keepE_eq]; congr 1; funext e; rw [Bool.eq_iff_iff]; simp
    have e3 : ∀ l : List MapEntry, keepE (fun e => notB (Nat.blt e.born since)) l = l.filter fun e => decide (e.born ≥ since) := fun l => by
      rw [keepE_eq]; congr 1; funext e; rw [notB_eq, Bool.eq_iff_iff, Bool.not_eq_true', Bool.eq_false_iff, ne_eq, Nat.blt_eq, decide_eq_true_eq]; exact Nat.not_lt
    rw [e1, e2, e3] at h
    generalize hL : (es.filter fun e => !seen.contains e.born) = L at *
    generalize hM : (fs.toList.filter fun e => !seen.contains e.born) = M at *
    generalize hO : (L.filter fun e => decide (e.born < since)) = O at *
    generalize hN : (L.filter fun e => decide (e.born ≥ since)) = N at *
    have hguard : (!seen.toArray.isEmpty && !fs.isEmpty && fs.all (·.born ≥ last)) = false := by
      have a1 : seen.toArray.isEmpty = isNil seen := by cases seen <;> rfl
      have a2 : fs.isEmpty = isNil es := by
        have := k3.length
        cases es with
        | nil => simp only [List.length_nil, Array.length_toList] at this; simp [isNil, Array.isEmpty, ← this]
        | cons _ _ => simp only [List.length_cons, Array.length_toList] at this; simp [isNil, Array.isEmpty, ← this]
      have a3 : fs.all (·.born ≥ last) = allE (fun e => Nat.ble last e.born) es := by
        rw [allE_eq, ← Array.all_toList, ← all_rel (p := fun n => decide (n ≥ last)) k3]
        congr 1; funext e; rw [Bool.eq_iff_iff]; simp
      rw [a1, a2, a3]
      cases c1 : isNil seen <;> cases c2 : isNil es <;> cases c3 : allE (fun e => Nat.ble last e.born) es <;> first | rfl | (rw [c1, c2, c3] at h; cases h)
    -- the candidates
    have hcand : ∀ (old new : Array MapEntry), old.toList = (M.filter fun e => decide (e.born < since)) → new.toList = (M.filter fun e => decide (e.born ≥ since)) →
        ∃ n w', (choose (.mapNext ((if old.isEmpty then #[none] else #[]) ++ (old ++ new).map some).size)).run P w = .ok n w' ∧ (w' = w ∨ w' = { w with drawn := w.drawn + 1 }) ∧
          ((old.toList = [] ∧ ((if old.isEmpty then #[none] else #[]) ++ (old ++ new).map some)[n]? = some none) ∨
            ∃ f ∈ old.toList ++ new.toList, ((if old.isEmpty then #[none] else #[]) ++ (old ++ new).map some)[n]? = some (some f)) := fun old new ho hn => by
      obtain ⟨n, w', c1, c2, c3⟩ := choose_run (P := P) (.mapNext ((if old.isEmpty then #[none] else #[]) ++ (old ++ new).map some).size) w
      refine ⟨n, w', c1, c2, ?_⟩
      have hpos : 0 < ((if old.isEmpty then #[none] else #[]) ++ (old ++ new).map some).size := by
        cases hb : old.isEmpty with
        | true => simp; omega
        | false =>
          have : old.size ≠ 0 := fun e => by simp [Array.isEmpty, e] at hb
          simp; omega
      have hlt := c3 _ rfl hpos
      have hx := Array.getElem?_eq_getElem hlt
      rw [hx]
      have hmem := Array.getElem_mem hlt
      generalize ((if old.isEmpty then #[none] else #[]) ++ (old ++ new).map some)[n] = y at hmem ⊢
      rcases Array.mem_append.1 hmem with hm | hm
      · left
        split at hm
        · rename_i hb
          simp at hm
          subst hm
          exact ⟨by simpa [Array.isEmpty_iff] using hb, rfl⟩
        · simp at hm
      · right
        simp only [Array.mem_map, Array.mem_append] at hm
        obtain ⟨f, hf, rfl⟩ := hm
        exact ⟨f, by simpa using hf, rfl⟩
    obtain ⟨n, w', c1, c2, c3⟩ := hcand ((fs.filter fun e => !seen.toArray.contains e.born).filter (·.born < since)) ((fs.filter fun e => !seen.toArray.contains e.born).filter (·.born ≥ since))
      (by simp only [Array.toList_filter, List.contains_toArray, ← hM]) (by simp only [Array.toList_filter, List.contains_toArray, ← hM])
    have hmv := moved_drawn hs c2
    have hheap : w'.heap = w.heap := by rcases c2 with rfl | rfl <;> rfl
    have hq' : w'.heap[b.block]? = some (.mapIter (some bm.block) since seen.toArray last) := by rw [hheap]; exact hq
    -- what is given next
    have step : ∀ f ∈ (M.filter fun e => decide (e.born < since)) ++ (M.filter fun e => decide (e.born ≥ since)), ∃ e ∈ O ++ N, ERel μ e f := fun f hf => by
      have := ro.append rn
      exact mem_rel this hf
    have hto1 : ((fs.filter fun e => !seen.toArray.contains e.born).filter (·.born < since)).toList = (M.filter fun e => decide (e.born < since)) := by simp only [Array.toList_filter, List.contains_toArray, ← hM]
    have hto2 : ((fs.filter fun e => !seen.toArray.contains e.born).filter (·.born ≥ since)).toList = (M.filter fun e => decide (e.born ≥ since)) := by simp only [Array.toList_filter, List.contains_toArray, ← hM]
    have done : ∀ cs : List (Value × St), (∀ e ∈ O ++ N, ((.tuple #[.bool true, e.key, e.val] : Value), s.put r' (some (.mapIter (some m) since (seen ++ [e.born]) clock))) ∈ cs) → (O = [] → ((.tuple #[.bool false] : Value), s) ∈ cs) →
        Upon P μ s w (.choose cs) s ((do pure (.value (← Instr.next (.pointer (some ⟨b.block, 0, none⟩)) false t)) : Sem Next).run P w) := fun cs h1 h2 => by
      refine ⟨μ, w, .refl hs, ?_⟩
      rcases c3 with ⟨d1, d2⟩ | ⟨f, d1, d2⟩
      · have hO : O = [] := by
          have := ro.length
          rw [← hto1, d1] at this
          exact List.eq_nil_of_length_eq_zero this
        refine ⟨_, s, μ, w', .tuple #[.bool false], h2 hO, hmv, ?_, .tupleL (.cons (.bool _) .nil)⟩
        simp only [Instr.next, Sem.run_bind, getObj_run hq rfl, Result.andThen_ok, getObj_run k2 rfl, hguard, Bool.false_eq_true, if_false, c1, d2, Sem.run_pure]
      · rw [hto1, hto2] at d1
        obtain ⟨e, he, hrel⟩ := step f d1
        have hmv2 := hmv.sim.setObj hr hb hq' (p' := .mapIter (some bm.block) since (seen.toArray.push f.born) clock) (by
          have := ORel.mapIter (μ := μ) (b := b) m bm since (seen ++ [e.born]) clock hbase hbm
          rw [hrel.2.2]
          simpa using this)
        refine ⟨_, _, μ, _, .tuple #[.bool true, f.key, f.val], h1 e he, hmv.trans hmv2, ?_, .tupleL (.cons (.bool _) (.cons hrel.1 (.cons hrel.2.1 .nil)))⟩
        simp only [Instr.next, Sem.run_bind, getObj_run hq rfl, Result.andThen_ok, getObj_run k2 rfl, hguard, Bool.false_eq_true, if_false, c1, d2, setObj_run _ hq' rfl, Sem.run_pure]
    have hres : ∀ (X : Option (Res × St)), (match isNil seen, isNil es, allE (fun e => Nat.ble last e.born) es with | false, false, true => none | _, _, _ => X) = some (r, s') → X = some (r, s') := fun X hX => by
      split at hX
      · cases hX
      · exact hX
    have h := hres _ h
    split at h
    · cases h
      exact done _ (fun e he => List.mem_cons_of_mem _ (stepIter_mem (by simpa using he))) (fun _ => by simp)
    · rename_i hne
      cases h
      exact done _ (fun e he => stepIter_mem he) (fun e => absurd e hne)
  · cases h

end
end Go.Ab

/- The operations under the relation, last part: every operation. Conditions: none (lemmas). -/
namespace Go.Ab

section
variable {P : Program} {ext : Ext}

theorem invoke_sim (hext : ExtOk P ext) {μ : Mp} {s s' : St} {w : World} (hs : SimS P μ s w) (hf : μ s.next = none) {t t' : Target} (ht : TgRel μ t t') {args : List Value} {cargs : Array Value} (ha : LRel μ args cargs.toList) {r : Res}
    (h : invokeA P ext s t args = some (r, s')) : Upon P μ s w r s' ((invoke t' cargs).run P w) := by
  unfold invokeA at h
  split at h
  · cases ht
    exact builtin_sim hs hf ha h
  · cases ht with
    | fn hf hc =>
    cases hf
    obtain ⟨r1, h1, h2⟩ := map_some h
    cases h2
    have := callFunc_sim hext hs (f := _) (args := args ++ _) (cargs := cargs ++ _) (by rw [Array.toList_append]; exact ha.append hc) h1
    exact this
  · rename_i name _
    cases ht with
    | fn hf hc =>
    cases hf
    split at h
    case h_2 => cases h
    rename_i t v rest
    have hh := bind_some h
    clear h
    obtain ⟨⟨f, r0⟩, h1, h⟩ := hh
    obtain ⟨r1, h2, h3⟩ := map_some h
    cases h3
    obtain ⟨l⟩ := cargs
    simp only at ha
    cases ha with
    | @cons _ x' _ crest hx ha =>
    cases hx with
    | @iface _ _ v' hv =>
    obtain ⟨k, hk⟩ : ∃ k, P.types.size + Made.depth = k + 1 := ⟨P.types.size + 99, by simp [Made.depth]⟩
    obtain ⟨r', k1, k2⟩ := method_sim hs hv h1 k
    have hc := callFunc_sim hext hs (args := r0 :: rest) (cargs := #[r'] ++ crest.toArray) (by simpa using All2.cons k2 ha) h2
    have : (invoke (.fn (.method name) ‹_›) (⟨.iface t v' :: crest⟩ : Array Value)).run P w = (callFunc f (#[r'] ++ crest.toArray)).run P w := by
      have e0 : (⟨.iface t v' :: crest⟩ : Array Value)[0]? = some (.iface t v') := rfl
      have e1 : (⟨.iface t v' :: crest⟩ : Array Value).extract 1 (⟨.iface t v' :: crest⟩ : Array Value).size = crest.toArray := by
        apply Array.ext'; simp
      simp only [invoke, e0, e1, callMethod, Sem.run_bind, run_program, Result.andThen_ok, hk, k1]
    rw [this]
    exact hc
  · rename_i t path f ptr _
    cases ht with
    | fn hf hc =>
    cases hf
    split at h
    case h_2 => cases h
    rename_i x rest
    have hh := bind_some h
    clear h
    obtain ⟨⟨xt, y⟩, h1, h⟩ := hh
    have hh := bind_some h
    clear h
    obtain ⟨r0, h2, h⟩ := hh
    obtain ⟨r1, h3, h4⟩ := map_some h
    cases h4
    obtain ⟨l⟩ := cargs
    simp only at ha
    cases ha with
    | @cons _ x' _ crest hx ha =>
    obtain ⟨y', k1, k2⟩ := follow_sim path.toList t x x' xt y w hx h1
    obtain ⟨r', k3, k4⟩ := receiver_sim hs k2 h2 none
    have hcall := callFunc_sim hext hs (args := r0 :: rest) (cargs := #[r'] ++ crest.toArray) (by simpa using All2.cons k4 ha) h3
    have : (invoke (.fn (.via t path f ptr) ‹_›) (⟨x' :: crest⟩ : Array Value)).run P w = (callFunc f (#[r'] ++ crest.toArray)).run P w := by
      have e0 : (⟨x' :: crest⟩ : Array Value)[0]? = some x' := rfl
      have e1 : (⟨x' :: crest⟩ : Array Value).extract 1 (⟨x' :: crest⟩ : Array Value).size = crest.toArray := by
        apply Array.ext'; simp
      simp only [invoke, e0, e1, receiverVia, Sem.run_bind, Result.andThen_ok, k1, k3]
    rw [this]
    exact hcall
  · cases ht with
    | fn hf hc =>
    cases hf with
    | yield _ b hb =>
    cases h
    exact ⟨μ, w, .refl hs, b, cargs, hb, ha, rfl⟩
  · cases h

theorem map_rel {μ : Mp} {ρ ρ' : Operand → Value} : ∀ (l : List Operand), (∀ x ∈ l, VRel μ (ρ x) (ρ' x)) → LRel μ (l.map ρ) (l.map ρ')
  | [], _ => .nil
  | x :: l, h => .cons (h x (by simp)) (map_rel l fun y hy => h y (by simp [hy]))

theorem resolve_sim {μ : Mp} {ρ ρ' : Operand → Value} {c : Call} {ty : TypeId} (hρ : ∀ x ∈ c.operands, VRel μ (ρ x) (ρ' x)) {t : Target} {args : List Value} (h : resolveA ρ c ty = some (t, args)) (w : World) :
    ∃ d : Deferred, (resolve ρ' c ty).run P w = .ok d w ∧ TgRel μ t d.target ∧ LRel μ args d.args.toList := by
  have hargs : LRel μ (c.args.toList.map ρ) (c.args.map ρ').toList := by
    rw [Array.toList_map]
    exact map_rel _ fun x hx => hρ x (by simp [Call.operands]; exact .inr (by simpa using hx))
  unfold resolveA at h
  unfold resolve
  split at h
  · rename_i b hb
    cases h
    exact ⟨{ target := .builtin b c.argTypes ty (c.args.map fun | .const _ => true | _ => false), args := c.args.map ρ' }, by simp only [hb]; rfl, .builtin .., hargs⟩
  · rename_i recv name hb
    cases h
    refine ⟨{ target := .fn (.method name) #[], args := #[ρ' recv] ++ c.args.map ρ' }, by simp only [hb]; rfl, .fn (.method name) .nil, ?_⟩
    have hr := hρ recv (by simp [Call.operands, hb])
    simpa using All2.cons hr hargs
  · rename_i f hb
    split at h
    case h_2 => cases h
    rename_i fn first captured hf
    cases h
    have hr := hρ f (by simp [Call.operands, hb])
    rw [hf] at hr
    generalize hrf : ρ' f = v at hr
    cases hr with
    | @func _ g _ ys _ vs hfn s1 i1 s2 i2 =>
    refine ⟨{ target := .fn g vs, args := ys ++ c.args.map ρ' }, ?_, .fn hfn (LRel.of_arrays s2 i2), ?_⟩
    · simp [hb, hrf, Deferred.ofValue]
    · rw [Array.toList_append]
      exact (LRel.of_arrays s1 i1).append hargs

theorem upon_skip {μ : Mp} {s s' : St} {w w' : World} {μ' : Mp} {e : Sem Unit} (hm : MovedS P μ s w μ' s' w') (h : e.run P w = .ok () w') :
    Upon P μ s w .skip s' ((do e; pure .skip : Sem Next).run P w) :=
  ⟨μ', w', hm, by simp only [Sem.run_bind, h, Result.andThen_ok, Sem.run_pure]⟩

theorem vR_some {s s' : St} {x : Option Value} {r : Res} (h : vR s x = some (r, s')) : ∃ v, x = some v ∧ r = .val v ∧ s' = s := by
  obtain ⟨v, h1, h2⟩ := map_some h
  cases h2
  exact ⟨v, h1, rfl, rfl⟩
theorem vsR_some {s' : St} {x : Option (Value × St)} {r : Res} (h : vsR x = some (r, s')) : ∃ v, x = some (v, s') ∧ r = .val v := by
  obtain ⟨⟨v, s1⟩, h1, h2⟩ := map_some h
  cases h2
  exact ⟨v, h1, rfl⟩
theorem uR_some {s' : St} {x : Option St} {r : Res} (h : uR x = some (r, s')) : x = some s' ∧ r = .skip := by
  obtain ⟨s1, h1, h2⟩ := map_some h
  cases h2
  exact ⟨h1, rfl⟩

theorem parts_rel {μ : Mp} {ρ ρ' : Operand → Value} : ∀ (l : List (Nat × Operand)), (∀ p ∈ l, VRel μ (ρ p.2) (ρ' p.2)) → PtRel μ (mapParts ρ l) (l.map fun (i, x) => (i, ρ' x))
  | [], _ => .nil
  | (i, x) :: l, h => .cons ⟨rfl, h (i, x) (by simp)⟩ (parts_rel l fun y hy => h y (by simp [hy]))

theorem optV {μ : Mp} {ρ ρ' : Operand → Value} (o : Option Operand) (h : ∀ x, o = some x → VRel μ (ρ x) (ρ' x)) : OptV μ (o.map ρ) (o.map ρ') := by
  cases o with
  | none => exact .none
  | some x => exact .some (h x rfl)

theorem upon_read {μ : Mp} {s s' : St} {w : World} (hs : SimS P μ s w) {x : Option Value} {e : Sem Value} {r : Res} (h : vR s x = some (r, s'))
    (hx : ∀ v, x = some v → ∃ u, e.run P w = .ok u w ∧ VRel μ v u) : Upon P μ s w r s' ((do pure (.value (← e)) : Sem Next).run P w) := by
  obtain ⟨v, h1, rfl, rfl⟩ := vR_some h
  obtain ⟨u, k1, k2⟩ := hx v h1
  exact upon_value (.refl hs) k2 k1

theorem upon_made {μ : Mp} {s s' : St} {w : World} {e : Sem Value} {r : Res} (h : ∃ u w' μ' v, r = .val v ∧ e.run P w = .ok u w' ∧ VRel μ' v u ∧ MovedS P μ s w μ' s' w') :
    Upon P μ s w r s' ((do pure (.value (← e)) : Sem Next).run P w) := by
  obtain ⟨u, w', μ', v, rfl, k1, k2, k3⟩ := h
  exact upon_value k3 k2 k1

theorem upon_wrote {μ : Mp} {s s' : St} {w : World} {x : Option St} {e : Sem Unit} {r : Res} (h : uR x = some (r, s'))
    (hx : x = some s' → ∃ w', e.run P w = .ok () w' ∧ MovedS P μ s w μ s' w') : Upon P μ s w r s' ((do e; pure .skip : Sem Next).run P w) := by
  obtain ⟨h1, rfl⟩ := uR_some h
  obtain ⟨w', k1, k2⟩ := hx h1
  exact upon_skip k2 k1

set_option maxHeartbeats 4000000 in
theorem exec_sim (hext : ExtOk P ext) {μ : Mp} {s s' : St} {w : World} (hs : SimS P μ s w) (hf : μ s.next = none) {ρ ρ' : Operand → Value} {o : Oper} (hρ : ∀ x ∈ o.op.operands, VRel μ (ρ x) (ρ' x)) {r : Res}
    (h : execA P ext ρ o s = some (r, s')) : Upon P μ s w r s' ((execOp ρ' o).run P w) := by
  unfold execA at h
  unfold execOp
  cases ho : o.op <;> rw [ho] at hρ <;> simp only [ho] at h ⊢
  case move x =>
    cases h
    exact ⟨μ, w, .refl hs, _, rfl, hρ x (by simp [Op.operands])⟩
  case assign x =>
    cases h
    exact ⟨μ, w, .refl hs, _, rfl, hρ x (by simp [Op.operands])⟩
  case pick c a b =>
    have hc := hρ c (by simp [Op.operands])
    have ha := hρ a (by simp [Op.operands])
    have hb := hρ b (by simp [Op.operands])
    unfold xPick at h
    split at h
    case h_2 => cases h
    rename_i t hct
    cases h
    rw [hct] at hc
    generalize hcc : ρ' c = v at hc
    cases hc
    refine ⟨μ, w, .refl hs, if t then ρ' a else ρ' b, ?_, ?_⟩
    · simp only [Sem.run_bind, asBool, Sem.run_pure, Result.andThen_ok]
    · rw [iteB_eq]; cases t
      · exact hb
      · exact ha
  case alloc elem =>
    exact upon_made (alloc_sim hs hf h)
  case box elem x =>
    exact upon_made (box_sim hs hf (hρ x (by simp [Op.operands])) h)
  case build t parts =>
    have hp := parts_rel (μ := μ) (ρ := ρ) (ρ' := ρ') parts.toList fun p hp => hρ p.2 (by simp [Op.operands]; exact ⟨p.1, by simpa using hp⟩)
    exact upon_read hs h fun v h1 => build_sim (ps' := parts.map fun (i, x) => (i, ρ' x)) (by rw [Array.toList_map]; exact hp) h1 w
  case buildSlice t len parts =>
    have hp := parts_rel (μ := μ) (ρ := ρ) (ρ' := ρ') parts.toList fun p hp => hρ p.2 (by simp [Op.operands]; exact ⟨p.1, by simpa using hp⟩)
    obtain ⟨u, w', μ', v, rfl, k1, k2, k3⟩ := buildSlice_sim hs hf (ps' := parts.map fun (i, x) => (i, ρ' x)) (by rw [Array.toList_map]; exact hp) h
    exact upon_value k3 k2 k1
  case load t a =>
    have ha := hρ a (by simp [Op.operands])
    unfold xLoad at h
    split at h
    case h_2 => cases h
    rename_i p hp
    rw [hp] at ha
    generalize hpp : ρ' a = v at ha
    cases ha
    exact upon_read hs h fun v h1 => by simpa only [Instr.loadAt, Instr.sureAddr, Sem.run_bind, Sem.run_pure, Result.andThen_ok] using loadA_sim hs ‹_› h1
  case store t a x =>
    have ha := hρ a (by simp [Op.operands])
    have hx := hρ x (by simp [Op.operands])
    unfold xStore at h
    split at h
    case h_2 => cases h
    rename_i p hp
    rw [hp] at ha
    generalize hpp : ρ' a = v at ha
    cases ha
    exact upon_wrote h fun h1 => by simpa only [Instr.storeAt, Instr.sureAddr, Sem.run_bind, Sem.run_pure, Result.andThen_ok] using storeA_sim hs ‹_› hx h1
  case nilCheck x =>
    have hx := hρ x (by simp [Op.operands])
    unfold xNilCheck at h
    generalize hv : ρ x = v at h hx
    generalize hu : ρ' x = u at hx
    cases hx
    case ptrNil => cases h
    case nilFunc => cases h
    case nilIface => cases h
    case func f g xs ys us vs hf h1 h2 h3 h4 =>
      cases hf with
      | method n => cases h
      | _ => cases h; exact ⟨μ, w, .refl hs, _, rfl, .func (by constructor <;> assumption) h1 h2 h3 h4⟩
    all_goals (cases h; exact ⟨μ, w, .refl hs, _, rfl, by constructor <;> assumption⟩)
  case binOp op t x y b =>
    exact upon_read hs h fun v h1 => bin_sim (hρ x (by simp [Op.operands])) (hρ y (by simp [Op.operands])) h1 w
  case unOp op t x =>
    exact upon_read hs h fun v h1 => un_sim (hρ x (by simp [Op.operands])) h1 w
  case convert src dst x =>
    obtain ⟨v, h1, rfl⟩ := vsR_some h
    obtain ⟨u, w', μ', k1, k2, k3⟩ := convert_sim hs hf (hρ x (by simp [Op.operands])) h1
    exact upon_value k3 k2 k1
  case makeInterface t x =>
    have hx := hρ x (by simp [Op.operands])
    unfold xMakeInterface at h
    have hh := bind_some h
    clear h
    obtain ⟨d, h1, h⟩ := hh
    have hd := run_under h1 w
    have key : r = .val (.iface t (ρ x)) ∧ s' = s ∧ (Instr.makeInterface t (ρ' x)).run P w = .ok (.iface t (ρ' x)) w := by
      unfold Instr.makeInterface
      simp only [Sem.run_bind, hd, Result.andThen_ok]
      cases d <;> first | (cases h; done) | (cases h; exact ⟨rfl, rfl, rfl⟩)
    obtain ⟨rfl, rfl, k1⟩ := key
    exact upon_value (.refl hs) (.iface t hx) k1
  case makeFunc fn first captured =>
    unfold xMakeFunc at h
    have hfn : FnRel μ fn fn ∧ r = .val (.func fn (first.map ρ) (captured.map ρ)) ∧ s' = s := by
      cases fn <;> cases h <;> exact ⟨by constructor, rfl, rfl⟩
    clear h
    obtain ⟨hfn, rfl, rfl⟩ := hfn
    have e1 := map_rel (μ := μ) (ρ := ρ) (ρ' := ρ') first.toList fun y hy => hρ y (by simp [Op.operands]; exact .inl (by simpa using hy))
    have e2 := map_rel (μ := μ) (ρ := ρ) (ρ' := ρ') captured.toList fun y hy => hρ y (by simp [Op.operands]; exact .inr (by simpa using hy))
    refine upon_value (e := Instr.makeFunc fn (first.map ρ') (captured.map ρ')) (.refl hs) (?_ : VRel μ (.func fn (first.map ρ) (captured.map ρ)) (.func fn (first.map ρ') (captured.map ρ'))) rfl
    have f1 : LRel μ (first.map ρ).toList (first.map ρ').toList := by simpa only [Array.toList_map] using e1
    have f2 : LRel μ (captured.map ρ).toList (captured.map ρ').toList := by simpa only [Array.toList_map] using e2
    exact .func hfn f1.size f1.at f2.size f2.at
  case makeMap t x =>
    cases x with
    | none => exact upon_made (makeMapN_sim hs hf h)
    | some x => exact upon_made (makeMapS_sim hs hf (hρ x (by simp [Op.operands])) h)
  case makeSlice t l c =>
    exact upon_made (makeSlice_sim hs hf (hρ l (by simp [Op.operands])) (hρ c (by simp [Op.operands])) h)
  case slice t x lo hi mx =>
    exact upon_read hs h fun v h1 => slice_sim hs (hρ x (by simp [Op.operands])) (optV lo fun y hy => hρ y (by simp [Op.operands, hy])) (optV hi fun y hy => hρ y (by simp [Op.operands, hy]))
      (optV mx fun y hy => hρ y (by simp [Op.operands, hy])) h1
  case fieldAddr t x f =>
    exact upon_read hs h fun v h1 => fieldAddr_sim (hρ x (by simp [Op.operands])) h1 w
  case field t x f =>
    exact upon_read hs h fun v h1 => field_sim (hρ x (by simp [Op.operands])) h1 w
  case indexAddr t x i =>
    exact upon_read hs h fun v h1 => indexAddr_sim (hρ x (by simp [Op.operands])) (hρ i (by simp [Op.operands])) h1 w
  case index t x i =>
    exact upon_read hs h fun v h1 => index_sim (hρ x (by simp [Op.operands])) (hρ i (by simp [Op.operands])) h1 w
  case lookup t x i ok =>
    exact upon_read hs h fun v h1 => lookup_sim hs (hρ x (by simp [Op.operands])) (hρ i (by simp [Op.operands])) h1
  case mapUpdate t m k x =>
    exact upon_wrote h fun h1 => mapUpdate_sim hs (hρ m (by simp [Op.operands])) (hρ k (by simp [Op.operands])) (hρ x (by simp [Op.operands])) h1
  case insert t m k x =>
    exact upon_wrote h fun h1 => mapUpdate_sim hs (hρ m (by simp [Op.operands])) (hρ k (by simp [Op.operands])) (hρ x (by simp [Op.operands])) h1
  case mapEntry t m k =>
    obtain ⟨v, h1, rfl⟩ := vsR_some h
    obtain ⟨u, w', k1, k2, k3⟩ := mapEntry_sim hs (hρ m (by simp [Op.operands])) (hρ k (by simp [Op.operands])) h1
    exact upon_value k3 k2 k1
  case entryStore t m n x =>
    exact upon_wrote h fun h1 => entryStore_sim hs (hρ m (by simp [Op.operands])) (hρ n (by simp [Op.operands])) (hρ x (by simp [Op.operands])) h1
  case typeAssert x xt t ok =>
    exact upon_read hs h fun v h1 => typeAssert_sim (hρ x (by simp [Op.operands])) h1 w
  case extract t i =>
    obtain ⟨v, u, rfl, rfl, k1, k2⟩ := extract_sim (P := P) (v := .nilIface) (hρ t (by simp [Op.operands])) h w
    exact upon_value (.refl hs) k2 k1
  case call c =>
    have hh := bind_some h
    clear h
    obtain ⟨⟨t, args⟩, h1, h⟩ := hh
    obtain ⟨d, k1, k2, k3⟩ := resolve_sim (ρ' := ρ') (P := P) (fun x hx => hρ x (by simpa [Op.operands] using hx)) h1 w
    have := invoke_sim hext hs hf k2 k3 h
    simp only [Sem.run_bind, k1, Result.andThen_ok]
    exact this
  case defer c =>
    obtain ⟨⟨t, args⟩, h1, h2⟩ := map_some h
    cases h2
    obtain ⟨d, k1, k2, k3⟩ := resolve_sim (ρ' := ρ') (P := P) (fun x hx => hρ x (by simpa [Op.operands] using hx)) h1 w
    refine ⟨μ, w, .refl hs, d, by simp only [Sem.run_bind, k1, Result.andThen_ok, Sem.run_pure], k2, k3⟩
  case panic x =>
    have hx := hρ x (by simp [Op.operands])
    unfold xPanic at h
    split at h
    case h_2 => cases h
    rename_i t v hv
    cases h
    rw [hv] at hx
    generalize hu : ρ' x = u at hx
    cases hx with
    | iface _ hw => exact ⟨μ, w, .refl hs, .iface t _, rfl, .iface t hw⟩
  case range t x =>
    exact upon_made (range_sim hs hf (hρ x (by simp [Op.operands])) h)
  case next x isStr =>
    exact next_sim hs (hρ x (by simp [Op.operands])) h
  case entry x =>
    obtain ⟨v, u, rfl, rfl, k1, k2⟩ := entry_sim hs (hρ x (by simp [Op.operands])) h
    exact upon_value (.refl hs) k2 k1
  all_goals (cases h; done)

end
end Go.Ab
