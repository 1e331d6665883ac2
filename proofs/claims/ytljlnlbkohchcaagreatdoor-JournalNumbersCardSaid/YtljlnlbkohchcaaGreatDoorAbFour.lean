/- The abstract machine's calculus is sound; contracts found by running it. Conditions: as each lemma says. -/
import Derived.Test.YtljlnlbkohchcaaGreatDoorAbThree
import Derived.KernelRfl
import Derived.OpenShut
import Derived.ChangeSame
import Derived.JoinedOf
import Derived.Lib.Join
import Derived.Below
/- Regions that draw their order: values looked at, and looked at again. Conditions: none (lemmas). -/
namespace Go.Ab

variable {P : Program} {ext : Ext}

theorem eqAddr_sound {a b : Addr} (h : eqAddr a b = true) : a = b := by
  obtain ⟨ab, ao, as⟩ := a
  obtain ⟨bb, bo, bs⟩ := b
  unfold eqAddr at h
  cases as <;> cases bs <;> simp only [] at h <;> try (cases h; done)
  obtain ⟨h1, h2⟩ := andB_true.1 h
  rw [Nat.eq_of_beq_eq_true h1, Nat.eq_of_beq_eq_true h2]

theorem eqVs_sound {f : Value → Value → Bool} (hf : ∀ v w, f v w = true → v = w) : ∀ (as bs : List Value), eqVs f as bs = true → as = bs
  | [], [], _ => rfl
  | [], _ :: _, h => by cases h
  | _ :: _, [], h => by cases h
  | a :: as, b :: bs, h => by
    simp only [eqVs] at h
    obtain ⟨h1, h2⟩ := andB_true.1 h
    rw [hf _ _ h1, eqVs_sound hf as bs h2]

theorem eqVn_sound : ∀ (n : Nat) (v w : Value), eqVn n v w = true → v = w
  | 0, _, _, h => by cases h
  | n + 1, v, w, h => by
    unfold eqVn at h
    split at h <;> try rfl
    · obtain ⟨h1, h2⟩ := andB_true.1 h
      rw [(sameK_eq _ _).1 h1]
      rw [eqI_eq] at h2
      rw [eq_of_beq h2]
    · rename_i a b
      rw [beqL_eq] at h
      have := eq_of_beq h
      obtain ⟨⟨a⟩⟩ := a
      obtain ⟨⟨b⟩⟩ := b
      simp only at this
      rw [this]
    · rw [eqAddr_sound h]
    · obtain ⟨h1, h2⟩ := andB_true.1 h
      rw [Nat.eq_of_beq_eq_true h1, Nat.eq_of_beq_eq_true h2]
    · obtain ⟨h0, h⟩ := andB_true.1 h
      obtain ⟨h1, h2⟩ := andB_true.1 h
      rw [eqAddr_sound h0, Nat.eq_of_beq_eq_true h1, Nat.eq_of_beq_eq_true h2]
    · rw [Nat.eq_of_beq_eq_true h]
    · obtain ⟨h0, h⟩ := andB_true.1 h
      obtain ⟨h1, h2⟩ := andB_true.1 h
      rw [Nat.eq_of_beq_eq_true h0, Array.ext' (eqVs_sound (eqVn_sound n) _ _ h1), Array.ext' (eqVs_sound (eqVn_sound n) _ _ h2)]
    · obtain ⟨h1, h2⟩ := andB_true.1 h
      rw [Nat.eq_of_beq_eq_true h1, eqVn_sound n _ _ h2]
    · rename_i a b
      have := eqVs_sound (eqVn_sound n) _ _ h
      rw [Array.ext' this]
    · rename_i a b
      have := eqVs_sound (eqVn_sound n) _ _ h
      rw [Array.ext' this]
    · cases h

theorem eqV_sound {v w : Value} (h : eqV v w = true) : v = w := eqVn_sound 16 v w h

theorem sameP_spec {v w : Value} {k : Prop} (h : sameP v w k) : v = w ∧ k := by
  unfold sameP at h
  split at h
  · rename_i e; exact ⟨eqV_sound e, h⟩
  · exact h

/-! ### What an operation looks at -/

theorem looksAt_tmp {all : Array Oper} {o : Oper} {t : Tmp} (h : Operand.tmp t ∈ o.op.operands) : t ∈ o.looksAt all := by
  unfold Oper.looksAt
  refine List.mem_append.2 (.inl (List.mem_filterMap.2 ⟨.tmp t, by simpa using h, rfl⟩))

theorem looksAt_guard {all : Array Oper} {o : Oper} {j : Nat} {want : Bool} {d : Tmp} (hg : o.guard = some (j, want)) (hd : (all[j]?).bind (·.dst) = some d) : d ∈ o.looksAt all := by
  unfold Oper.looksAt
  refine List.mem_append.2 (.inr ?_)
  simp [hg, hd]

theorem evalA_congr {t t' : Tr Value} {all : Array Oper} {o : Oper} (h : ∀ d ∈ o.looksAt all, evalT t d = evalT t' d) : ∀ y ∈ o.op.operands, evalA t y = evalA t' y := by
  intro y hy
  cases y with
  | tmp d => exact h d (looksAt_tmp hy)
  | _ => rfl

theorem yieldedT_congr {t t' : Tr Value} {all : Array Oper} {j : Nat} (h : ∀ d, (all[j]?).bind (·.dst) = some d → evalT t d = evalT t' d) : yieldedT all t j = yieldedT all t' j := by
  unfold yieldedT
  cases hd : (all[j]?).bind (·.dst) with
  | none => rfl
  | some d => simp only [h d hd]

theorem wantedA_congr {t t' : Tr Value} {all : Array Oper} {o : Oper} (h : ∀ d ∈ o.looksAt all, evalT t d = evalT t' d) : wantedA all t o = wantedA all t' o := by
  unfold wantedA
  cases hg : o.guard with
  | none => rfl
  | some p =>
    obtain ⟨j, want⟩ := p
    simp only []
    rw [yieldedT_congr fun d hd => h d (looksAt_guard hg hd)]

theorem makeOf_congr {ρ ρ' : Operand → Value} {o : Oper} {nx : Nat} (h : ∀ y ∈ o.op.operands, ρ y = ρ' y) : makeOf P ext ρ o nx = makeOf P ext ρ' o nx := by
  unfold makeOf
  rw [execA_congr o _ h]

theorem calmOf_congr {ρ ρ' : Operand → Value} {o : Oper} {s : St} (h : ∀ y ∈ o.op.operands, ρ y = ρ' y) : calmOf P ext ρ o s = calmOf P ext ρ' o s := by
  unfold calmOf
  rw [execA_congr o _ h]

theorem valueOf_congr {t t' : Tr Value} {all : Array Oper} {base i : Nat} {o : Oper} {s : St} (h : ∀ d ∈ o.looksAt all, evalT t d = evalT t' d) :
    valueOf P ext all base i o t s = valueOf P ext all base i o t' s := by
  unfold valueOf
  rw [wantedA_congr h, makeOf_congr (evalA_congr h), calmOf_congr (evalA_congr h)]

theorem evalT_put {n : Nat} {t : Tr Value} {dst : Option Tmp} {v : Value} (d : Tmp) (h : dst ≠ some d) : evalT (putT n t dst v) d = evalT t d := by
  cases dst with
  | none => rfl
  | some e =>
    have hne : d ≠ e := fun x => h (by rw [x])
    simp only [putT]
    split
    · simp only [evalT, Tr.get_set, if_neg hne]
    · rfl

theorem evalT_put_same {n : Nat} {t : Tr Value} {v : Value} (d : Tmp) (h : d < n) : evalT (putT n t (some d) v) d = v := by
  have : Nat.blt d n = true := by simpa using h
  simp only [putT, this, evalT, Tr.get_set, if_true]

theorem evalT_put_over {n : Nat} {t : Tr Value} {dst : Option Tmp} {v : Value} (d : Tmp) (h : n ≤ d) : evalT (putT n t dst v) d = evalT t d := by
  cases dst with
  | none => rfl
  | some e =>
    simp only [putT]
    split
    · rename_i hb
      have hlt : e < n := by simpa using hb
      have hne : d ≠ e := fun x => Nat.lt_irrefl e (Nat.lt_of_lt_of_le hlt (x ▸ h))
      simp only [evalT, Tr.get_set, if_neg hne]
    · rfl

/-- What the evs of a segment leave: each value stands in its place, and is the value at the last temporaries. -/
theorem evsP_spec {all : Array Oper} {base n : Nat} {s : St} : ∀ (evs : List (Nat × Bool)) (t : Tr Value) (k : Tr Value → Prop),
    evs.Pairwise (fun p q => p.1 < q.1) →
    (∀ p ∈ evs, ∀ q ∈ evs, p.1 ≤ q.1 → ∀ o o', all[p.1]? = some o → all[q.1]? = some o' → (∀ d, o'.dst = some d → d ∉ o.looksAt all) ∧ (p.1 ≠ q.1 → ∀ d, o.dst = some d → o'.dst ≠ some d)) →
    evsP P ext all base n evs t s k →
    ∃ t', k t' ∧ (∀ d, (∀ p ∈ evs, p.2 = true → ∀ o, all[p.1]? = some o → o.dst ≠ some d) → evalT t' d = evalT t d) ∧ (∀ d, n ≤ d → evalT t' d = evalT t d) ∧
      ∀ p ∈ evs, ∃ o v, all[p.1]? = some o ∧ valueOf P ext all base p.1 o t' s = some v ∧ ∀ d, o.dst = some d → d < n → evalT t' d = v
  | [], t, k, _, _, h => ⟨t, h, fun _ _ => rfl, fun _ _ => rfl, fun p hp => by cases hp⟩
  | (i, first) :: evs, t, k, hpw, hcl, h => by
    simp only [evsP, someP] at h
    obtain ⟨hlt, hpw⟩ := List.pairwise_cons.1 hpw
    split at h
    case h_2 => exact h.elim
    rename_i o ho
    split at h
    case h_2 => exact h.elim
    rename_i v hv
    have hcl' : ∀ p ∈ evs, ∀ q ∈ evs, p.1 ≤ q.1 → ∀ o o', all[p.1]? = some o → all[q.1]? = some o' → (∀ d, o'.dst = some d → d ∉ o.looksAt all) ∧ (p.1 ≠ q.1 → ∀ d, o.dst = some d → o'.dst ≠ some d) :=
      fun p hp q hq => hcl p (List.mem_cons_of_mem _ hp) q (List.mem_cons_of_mem _ hq)
    have hself := hcl (i, first) (by simp) (i, first) (by simp) (Nat.le_refl _) o o ho ho
    have hlater : ∀ q ∈ evs, ∀ o', all[q.1]? = some o' → (∀ d, o'.dst = some d → d ∉ o.looksAt all) ∧ ∀ d, o.dst = some d → o'.dst ≠ some d := fun q hq o' ho' =>
      have hl := hlt q hq
      have := hcl (i, first) (by simp) q (List.mem_cons_of_mem _ hq) (Nat.le_of_lt hl) o o' ho ho'
      ⟨this.1, this.2 (Nat.ne_of_lt hl)⟩
    -- the temporaries behind the first, and what stands in its place
    have key : ∀ t1 : Tr Value, (∀ d, o.dst ≠ some d ∨ first = false → evalT t1 d = evalT t d) → (∀ d, n ≤ d → evalT t1 d = evalT t d) → (∀ d, o.dst = some d → d < n → evalT t1 d = v) →
        evsP P ext all base n evs t1 s k → ∃ t', k t' ∧ (∀ d, (∀ p ∈ (i, first) :: evs, p.2 = true → ∀ o, all[p.1]? = some o → o.dst ≠ some d) → evalT t' d = evalT t d) ∧ (∀ d, n ≤ d → evalT t' d = evalT t d) ∧
          ∀ p ∈ (i, first) :: evs, ∃ o v, all[p.1]? = some o ∧ valueOf P ext all base p.1 o t' s = some v ∧ ∀ d, o.dst = some d → d < n → evalT t' d = v := fun t1 h1 h2 h3 h4 => by
      obtain ⟨t', k1, k2, k3, k4⟩ := evsP_spec evs t1 k hpw hcl' h4
      have hlook : ∀ d ∈ o.looksAt all, evalT t' d = evalT t d := fun d hd => by
        rw [k2 d fun p hp _ o' ho' e => (hlater p hp o' ho').1 d e hd, h1 d (.inl fun e => hself.1 d e hd)]
      refine ⟨t', k1, fun d hd => ?_, fun d hd => (k3 d hd).trans (h2 d hd), fun p hp => ?_⟩
      · rw [k2 d fun p hp => hd p (List.mem_cons_of_mem _ hp)]
        refine h1 d ?_
        cases first with
        | true => exact .inl (hd (i, true) (by simp) rfl o ho)
        | false => exact .inr rfl
      · rcases List.mem_cons.1 hp with rfl | hp
        · refine ⟨o, v, ho, ?_, fun d hd hl => ?_⟩
          · rw [valueOf_congr hlook]; exact hv
          · rw [k2 d fun p hp _ o' ho' e => (hlater p hp o' ho').2 d hd e]
            exact h3 d hd hl
        · exact k4 p hp
    cases first with
    | true =>
      simp only at h
      refine key _ (fun d hd => evalT_put d (hd.resolve_right (by simp))) (fun d hd => evalT_put_over d hd) (fun d hd hl => ?_) h
      rw [hd]; exact evalT_put_same d hl
    | false =>
      simp only at h
      unfold againP at h
      split at h
      · rename_i d hd
        obtain ⟨h1, h2⟩ := sameP_spec h
        refine key t (fun _ _ => rfl) (fun _ _ => rfl) (fun e he _ => ?_) h2
        rw [hd] at he; cases he; exact h1
      · rename_i hd
        exact key t (fun _ _ => rfl) (fun _ _ => rfl) (fun e he _ => by rw [hd] at he; cases he) h

/-! ### The rows in their order -/

theorem evsOf_sorted {done rem : Nat} {last : Option Nat} : ∀ (rows : List Row), rows.Pairwise (fun r q => r.i < q.i) → (evsOf done rem last rows).Pairwise (fun p q => p.1 < q.1)
  | [], _ => .nil
  | r :: rows, h => by
    obtain ⟨h1, h2⟩ := List.pairwise_cons.1 h
    simp only [evsOf]
    split
    · refine .cons (fun p hp => ?_) (evsOf_sorted rows h2)
      obtain ⟨q, hq, _, _, _, rfl⟩ := (mem_evsOf rows p).1 hp
      exact h1 q hq
    · exact evsOf_sorted rows h2

end Go.Ab

/- Regions that draw their order: what stays true midway. Conditions: none (lemmas). -/
namespace Go.Ab

variable {P : Program} {ext : Ext}

theorem kind_cases (o : Op) : kindOf P o = 0 ∨ kindOf P o = 1 ∨ kindOf P o = 2 := by
  unfold kindOf
  split <;> try (simp; done)
  · split <;> simp
  · split
    · split <;> simp
    · simp

theorem apartB_of {m k : Nat} (h : ∀ i, has m i = true → has k i = true → False) : apartB m k = true := by
  have : m &&& k = 0 := by
    apply Nat.eq_of_testBit_eq
    intro i
    rw [Nat.testBit_and, Nat.zero_testBit]
    cases h1 : m.testBit i with
    | false => rfl
    | true =>
      cases h2 : k.testBit i with
      | false => rfl
      | true => exact (h i (by rw [has_eq]; exact h1) (by rw [has_eq]; exact h2)).elim
  unfold apartB
  rw [show Nat.land m k = 0 from this]
  rfl

theorem has_loudMask (j : Nat) : ∀ ls : List Row, has (loudMask ls) j = true → ∃ l ∈ ls, l.i = j
  | [], h => by simp [loudMask, has_eq] at h
  | l :: ls, h => by
    simp only [loudMask, has_lor, has_pow, Bool.or_eq_true, decide_eq_true_eq] at h
    rcases h with h | h
    · exact ⟨l, by simp, h⟩
    · obtain ⟨q, h1, h2⟩ := has_loudMask j ls h
      exact ⟨q, by simp [h1], h2⟩

section
variable {all : Array Oper} {base : Nat} {D C : Nat → Prop} {x : Ctx} {μ₀ μ μ₁ : Mp} {s₀ s s₁ : St} {w₀ w w₁ : World} {lo lo₁ : Lo} {a a₁ : Act} {cs cs₁ : List Frame}

/-- A temporary behind an operation. -/
theorem put_at {t : Tr Value} {n : Nat} {dst : Option Tmp} {u : Value} (d : Tmp) (hs : a.tmps.size = n) (h1 : dst ≠ some d → VRel μ (evalT t d) (a.tmps.getD d undef))
    (h2 : dst = some d → d < n → VRel μ (evalT t d) u) (h3 : n ≤ d → VRel μ (evalT t d) undef) : VRel μ (evalT t d) ((a.put dst u).tmps.getD d undef) := by
  cases dst with
  | none => exact h1 (by simp)
  | some e =>
    simp only [Act.put, Array.getD_eq_getD_getElem?]
    by_cases he : e = d
    · subst he
      rw [Array.getElem?_setIfInBounds_self]
      by_cases hl : e < n
      · rw [if_pos (by rw [hs]; exact hl)]; exact h2 rfl hl
      · rw [if_neg (by rw [hs]; exact hl)]; exact h3 (Nat.le_of_not_lt hl)
    · rw [Array.getElem?_setIfInBounds_ne he]
      have := h1 (by simp [he])
      rwa [Array.getD_eq_getD_getElem?] at this

theorem put_size (a : Act) (dst : Option Tmp) (u : Value) : (a.put dst u).tmps.size = a.tmps.size := by
  cases dst <;> simp [Act.put]

/-- A made block that waits lies where it lay. -/
theorem Mid.go (m : Mid P ext all base D C x μ₀ s₀ w₀ μ lo s a cs w) (mv : MovedS P μ s w μ₁ s₁ w₁) {D₁ : Nat → Prop} (hD : ∀ i o, all[i]? = some o → D i → D₁ i)
    (hmake : ∀ i o, all[i]? = some o → kindOf P o.op = 1 → D₁ i → ¬ C i → wantedA all lo₁.tmps o = true → D i)
    (hlook : ∀ i o, all[i]? = some o → kindOf P o.op = 1 → D i → ¬ C i → ∀ d ∈ o.looksAt all, evalT lo₁.tmps d = evalT lo.tmps d)
    (hsize : a₁.tmps.size = x.n) (htmps : ∀ d, (∀ i o, all[i]? = some o → o.dst = some d → kindOf P o.op ≠ 2 → D₁ i) → VRel μ₁ (evalT lo₁.tmps d) (a₁.tmps.getD d undef))
    (hover : ∀ d, x.n ≤ d → VRel μ₁ (evalT lo₁.tmps d) undef) (hdef : All2 (DRel μ₁) lo₁.defers a₁.defers) (hum : UmRel μ₁ x.deferred lo₁.um cs₁) :
    Mid P ext all base D₁ C x μ₀ s₀ w₀ μ₁ lo₁ s₁ a₁ cs₁ w₁ where
  good := m.good.moved mv
  start := m.start.trans mv
  low := m.low
  room := Nat.le_trans m.room mv.next
  size := hsize
  tmps := htmps
  over := hover
  defers := hdef
  um := hum
  free := fun i o ho hn => by
    have hold := m.free i o ho fun e => hn (hD i o ho e)
    cases e : μ₁ (base + i) with
    | none => rfl
    | some b =>
      rcases mv.fresh _ _ e with h | h
      · rw [hold] at h; cases h
      · have := (Array.getElem?_eq_some_iff.1 ho).1
        have := m.room
        omega
  pend := fun i o ho hk hd hc hw => by
    have hd' := hmake i o ho hk hd hc hw
    have hl := hlook i o ho hk hd' hc
    rw [wantedA_congr hl] at hw
    obtain ⟨v, obj, b, p, h1, h2, h3, h4, h5, h6⟩ := m.pend i o ho hk hd' hc hw
    have hlt : b.block < w.heap.size := (Array.getElem?_eq_some_iff.1 h3).1
    refine ⟨v, obj, b, p, ?_, mv.le _ _ h2, ?_, h4.mono mv.le, h5, fun j q c hj hμ e => ?_⟩
    · rw [makeOf_congr (evalA_congr hl)]; exact h1
    · rw [mv.kept _ hlt fun j q c hj hμ => h6 j q c hj hμ]; exact h3
    · rcases mv.own j q c hj hμ with h | ⟨j', q', c', k1, k2, k3⟩
      · omega
      · exact h6 j' q' c' k1 k2 (by omega)
  apart := fun i j o o' b c ho ho' hk hk' hd hd' hc hc' hw hw' hb hb' hne => by
    have hd := hmake i o ho hk hd hc hw
    have hd' := hmake j o' ho' hk' hd' hc' hw'
    rw [wantedA_congr (hlook i o ho hk hd hc)] at hw
    rw [wantedA_congr (hlook j o' ho' hk' hd' hc')] at hw'
    obtain ⟨_, _, b0, _, _, h2, _⟩ := m.pend i o ho hk hd hc hw
    obtain ⟨_, _, c0, _, _, k2, _⟩ := m.pend j o' ho' hk' hd' hc' hw'
    have e1 := mv.le _ _ h2
    have e2 := mv.le _ _ k2
    rw [hb] at e1; cases e1
    rw [hb'] at e2; cases e2
    exact m.apart i j o o' _ _ ho ho' hk hk' hd hd' hc hc' hw hw' h2 k2 hne

theorem Mid.weaken (m : Mid P ext all base D C x μ₀ s₀ w₀ μ lo s a cs w) {C₁ : Nat → Prop} (h : ∀ i, C i → C₁ i) : Mid P ext all base D C₁ x μ₀ s₀ w₀ μ lo s a cs w :=
  { m with
    pend := fun i o ho hk hd hc => m.pend i o ho hk hd fun e => hc (h i e)
    apart := fun i j o o' b c ho ho' hk hk' hd hd' hc hc' => m.apart i j o o' b c ho ho' hk hk' hd hd' (fun e => hc (h i e)) fun e => hc' (h j e) }

/-- A made block is laid into memory. -/
theorem Mid.commit (m : Mid P ext all base D C x μ₀ s₀ w₀ μ lo s a cs w) {i : Nat} {o : Oper} {v : Value} {obj : AObj} (ho : all[i]? = some o) (hk : kindOf P o.op = 1) (hd : D i) (hc : ¬ C i)
    (hw : wantedA all lo.tmps o = true) (hm : makeOf P ext (evalA lo.tmps) o (base + i) = some (v, obj)) :
    Mid P ext all base D (fun j => C j ∨ j = i) x μ₀ s₀ w₀ μ lo (s.put (base + i) (some obj)) a cs w := by
  obtain ⟨v', obj', b, p, h1, h2, h3, h4, h5, h6⟩ := m.pend i o ho hk hd hc hw
  rw [hm] at h1; cases h1
  have hsim : SimS P μ (s.put (base + i) (some obj)) w := {
    opn := m.good.sim.opn
    live := fun j q hj => by
      rw [get_put] at hj
      split at hj
      · rename_i e; subst e; cases hj; exact ⟨b, p, h2, h3, h4⟩
      · exact m.good.sim.live j q hj
    inj := fun j k q r c d hj hk' hμ hμ' e => by
      rw [get_put] at hj hk'
      split at hj
      · rename_i ej; subst ej
        rw [h2] at hμ; cases hμ
        split at hk'
        · rename_i ek; exact ek.symm
        · exact absurd e.symm (h6 k r d hk' hμ')
      · split at hk'
        · rename_i ek; subst ek
          rw [h2] at hμ'; cases hμ'
          exact absurd e (h6 j q c hj hμ)
        · exact m.good.sim.inj j k q r c d hj hk' hμ hμ' e }
  exact {
    good := ⟨hsim, m.good.fresh, m.good.globals⟩
    start := { m.start with
      sim := hsim
      own := fun j q c hj hμ => by
        rw [get_put] at hj
        split at hj
        · rename_i e; subst e
          rw [h2] at hμ; cases hμ
          exact .inl h5
        · exact m.start.own j q c hj hμ }
    low := m.low
    room := m.room
    size := m.size
    tmps := m.tmps
    over := m.over
    defers := m.defers
    um := m.um
    free := m.free
    pend := fun j o' ho' hk' hd' hc' hw' => by
      have hcj : ¬ C j := fun e => hc' (.inl e)
      have hne : i ≠ j := fun e => hc' (.inr e.symm)
      obtain ⟨v1, obj1, b1, p1, k1, k2, k3, k4, k5, k6⟩ := m.pend j o' ho' hk' hd' hcj hw'
      refine ⟨v1, obj1, b1, p1, k1, k2, k3, k4, k5, fun l q c hl hμ e => ?_⟩
      rw [get_put] at hl
      split at hl
      · rename_i el; subst el
        rw [h2] at hμ; cases hμ
        exact m.apart i j o o' _ _ ho ho' hk hk' hd hd' hc hcj hw hw' h2 k2 hne e
      · exact k6 l q c hl hμ e
    apart := fun j l o1 o2 b1 c1 e1 e2 k1 k2 d1 d2 n1 n2 => m.apart j l o1 o2 b1 c1 e1 e2 k1 k2 d1 d2 (fun e => n1 (.inl e)) fun e => n2 (.inl e) }

theorem Mid.commits : ∀ (is : List Nat) (C : Nat → Prop) (s s' : St), Mid P ext all base D C x μ₀ s₀ w₀ μ lo s a cs w → is.Pairwise (· < ·) →
    (∀ i ∈ is, D i ∧ ¬ C i ∧ ∀ o, all[i]? = some o → kindOf P o.op = 1) → commitA P ext all base lo.tmps is s = some s' →
    Mid P ext all base D (fun j => C j ∨ j ∈ is) x μ₀ s₀ w₀ μ lo s' a cs w
  | [], C, s, s', m, _, _, h => by
    simp only [commitA, Option.some.injEq] at h
    subst h
    exact m.weaken fun i => .inl
  | i :: is, C, s, s', m, hp, hi, h => by
    obtain ⟨hlt, hp⟩ := List.pairwise_cons.1 hp
    simp only [commitA] at h
    obtain ⟨o, ho, h⟩ := bind_some h
    obtain ⟨hd, hc, hk⟩ := hi i (by simp)
    have hk := hk o ho
    have next : ∀ s1, Mid P ext all base D (fun j => C j ∨ j = i) x μ₀ s₀ w₀ μ lo s1 a cs w → commitA P ext all base lo.tmps is s1 = some s' → Mid P ext all base D (fun j => C j ∨ j ∈ i :: is) x μ₀ s₀ w₀ μ lo s' a cs w := fun s1 m1 h1 => by
      refine (Mid.commits is _ s1 s' m1 hp (fun j hj => ?_) h1).weaken fun j hj => ?_
      · obtain ⟨k1, k2, k3⟩ := hi j (List.mem_cons_of_mem _ hj)
        exact ⟨k1, fun e => e.elim k2 fun e => absurd (hlt j hj) (by omega), k3⟩
      · rcases hj with (hj | hj) | hj
        · exact .inl hj
        · exact .inr (by simp [hj])
        · exact .inr (List.mem_cons_of_mem _ hj)
    split at h
    · rename_i hw
      obtain ⟨⟨v, obj⟩, hm, h⟩ := bind_some h
      exact next _ (m.commit ho hk hd hc hw hm) h
    · rename_i hw
      refine next s { m with pend := fun j o' ho' hk' hd' hc' => m.pend j o' ho' hk' hd' fun e => hc' (.inl e), apart := fun j l o1 o2 b1 c1 e1 e2 k1 k2 d1 d2 n1 n2 => m.apart j l o1 o2 b1 c1 e1 e2 k1 k2 d1 d2 (fun e => n1 (.inl e)) fun e => n2 (.inl e) } h

/-- A block is made: it waits. -/
theorem Mid.make (m : Mid P ext all base D C x μ₀ s₀ w₀ μ lo s a cs w) {i : Nat} {o : Oper} {v u : Value} {obj : AObj} (ho : all[i]? = some o) (hk : kindOf P o.op = 1) (hd : ¬ D i)
    (hw : wantedA all lo.tmps o = true) (hm : makeOf P ext (evalA lo.tmps) o (base + i) = some (v, obj))
    (mv : MovedS P μ { s with next := base + i } w μ₁ ({ s with next := base + i }.new obj).2 w₁)
    (hv : VRel μ₁ v u) (he : ∀ d, o.dst = some d → d < x.n → evalT lo.tmps d = v) :
    Mid P ext all base (fun j => D j ∨ j = i) C x μ₀ s₀ w₀ μ₁ lo s (a.put o.dst u) cs w₁ := by
  have hlt : i < all.size := (Array.getElem?_eq_some_iff.1 ho).1
  have hroom := m.room
  have hlow := m.low
  have hnone := m.free i o ho hd
  have hsnone : s.heap.get (base + i) = none := by
    cases e : s.heap.get (base + i) with
    | none => rfl
    | some q =>
      obtain ⟨b, _, h1, _⟩ := m.good.sim.live _ _ e
      rw [hnone] at h1; cases h1
  have hget : ∀ j, ({ s with next := base + i } : St).new obj |>.2.heap.get j = if j = base + i then some obj else s.heap.get j := fun j => get_new _ _ _
  obtain ⟨b, p, k1, k2, k3⟩ := mv.sim.live (base + i) obj (by rw [hget]; simp)
  have hfresh : ∀ j c, μ₁ j = some c → μ j = some c ∨ j = base + i := fun j c e => by
    rcases mv.fresh j c e with h | h
    · exact .inl h
    · have h : base + i ≤ j ∧ j < base + i + 1 := h
      exact .inr (by omega)
  have hold : ∀ j q c, s.heap.get j = some q → μ₁ j = some c → μ j = some c := fun j q c hj hc => by
    obtain ⟨c', _, h1, _⟩ := m.good.sim.live j q hj
    have := mv.le _ _ h1
    rw [hc] at this; cases this; exact h1
  have hbnew : w.heap.size ≤ b.block := by
    rcases mv.own (base + i) obj b (by rw [hget]; simp) k1 with h | ⟨j, q, c, h1, h2, h3⟩
    · exact h
    · have h1 : s.heap.get j = some q := h1
      have hne : j ≠ base + i := fun e => by subst e; rw [hsnone] at h1; cases h1
      exact absurd (mv.sim.inj j (base + i) q obj c b (by rw [hget, if_neg hne]; exact h1) (by rw [hget]; simp) (mv.le _ _ h2) k1 h3) hne
  have hsim : SimS P μ₁ s w₁ := {
    opn := mv.sim.opn
    live := fun j q hj => by
      have hne : j ≠ base + i := fun e => by subst e; rw [hsnone] at hj; cases hj
      exact mv.sim.live j q (by rw [hget, if_neg hne]; exact hj)
    inj := fun j k q r c d hj hk' hc hd' e => by
      have hne : j ≠ base + i := fun e => by subst e; rw [hsnone] at hj; cases hj
      have hne' : k ≠ base + i := fun e => by subst e; rw [hsnone] at hk'; cases hk'
      exact mv.sim.inj j k q r c d (by rw [hget, if_neg hne]; exact hj) (by rw [hget, if_neg hne']; exact hk') hc hd' e }
  exact {
    good := {
      sim := hsim
      fresh := fun j hj => by
        cases e : μ₁ j with
        | none => rfl
        | some c =>
          rcases hfresh j c e with h | h
          · rw [m.good.fresh j hj] at h; cases h
          · omega
      globals := fun g hg => mv.le _ _ (m.good.globals g hg) }
    start := {
      le := Mp.le_trans m.start.le mv.le
      sim := hsim
      next := m.start.next
      fresh := fun j c e => by
        rcases hfresh j c e with h | h
        · exact m.start.fresh j c h
        · exact .inr (by omega)
      size := Nat.le_trans m.start.size mv.size
      kept := fun k hk' hn => by
        rw [mv.kept k (Nat.lt_of_lt_of_le hk' m.start.size) ?_, m.start.kept k hk' hn]
        intro j q c hj hc e
        rcases m.start.own j q c hj hc with h | ⟨j', q', c', e1, e2, e3⟩
        · omega
        · exact hn j' q' c' e1 e2 (by omega)
      own := fun j q c hj hc => m.start.own j q c hj (hold j q c hj hc)
      shape := fun k c t fr h => by
        obtain ⟨c1, f1, h1, e1, m1⟩ := m.start.shape k c t fr h
        obtain ⟨c2, f2, h2, e2, m2⟩ := mv.shape k c1 t f1 h1
        refine ⟨c2, f2, h2, e2.trans e1, ?_⟩
        rcases m2 with rfl | m2
        · exact m1
        · exact .inr m2
      os := mv.os.trans m.start.os
      tape := mv.tape.trans m.start.tape
      output := mv.output.trans m.start.output }
    low := m.low
    room := m.room
    size := by rw [put_size]; exact m.size
    tmps := fun d hd' => by
      refine put_at d m.size (fun hne => (m.tmps d fun j o' ho' hdst hk2 => ?_).mono mv.le) (fun e hl => ?_) (fun hl => (m.over d hl).mono mv.le)
      · rcases hd' j o' ho' hdst hk2 with h | h
        · exact h
        · subst h; rw [ho] at ho'; cases ho'; exact absurd hdst hne
      · rw [he d e hl]; exact hv
    over := fun d hl => (m.over d hl).mono mv.le
    defers := by
      have : (a.put o.dst u).defers = a.defers := by cases o.dst <;> rfl
      rw [this]
      exact m.defers.mono fun _ _ r => r.mono mv.le
    um := m.um.mono mv.le
    free := fun j o' ho' hn => by
      have h0 := m.free j o' ho' fun e => hn (.inl e)
      cases e : μ₁ (base + j) with
      | none => rfl
      | some c =>
        rcases hfresh _ c e with h | h
        · rw [h0] at h; cases h
        · exact absurd (.inr (by omega)) hn
    pend := fun j o' ho' hk' hd' hc' hw' => by
      by_cases hj : j = i
      · subst hj
        rw [ho] at ho'; cases ho'
        refine ⟨v, obj, b, p, hm, k1, k2, k3, Nat.le_trans m.start.size hbnew, fun l q c hl hc e => ?_⟩
        have hne : l ≠ base + j := fun e => by subst e; rw [hsnone] at hl; cases hl
        exact hne (mv.sim.inj l (base + j) q obj c b (by rw [hget, if_neg hne]; exact hl) (by rw [hget]; simp) hc k1 e)
      · have hdj := hd'.resolve_right hj
        obtain ⟨v1, obj1, b1, p1, h1, h2, h3, h4, h5, h6⟩ := m.pend j o' ho' hk' hdj hc' hw'
        have hlt1 : b1.block < w.heap.size := (Array.getElem?_eq_some_iff.1 h3).1
        refine ⟨v1, obj1, b1, p1, h1, mv.le _ _ h2, ?_, h4.mono mv.le, h5, fun l q c hl hc e => h6 l q c hl (hold l q c hl hc) e⟩
        rw [mv.kept _ hlt1 fun l q c hl hc => h6 l q c hl hc]; exact h3
    apart := fun j l o1 o2 b1 c1 e1 e2 q1 q2 d1 d2 n1 n2 w1 w2 hb hb' hne => by
      have old : ∀ j o1 b1, all[j]? = some o1 → kindOf P o1.op = 1 → D j → ¬ C j → wantedA all lo.tmps o1 = true → μ₁ (base + j) = some b1 → μ (base + j) = some b1 ∧ b1.block < w.heap.size := fun j o1 b1 e1 q1 d1 n1 w1 hb => by
        obtain ⟨_, _, b2, _, _, h2, h3, _⟩ := m.pend j o1 e1 q1 d1 n1 w1
        have := mv.le _ _ h2
        rw [hb] at this; cases this
        exact ⟨h2, (Array.getElem?_eq_some_iff.1 h3).1⟩
      by_cases hj : j = i
      · subst hj
        rw [k1] at hb; cases hb
        obtain ⟨h2, h3⟩ := old l o2 c1 e2 q2 (d2.resolve_right fun e => hne e.symm) n2 w2 hb'
        omega
      · obtain ⟨h2, h3⟩ := old j o1 b1 e1 q1 (d1.resolve_right hj) n1 w1 hb
        by_cases hl : l = i
        · subst hl
          rw [k1] at hb'; cases hb'
          omega
        · obtain ⟨h4, h5⟩ := old l o2 c1 e2 q2 (d2.resolve_right hl) n2 w2 hb'
          exact m.apart j l o1 o2 b1 c1 e1 e2 q1 q2 (d1.resolve_right hj) (d2.resolve_right hl) n1 n2 w1 w2 h2 h4 hne }

end
end Go.Ab

/- Regions that draw their order, on the machine. Conditions: none (lemmas). -/
namespace Go.Ab

variable {P : Program} {ext : Ext}

theorem chained_mem : ∀ (rs : List Row) (i : Nat), chained (some i) rs = true → ∀ q ∈ rs, has q.mask i = true ∨ ∃ p ∈ rs, has q.mask p.i = true
  | [], _, _, q, hq => by cases hq
  | r :: rs, i, h, q, hq => by
    simp only [chained] at h
    obtain ⟨h1, h2⟩ := andB_true.1 h
    rcases List.mem_cons.1 hq with rfl | hq
    · exact .inl h1
    · rcases chained_mem rs r.i h2 q hq with h | ⟨p, hp, h⟩
      · exact .inr ⟨r, by simp, h⟩
      · exact .inr ⟨p, by simp [hp], h⟩

theorem chained_tail {last : Option Nat} {l : Row} {ls : List Row} (h : chained last (l :: ls) = true) : chained (some l.i) ls = true := by
  cases last with
  | none => exact h
  | some i =>
    simp only [chained] at h
    exact (andB_true.1 h).2

theorem mem_loudsOf : ∀ (rows : List Row) (r : Row), r ∈ loudsOf rows ↔ r ∈ rows ∧ r.kind = 2
  | [], r => by simp [loudsOf]
  | q :: rows, r => by
    simp only [loudsOf]
    split
    · rename_i h
      have h := Nat.eq_of_beq_eq_true h
      simp only [List.mem_cons, mem_loudsOf rows r]
      constructor
      · rintro (rfl | ⟨h1, h2⟩)
        · exact ⟨.inl rfl, h⟩
        · exact ⟨.inr h1, h2⟩
      · rintro ⟨rfl | h1, h2⟩
        · exact .inl rfl
        · exact .inr ⟨h1, h2⟩
    · rename_i h
      simp only [List.mem_cons, mem_loudsOf rows r]
      constructor
      · rintro ⟨h1, h2⟩
        exact ⟨.inr h1, h2⟩
      · rintro ⟨rfl | h1, h2⟩
        · rw [h2] at h; cases h
        · exact ⟨h1, h2⟩

theorem commitsOf_sorted {done want : Nat} {every : Bool} : ∀ (rows : List Row), rows.Pairwise (fun r q => r.i < q.i) → (commitsOf done want every rows).Pairwise (· < ·)
  | [], _ => .nil
  | r :: rows, h => by
    obtain ⟨h1, h2⟩ := List.pairwise_cons.1 h
    simp only [commitsOf]
    split
    · refine .cons (fun p hp => ?_) (commitsOf_sorted rows h2)
      obtain ⟨q, hq, _, _, _, rfl⟩ := (mem_commitsOf rows p).1 hp
      exact h1 q hq
    · exact commitsOf_sorted rows h2

theorem wanted_rel {all : Array Oper} {t : Tr Value} {tmps : Array Value} {o : Oper} (h : ∀ j want, o.guard = some (j, want) → yielded all tmps j = yieldedT all t j) :
    Region.wanted o (yielded all tmps) = wantedA all t o := by
  unfold Region.wanted wantedA
  cases hg : o.guard with
  | none => rfl
  | some p =>
    obtain ⟨j, want⟩ := p
    simp only [h j want hg]
    cases yieldedT all t j with
    | none => cases want <;> rfl
    | some b => cases b <;> cases want <;> rfl

section
variable {rec : Rec} {x : Ctx} {lo : Lo} {s : St} {Q : Post} {b : Frame} {a : Act} {k : List Item} {cs : List Frame} {μ : Mp} {w : World} {all : Array Oper} {base : Nat}

theorem step_value {o : Oper} {i : Nat} {rest : List Nat} {u : Value} {w1 : World} (ho : all[i]? = some o) (hw : Region.wanted o (yielded all a.tmps) = true) (hnd : ∀ c, o.op ≠ .defer c)
    (hr : (execOp a.eval o).run P w = .ok (.value u) w1) :
    step P (lone (b.atR a (.inRegion all (i :: rest) :: k)) cs w) = .next (lone (b.atR (a.put o.dst u) (.inRegion all rest :: k)) cs w1) := by
  have hg := stepGR_op (P := P) (b := b) (a := a) (k := k) (cs := cs) (w := w) (rest := rest) ho hw
  rw [Oper.semAt_eq _ _ _ hnd] at hg
  have hfin : (b.atR a (.inRegion all (i :: rest) :: k)).finish u = b.atR (a.put o.dst u) (.inRegion all rest :: k) := finish_here ho u
  refine step_lone_go ?_
  rw [hg, ← hfin]; simp [stepG.apply, hr]

theorem noDefer {o : Oper} (h : kindOf P o.op ≠ 2) : ∀ c, o.op ≠ .defer c := fun c e => h (by rw [e]; rfl)

/-- From within a segment: whatever order is drawn. -/
theorem draw_mid (ih : ∀ t s Q, rec t s Q → Conc P ext t s Q) (hext : ExtOk P ext) {rows : List Row} (hpl : Planned P all rows) (hok : opsOk P all.toList = true) {done : Nat} {last : Option Nat} {ls : List Row}
    {μ₀ : Mp} {s₀ : St} {w₀ : World}
    (F : ∀ r ∈ rows, r.kind ≠ 2 → has done r.i = false → apartB r.mask (loudMask ls) = true →
      ∃ v, valueOf P ext all base r.i r.o lo.tmps s = some v ∧ ∀ d, r.o.dst = some d → d < x.n → evalT lo.tmps d = v)
    (hend : ls = [] → ∃ s', commitA P ext all base lo.tmps (commitsOf done 0 true rows) s = some s' ∧ Q (.normal lo) s')
    (hloud : ∀ l ls', ls = l :: ls' → ∃ s' o, commitA P ext all base lo.tmps (commitsOf done l.mask false rows) s = some s' ∧ all[l.i]? = some o ∧
      opP P ext rec all o x lo s' (fun lo s => rec (.draw all base (segsFrom rows (Nat.lor done (Nat.lor l.mask (2 ^ l.i))) (some l.i) ls') x lo) s Q) (barePan Q)) :
    ∀ (ord : List Nat) (D : Nat → Prop) (μ : Mp) (w : World) (a : Act), Pos rows D done last ls → Legal all D ord → Mid P ext all base D (fun i => has done i = true) x μ₀ s₀ w₀ μ lo s a cs w → CtxRel μ x b →
      Comes' P μ₀ s₀ w₀ Q (Lands P (lone (b.atR a (.inRegion all ord :: k)) cs w) x b k cs) := by
  intro ord
  induction ord with
  | nil =>
    intro D μ w a hpos hleg m hx
    cases ls with
    | cons l ls' =>
      obtain ⟨hl, _⟩ := hpos.loud l (by simp)
      exact absurd (hleg l.i l.o (hpl.row l hl).1) (hpos.left l (by simp))
    | nil =>
      obtain ⟨s', hcom, hq⟩ := hend rfl
      have m' := Mid.commits _ _ s s' m (commitsOf_sorted rows hpl.sorted) (fun i hi => by
        obtain ⟨r, hr, h1, h2, _, rfl⟩ := (mem_commitsOf rows i).1 hi
        obtain ⟨h3, h4⟩ := hpl.row r hr
        refine ⟨hleg r.i r.o h3, by rw [h2]; simp, fun o ho => ?_⟩
        rw [h3] at ho; cases ho
        rw [← h4]; exact h1) hcom
      exact ⟨.normal lo, s', μ, w, hq, m'.start, a, cs, ⟨⟨m'.size, fun d => m'.tmps d fun j o ho _ _ => hleg j o ho⟩, m'.defers, m'.um⟩, .refl m'.um, .one stepR_region_end⟩
  | cons i rest ihr =>
    intro D μ w a hpos hleg m hx
    obtain ⟨hnd, ⟨o, ho, hedge⟩, hleg'⟩ := hleg
    obtain ⟨r, hr, rfl, rfl, hrk⟩ := hpl.rowAt i o ho
    have hmask : ∀ j, has r.mask j = true → D j := fun j hj => by
      obtain ⟨e, he, hb, h⟩ := hpl.closed r hr j hj
      have hde := hedge e he hb
      rcases h with rfl | ⟨q, hq, hqi, hqm⟩
      · exact hde
      · exact hpos.cl q hq (by rw [hqi]; exact hde) j hqm
    have hlook : ∀ d ∈ r.o.looksAt all, VRel μ (evalT lo.tmps d) (a.tmps.getD d undef) := fun d hd => m.tmps d fun j o' ho' hdst hk2 => by
      obtain ⟨q, hq, rfl, rfl, hqk⟩ := hpl.rowAt j o' ho'
      rcases hpl.looks r hr d hd q hq hdst with h | ⟨h, _⟩
      · exact hmask _ h
      · exact absurd (hqk.symm.trans h) hk2
    have hopnd : ∀ y ∈ r.o.op.operands, VRel μ (evalA lo.tmps y) (a.eval y) := fun y hy =>
      opnd_rel m.good.vars (opsOk_mem _ hok r.o (by rw [Array.mem_toList_iff]; exact Array.mem_of_getElem? ho) y hy) fun d hd => hlook d (looksAt_tmp (by rw [← hd]; exact hy))
    have hyield : ∀ j want, r.o.guard = some (j, want) → yielded all a.tmps j = yieldedT all lo.tmps j := fun j want hg =>
      yield_rel fun d hd => hlook d (looksAt_guard hg hd)
    by_cases hk2 : kindOf P r.o.op = 2
    · -- loud
      have hmem := hpos.louds r hr (hrk.trans hk2) hnd
      cases ls with
      | nil => cases hmem
      | cons l ls' =>
      have hlast : ∀ q ∈ ls', q.i ≠ r.i := fun q hq e => by
        obtain ⟨hqr, _⟩ := hpos.loud q (by simp [hq])
        have e := hpl.same q hqr r hr e
        subst e
        rcases chained_mem ls' l.i (chained_tail hpos.chain) q hq with h | ⟨p, hp, h⟩
        · exact hpos.left l (by simp) (hmask _ h)
        · exact hpos.left p (by simp [hp]) (hmask _ h)
      have hrl : r = l := (List.mem_cons.1 hmem).resolve_right fun h => hlast r h rfl
      subst hrl
      obtain ⟨s', o', hcom, ho', hop⟩ := hloud r ls' rfl
      rw [ho] at ho'; cases ho'
      have m' := Mid.commits _ _ s s' m (commitsOf_sorted rows hpl.sorted) (fun i hi => by
        obtain ⟨q, hq, h1, h2, h5, rfl⟩ := (mem_commitsOf rows i).1 hi
        obtain ⟨h3, h4⟩ := hpl.row q hq
        refine ⟨hmask _ (h5.resolve_left (by simp)), by rw [h2]; simp, fun o ho => ?_⟩
        rw [h3] at ho; cases ho
        rw [← h4]; exact h1) hcom
      obtain ⟨s1, μ1, w1, mv, hsim⟩ := op_sim (b := b) (k := k) (rest := rest) ih hext m'.good hx ho hyield hopnd m'.defers m'.um hop
      rcases hsim with ⟨v, u, lo1, a1, cs1, hk, e1, e2, hv, hd, hu, kp, st⟩ | ⟨chain, chain', todo, hp, hch, st⟩
      · have hdone : ∀ j, has (Nat.lor done (Nat.lor r.mask (2 ^ r.i))) j = true ↔ has done j = true ∨ has r.mask j = true ∨ r.i = j := fun j => by
          simp only [has_lor, has_pow, Bool.or_eq_true, decide_eq_true_eq]
        have pos1 : Pos rows (fun j => D j ∨ j = r.i) (Nat.lor done (Nat.lor r.mask (2 ^ r.i))) (some r.i) ls' := {
          done := fun j hj => by
            rcases (hdone j).1 hj with h | h | h
            · exact .inl (hpos.done j h)
            · exact .inl (hmask j h)
            · exact .inr h.symm
          left := fun q hq h => h.elim (hpos.left q (by simp [hq])) (hlast q hq)
          louds := fun q hq h1 h2 => by
            rcases List.mem_cons.1 (hpos.louds q hq h1 fun e => h2 (.inl e)) with rfl | h
            · exact absurd (.inr rfl) h2
            · exact h
          chain := chained_tail hpos.chain
          loud := fun q hq => hpos.loud q (by simp [hq])
          cl := fun q hq h j hj => by
            rcases h with h | h
            · exact .inl (hpos.cl q hq h j hj)
            · have := hpl.same q hq r hr h
              subst this
              exact .inl (hmask j hj) }
        have first1 : ∀ q ∈ rows, q.kind ≠ 2 → firstIn (some r.i) q = true → ¬ (D q.i ∨ q.i = r.i) := fun q hq h1 h2 h => by
          rcases h with h | h
          · exact hnd (hpos.cl q hq h _ h2)
          · have := hpl.same q hq r hr h
            subst this
            exact h1 (hrk.trans hk2)
        have mid1 : Mid P ext all base (fun j => D j ∨ j = r.i) (fun i => has (Nat.lor done (Nat.lor r.mask (2 ^ r.i))) i = true) x μ₀ s₀ w₀ μ1 lo1 s1 a1 cs1 w1 := by
          refine (m'.go mv (fun i o _ h => .inl h) (fun j o' ho' hk1 hd' hc _ => ?_) (fun j o' ho' hk1 hd' hc d hd2 => ?_) ?_ (fun d hd2 => ?_) (fun d hd2 => ?_) hd hu).weaken fun j hj => ?_
          · refine hd'.resolve_right fun e => ?_
            subst e
            rw [ho] at ho'; cases ho'
            omega
          · rw [e1]
            refine evalT_put d fun hdst => ?_
            obtain ⟨q, hq, rfl, rfl, hqk⟩ := hpl.rowAt j o' ho'
            rcases hpl.looks q hq d hd2 r hr hdst with h | ⟨_, h⟩
            · exact hnd (hpos.cl q hq hd' _ h)
            · refine hc (.inr ((mem_commitsOf rows _).2 ⟨q, hq, hqk.trans hk1, ?_, .inr h, rfl⟩))
              cases hh : has done q.i with
              | false => rfl
              | true => exact absurd (.inl hh) hc
          · rw [e2, put_size]; exact m'.size
          · rw [e1, e2]
            refine put_at d m'.size (fun hne => ?_) (fun he hl => ?_) (fun hl => ?_)
            · rw [evalT_put d hne]
              refine (m'.tmps d fun j o' ho' hdst hk3 => ?_).mono mv.le
              refine (hd2 j o' ho' hdst hk3).resolve_right fun e => ?_
              subst e
              rw [ho] at ho'; cases ho'
              exact hne hdst
            · rw [he, evalT_put_same d hl]; exact hv
            · rw [evalT_put_over d hl]; exact (m'.over d hl).mono mv.le
          · rw [e1, evalT_put_over d hd2]; exact (m'.over d hd2).mono mv.le
          · rcases hj with h | h
            · exact (hdone j).2 (.inl h)
            · obtain ⟨q, hq, _, _, h5, rfl⟩ := (mem_commitsOf rows j).1 h
              exact (hdone q.i).2 (.inr (.inl (h5.resolve_left (by simp))))
        obtain ⟨out, s2, μ2, w2, q, mv2, l2⟩ := ih _ _ _ hk (fun j => D j ∨ j = r.i) _ (some r.i) ls' rows rest hpl hok rfl pos1 first1 hleg' μ₀ s₀ w₀ μ1 w1 b a1 k cs1 mid1 (hx.mono mv.le)
        exact ⟨out, s2, μ2, w2, q, mv2, (l2.steps st).keeps kp⟩
      · have hnil : lo.defers = [] ∧ Q (.panc chain lo) s1 := by
          unfold barePan at hp
          split at hp
          · exact ⟨‹_›, hp⟩
          · exact hp.elim
        exact ⟨_, s1, μ1, w1, hnil.2, m'.start.trans mv, a, cs, todo, chain', ⟨fun e => absurd hnil.1 e, m'.defers.mono fun _ _ r => r.mono mv.le, m'.um.mono mv.le⟩, .refl m'.um, hch, st⟩
    · -- calm, or making
      have hrk2 : r.kind ≠ 2 := fun e => hk2 (hrk.symm.trans e)
      have hnot : has done r.i = false := by
        cases h : has done r.i with
        | false => rfl
        | true => exact absurd (hpos.done _ h) hnd
      have hap : apartB r.mask (loudMask ls) = true := apartB_of fun j h1 h2 => by
        obtain ⟨l, hl, rfl⟩ := has_loudMask j ls h2
        exact hpos.left l hl (hmask _ h1)
      obtain ⟨v, hval, hput⟩ := F r hr hrk2 hnot hap
      have pos1 : Pos rows (fun j => D j ∨ j = r.i) done last ls := {
        done := fun j hj => .inl (hpos.done j hj)
        left := fun q hq h => by
          rcases h with h | h
          · exact hpos.left q hq h
          · have := hpl.same q (hpos.loud q hq).1 r hr h
            subst this
            exact hrk2 (hpos.loud q hq).2
        louds := fun q hq h1 h2 => hpos.louds q hq h1 fun e => h2 (.inl e)
        chain := hpos.chain
        loud := hpos.loud
        cl := fun q hq h j hj => by
          rcases h with h | h
          · exact .inl (hpos.cl q hq h j hj)
          · have := hpl.same q hq r hr h
            subst this
            exact .inl (hmask j hj) }
      have hwr := wanted_rel (t := lo.tmps) hyield
      have hdef : ∀ u, (a.put r.o.dst u).defers = a.defers := fun u => by cases r.o.dst <;> rfl
      -- whatever the step leaves, the rest follows
      have go : ∀ (μ1 : Mp) (w1 : World) (u : Value), MovedS P μ s w μ1 s w1 → VRel μ1 v u → (kindOf P r.o.op = 1 → wantedA all lo.tmps r.o = false) →
          step P (lone (b.atR a (.inRegion all (r.i :: rest) :: k)) cs w) = .next (lone (b.atR (a.put r.o.dst u) (.inRegion all rest :: k)) cs w1) →
          Comes' P μ₀ s₀ w₀ Q (Lands P (lone (b.atR a (.inRegion all (r.i :: rest) :: k)) cs w) x b k cs) := fun μ1 w1 u mv hv hmk st => by
        have mid1 : Mid P ext all base (fun j => D j ∨ j = r.i) (fun i => has done i = true) x μ₀ s₀ w₀ μ1 lo s (a.put r.o.dst u) cs w1 := by
          refine m.go mv (fun i o _ h => .inl h) (fun j o' ho' hk1 hd' hc hw => ?_) (fun _ _ _ _ _ _ _ _ => rfl) (by rw [put_size]; exact m.size) (fun d hd2 => ?_) (fun d hd2 => (m.over d hd2).mono mv.le) ?_ (m.um.mono mv.le)
          · refine hd'.resolve_right fun e => ?_
            subst e
            rw [ho] at ho'; cases ho'
            rw [hmk hk1] at hw; cases hw
          · refine put_at d m.size (fun hne => (m.tmps d fun j o' ho' hdst hk3 => ?_).mono mv.le) (fun he hl => ?_) (fun hl => (m.over d hl).mono mv.le)
            · refine (hd2 j o' ho' hdst hk3).resolve_right fun e => ?_
              subst e
              rw [ho] at ho'; cases ho'
              exact hne hdst
            · rw [hput d he hl]; exact hv
          · rw [hdef]; exact m.defers.mono fun _ _ r => r.mono mv.le
        obtain ⟨out, s2, μ2, w2, q, mv2, l2⟩ := ihr _ μ1 w1 (a.put r.o.dst u) pos1 hleg' mid1 (hx.mono mv.le)
        exact ⟨out, s2, μ2, w2, q, mv2, l2.steps (.one st)⟩
      unfold valueOf at hval
      cases hw : wantedA all lo.tmps r.o with
      | false =>
        rw [hw] at hval hwr
        simp only [Option.some.injEq] at hval
        subst hval
        refine go μ w undef (.refl m.good.sim) (.undef _) (fun _ => hw) ?_
        have := stepR_op_skip (P := P) (b := b) (a := a) (k := k) (cs := cs) (w := w) (ops := all) (i := r.i) (rest := rest) (by rw [ho]; exact hwr)
        rw [ho] at this
        exact this
      | true =>
        rw [hw] at hval hwr
        simp only at hval
        rcases kind_cases r.o.op with hk0 | hk1 | hk
        · rw [hk0] at hval
          have hval : calmOf P ext (evalA lo.tmps) r.o s = some v := hval
          unfold calmOf at hval
          split at hval
          case h_2 => cases hval
          rename_i v' s' hex
          cases hval
          obtain ⟨rfl, _⟩ := calm_same hk0 hex
          obtain ⟨μ1, w1, mv, u, hrun, hv⟩ := exec_sim hext m.good.sim (m.good.fresh _ (Nat.le_refl _)) (ρ' := a.eval) hopnd hex
          exact go μ1 w1 u mv hv (fun e => by omega) (step_value ho hwr (noDefer hk2) hrun)
        · rw [hk1] at hval
          have hval : (makeOf P ext (evalA lo.tmps) r.o (base + r.i)).map (·.1) = some v := hval
          obtain ⟨⟨v', obj⟩, hmk, rfl⟩ := map_some hval
          have hex := make_exec hk1 hmk { s with next := base + r.i } rfl
          have hs' : SimS P μ { s with next := base + r.i } w := { live := m.good.sim.live, opn := m.good.sim.opn, inj := m.good.sim.inj }
          obtain ⟨μ1, w1, mv, u, hrun, hv⟩ := exec_sim hext hs' (m.free r.i r.o ho hnd) (ρ' := a.eval) hopnd hex
          have mid1 := m.make ho hk1 hnd hw hmk mv hv hput
          obtain ⟨out, s2, μ2, w2, q, mv2, l2⟩ := ihr _ μ1 w1 (a.put r.o.dst u) pos1 hleg' mid1 (hx.mono mv.le)
          exact ⟨out, s2, μ2, w2, q, mv2, l2.steps (.one (step_value ho hwr (noDefer hk2) hrun))⟩
        · exact absurd hk hk2

theorem someP_some {α : Type} {o : Option α} {f : α → Prop} (h : someP o f) : ∃ y, o = some y ∧ f y := by
  cases o with
  | none => exact h.elim
  | some y => exact ⟨y, rfl, h⟩

theorem conc_draw (ih : ∀ t s Q, rec t s Q → Conc P ext t s Q) (hext : ExtOk P ext) {segs : List Seg} (h : drawP P ext rec all base segs x lo s Q) : Conc P ext (.draw all base segs x lo) s Q := by
  intro D done last ls rows ord hpl hok hsegs hpos hfirst hleg μ₀ s₀ w₀ μ w b a k cs m hx
  -- the head segment
  have hseg : ∃ com lo? rest, segs = { evs := evsOf done (loudMask ls) last rows, commits := com, loud := lo? } :: rest ∧
      (ls = [] → com = commitsOf done 0 true rows ∧ lo? = none) ∧
      ∀ l ls', ls = l :: ls' → com = commitsOf done l.mask false rows ∧ lo? = some l.i ∧ rest = segsFrom rows (Nat.lor done (Nat.lor l.mask (2 ^ l.i))) (some l.i) ls' := by
    subst hsegs
    cases ls with
    | nil => exact ⟨_, _, _, rfl, fun _ => ⟨rfl, rfl⟩, fun l ls' e => by cases e⟩
    | cons l ls => exact ⟨_, _, _, rfl, (fun e => by cases e), fun l ls' e => (by cases e; exact ⟨rfl, rfl, rfl⟩)⟩
  obtain ⟨com, lo?, rest, rfl, hnil, hcons⟩ := hseg
  have h : evsP P ext all base x.n (evsOf done (loudMask ls) last rows) lo.tmps s fun t => someP (commitA P ext all base t com s) fun s => segP P ext rec all base lo? rest x { lo with tmps := t } s Q := h
  obtain ⟨t, hkt, hkeep, hover, hfacts⟩ := evsP_spec _ _ _ (evsOf_sorted rows hpl.sorted) (fun p hp q hq hle o o' ho ho' => by
    obtain ⟨r, hr, h1, _, _, rfl⟩ := (mem_evsOf rows p).1 hp
    obtain ⟨r', hr', h1', _, _, rfl⟩ := (mem_evsOf rows q).1 hq
    simp only at hle ho ho'
    rw [(hpl.row r hr).1] at ho; cases ho
    rw [(hpl.row r' hr').1] at ho'; cases ho'
    refine ⟨fun d hd hl => ?_, fun hne d hd hd' => ?_⟩
    · rcases hpl.looks r hr d hl r' hr' hd with e | ⟨e, _⟩
      · have := hpl.below r hr _ e; omega
      · exact h1' e
    · exact h1 (hpl.alone r hr r' hr' hne d hd hd').1) h
  obtain ⟨s', hcom, hk⟩ := someP_some hkt
  clear hkt
  have F : ∀ r ∈ rows, r.kind ≠ 2 → has done r.i = false → apartB r.mask (loudMask ls) = true →
      ∃ v, valueOf P ext all base r.i r.o t s = some v ∧ ∀ d, r.o.dst = some d → d < x.n → evalT t d = v := fun r hr h1 h2 h3 => by
    obtain ⟨o, v, ho, hv, hd⟩ := hfacts _ ((mem_evsOf rows _).2 ⟨r, hr, h1, h2, h3, rfl⟩)
    simp only at ho hv
    rw [(hpl.row r hr).1] at ho; cases ho
    exact ⟨v, hv, hd⟩
  -- what the first looks write has not been done
  have hnew : ∀ p ∈ evsOf done (loudMask ls) last rows, p.2 = true → ∀ o, all[p.1]? = some o → kindOf P o.op ≠ 2 ∧ ¬ D p.1 := fun p hp hf o ho => by
    obtain ⟨r, hr, h1, _, _, rfl⟩ := (mem_evsOf rows p).1 hp
    simp only at ho hf ⊢
    obtain ⟨k1, k2⟩ := hpl.row r hr
    rw [k1] at ho; cases ho
    exact ⟨fun e => h1 (k2.trans e), hfirst r hr h1 hf⟩
  have m1 : Mid P ext all base D (fun i => has done i = true) x μ₀ s₀ w₀ μ { lo with tmps := t } s a cs w := by
    refine m.go (.refl m.good.sim) (fun _ _ _ h => h) (fun _ _ _ _ h _ _ => h) (fun j o ho hk1 hd hc d hl => ?_) m.size (fun d hd => ?_) (fun d hd => ?_) m.defers m.um
    · refine hkeep d fun p hp hf o' ho' hdst => ?_
      obtain ⟨r, hr, h1, _, _, rfl⟩ := (mem_evsOf rows p).1 hp
      simp only at ho' hf
      obtain ⟨k1, k2⟩ := hpl.row r hr
      rw [k1] at ho'; cases ho'
      obtain ⟨q, hq, rfl, rfl, hqk⟩ := hpl.rowAt j o ho
      rcases hpl.looks q hq d hl r hr hdst with e | ⟨e, _⟩
      · exact hfirst r hr h1 hf (hpos.cl q hq hd _ e)
      · exact h1 e
    · have : evalT t d = evalT lo.tmps d := hkeep d fun p hp hf o' ho' hdst => by
        obtain ⟨k1, k2⟩ := hnew p hp hf o' ho'
        exact k2 (hd _ o' ho' hdst k1)
      show VRel μ (evalT t d) _
      rw [this]
      exact m.tmps d hd
    · show VRel μ (evalT t d) _
      rw [hover d hd]; exact m.over d hd
  refine draw_mid (lo := { lo with tmps := t }) ih hext hpl hok F (fun e => ?_) (fun l ls' e => ?_) ord D μ w a hpos hleg m1 hx
  · obtain ⟨rfl, rfl⟩ := hnil e
    exact ⟨s', hcom, hk⟩
  · obtain ⟨rfl, rfl, rfl⟩ := hcons l ls' e
    obtain ⟨o, ho, hop⟩ := someP_some (show someP (all[l.i]?) fun o => opP P ext rec all o x { lo with tmps := t } s' (fun lo s => rec (.draw all base (segsFrom rows (Nat.lor done (Nat.lor l.mask (2 ^ l.i))) (some l.i) ls') x lo) s Q) (barePan Q) from hk)
    exact ⟨s', o, hcom, ho, hop⟩

theorem leftOf_le (n : Nat) (listed : Array Bool) : leftOf n listed ≤ n := by
  unfold leftOf
  refine Nat.le_trans (List.length_filter_le _ _) ?_
  simp

theorem conc_region_draw (hm : P.follows .mixedOrders = true) (ih : ∀ t s Q, rec t s Q → Conc P ext t s Q) {id : Nat} {ops : Array Oper}
    (h : someP (drawPlan P ops) fun segs => rec (.draw ops s.next segs x lo) { s with next := s.next + ops.size } Q) : Conc P ext (.code (.region id ops true) x lo) s Q := by
  intro hok μ w b a k cs i g hx hl hi
  rcases hi with rfl | ⟨d, e, _⟩
  case inr => cases e
  simp only [codeOk] at hok
  obtain ⟨segs, hplan, hrec⟩ := someP_some h
  unfold drawPlan planFor at hplan
  split at hplan
  case h_2 => cases hplan
  rename_i hrows
  cases hplan
  obtain ⟨hr1, hr2⟩ := andB_true.1 hrows
  have hpl := planned_of hr1 hr2
  let w' : World := { w with drawn := w.drawn + 1 }
  have mv0 : MovedS P μ s w μ s w' := Moved.drew g.sim rfl rfl rfl rfl
  have hgood : Good P μ { s with next := s.next + ops.size } w' := ⟨{ live := mv0.sim.live, opn := mv0.sim.opn, inj := mv0.sim.inj }, fun i hi => g.fresh i (Nat.le_trans (Nat.le_add_right _ _) hi), g.globals⟩
  have hstart : MovedS P μ s w μ { s with next := s.next + ops.size } w' :=
    { mv0 with sim := hgood.sim, next := Nat.le_add_right _ _, fresh := fun i b e => .inl e }
  have mid : Mid P ext ops s.next (fun _ => False) (fun i => has 0 i = true) x μ s w μ lo { s with next := s.next + ops.size } a cs w' := {
    good := hgood
    start := hstart
    low := Nat.le_refl _
    room := Nat.le_refl _
    size := hl.tmps.1
    tmps := fun d _ => hl.tmps.2 d
    over := fun d hd => by
      have := hl.tmps.2 d
      rw [Array.getD_eq_getD_getElem?, Array.getElem?_eq_none (by rw [hl.tmps.1]; exact hd)] at this
      exact this
    defers := hl.defers
    um := hl.um
    free := fun i _ _ _ => g.fresh _ (Nat.le_add_right _ _)
    pend := fun _ _ _ _ h => h.elim
    apart := fun _ _ _ _ _ _ _ _ _ _ h => h.elim }
  have hzero : ∀ j, has 0 j = false := fun j => by rw [has_eq]; simp
  have pos : Pos (rowsFrom P 0 [] ops.toList) (fun _ => False) 0 none (loudsOf (rowsFrom P 0 [] ops.toList)) := {
    done := fun j h => by rw [hzero] at h; cases h
    left := fun _ _ h => h
    louds := fun r hr h _ => (mem_loudsOf _ r).2 ⟨hr, h⟩
    chain := hpl.chain
    loud := fun r hr => (mem_loudsOf _ r).1 hr
    cl := fun _ _ h => h.elim }
  have legal : ∀ t, Legal ops (fun _ => False) (Region.schedule (P.follows .mixedOrders) ops t) := fun t => by
    simp only [Region.schedule, hm, Bool.true_or, if_true]
    refine Legal.congr _ _ _ (fun j => ?_) (go_legal (fun i o ho e he hb => ?_) ops.size t (Array.replicate ops.size false) (by simp) (leftOf_le _ _))
    · simp only [iff_false, Array.getD_eq_getD_getElem?, Array.getElem?_replicate]
      split <;> simp
    · obtain ⟨r, hr, rfl, rfl, _⟩ := hpl.rowAt i o ho
      exact hpl.edges r hr e he hb
  obtain ⟨out, s2, μ2, w2, q, mv2, l2⟩ := ih _ _ _ hrec (fun _ => False) 0 none _ _ _ hpl hok rfl pos (fun _ _ _ _ h => h) (legal _) μ s w μ w' b a k cs mid hx
  exact ⟨out, s2, μ2, w2, q, mv2, l2.steps (.one stepR_region_draw)⟩

end
end Go.Ab

/- The calculus is sound. Conditions: the program follows every departure in its orders. -/
namespace Go.Ab

variable {P : Program} {ext : Ext} {oks : FuncId → Bool} {pr : Prims}

def OksOk (P : Program) (oks : FuncId → Bool) : Prop := ∀ f fn body, oks f = true → P.funcs[f]? = some fn → fn.body = some body → codeOk P body = true

theorem cond_rel {c : Operand} {lo : Lo} {n : Nat} {t : Bool} (hok : opndOk P c = true) (hc : evalA lo.tmps c = .bool t) (μ : Mp) (a : Act) (h : TRel μ lo.tmps n a.tmps) : VRel μ (evalA lo.tmps c) (a.eval c) := by
  cases c with
  | tmp d => exact h.2 d
  | const v => exact constOk_rel μ hok
  | global g => cases hc
  | func f => cases hc

theorem step_conc (hm : P.follows .mixedOrders = true) (hext : ExtOk P ext) (hpr : PrimsOk P pr) (hoks : OksOk P oks) {rec : Rec} (ih : ∀ t s Q, rec t s Q → Conc P ext t s Q) :
    ∀ t s Q, stepP P ext oks pr rec t s Q → Conc P ext t s Q := by
  intro t s Q h
  cases t with
  | code c x lo =>
    have h : codeP P ext rec c x lo s Q := h
    cases c with
    | skip => exact conc_skip h
    | label l => exact conc_label h
    | region id ops draw =>
      cases draw with
      | false => exact conc_region ih h
      | true => exact conc_region_draw hm ih h
    | seq a b => exact conc_seq ih h
    | cond c a b =>
      intro hok
      have ok1 : opndOk P c = true := by
        have := hok
        simp only [codeOk] at this
        exact (andB_true.1 this).1
      have h : condP rec (evalA lo.tmps c) a b x lo s Q := h
      unfold condP at h
      split at h
      · rename_i t ht
        refine conc_cond (t := t) ih ht ?_ (cond_rel ok1 ht) hok
        cases t <;> exact h
      · exact h.elim
    | block id c => exact conc_block ih h
    | loop c => exact conc_loop ih h
    | rangeFunc f params assign body => exact conc_rangeFunc hext ih h
    | exit id => exact conc_exit h
    | goto l => exact conc_goto h
    | scope c => exact conc_scope_code ih h
    | ret => exact conc_ret h
    | refuse m => exact False.elim h
  | scope body cur x lo => exact conc_scope ih h
  | ops all l x lo => exact conc_ops ih hext h
  | draw all base segs x lo => exact conc_draw ih hext h
  | call f args d um => exact conc_call hpr hoks ih h
  | round l args => exact conc_round ih h
  | leave fn x lo mode => exact conc_leave hext ih h

theorem must_conc (hm : P.follows .mixedOrders = true) (hext : ExtOk P ext) (hpr : PrimsOk P pr) (hoks : OksOk P oks) : ∀ (n : Nat) (t : Task) (s : St) (Q : Post), must P ext oks pr n t s Q → Conc P ext t s Q
  | 0, _, _, _, h => h.elim
  | n + 1, t, s, Q, h => step_conc hm hext hpr hoks (must_conc hm hext hpr hoks n) t s Q h

/-- How a call's outcome stands for an ending. -/
def OutRel (μ : Mp) : Out → Ending → Prop
  | .ret v _, .returned u => VRel μ v u
  | .pan c _, .panicked d => All2 (PRel μ) c d
  | _, _ => False

theorem must_calls (hm : P.follows .mixedOrders = true) (hext : ExtOk P ext) (hpr : PrimsOk P pr) (hoks : OksOk P oks) {n : Nat} {f : FuncId} {args : List Value} {um : FrameMode} {s : St} {Q : Post}
    (h : must P ext oks pr n (.call f args false um) s Q) {μ : Mp} {w : World} {cargs : Array Value} (g : Good P μ s w) (ha : LRel μ args cargs.toList) :
    Calls P f cargs w fun e w' => ∃ o s' μ', Q o s' ∧ MovedS P μ s w μ' s' w' ∧ OutRel μ' o e := by
  intro cs
  obtain ⟨o, s', μ', w', q, mv, en⟩ := must_conc hm hext hpr hoks n _ s Q h μ w cargs cs g ha (fun e => by cases e)
  cases o with
  | ret v um =>
    obtain ⟨fr, cs', u, hv, _, kp, hfn, hk, hgo, st⟩ := en
    have kp : cs' = cs := kp
    subst kp
    exact ⟨.returned u, w', fr, ⟨_, s', μ', q, mv, hv⟩, st, hfn, going_leaving hk hgo⟩
  | pan c um =>
    obtain ⟨fr, cs', d, hv, _, kp, hfn, hk, hgo, st⟩ := en
    have kp : cs' = cs := kp
    subst kp
    exact ⟨.panicked d, w', fr, ⟨_, s', μ', q, mv, hv⟩, st, hfn, hgo⟩
  | _ => exact en.elim

/-- Memory of which nothing is known. -/
def Mp.start (P : Program) : Mp := fun i => if i < (P.globals.size + 1) then some ⟨i, 0, none⟩ else none

theorem good_start (w : World) (nx : Nat) (h : (P.globals.size + 1) ≤ nx) : Good P (Mp.start P) { heap := .nil, next := nx } w where
  sim := {
    live := fun i o h => by simp at h
    opn := fun i b t z n h1 h2 => by
      unfold Mp.start at h1
      split at h1
      · cases h1; cases h2
      · cases h1
    inj := fun i j o q b c h => by simp at h }
  fresh := fun i hi => by
    unfold Mp.start
    rw [if_neg]
    have : nx ≤ i := hi
    omega
  globals := fun g hg => by unfold Mp.start; rw [if_pos hg]

/-- A contract of the library's kind serves as a prim: it computes a value out of plain values, and leaves the world. -/
theorem prim_of_calls {f : FuncId} {args : List Value} {cargs : Array Value} {v : Value} {s : St} {μ : Mp} {w : World} {K : Value → St → Prop} (hk : K v s) (g : Good P μ s w)
    (hc : Calls P f cargs w fun e w' => ∃ u, e = .returned u ∧ VRel μ v u ∧ w' = w) (cs : List Frame) :
    ∃ v s' μ' w', K v s' ∧ MovedS P μ s w μ' s' w' ∧ ∃ u fr, VRel μ' v u ∧ fr.fn = f ∧ fr.kind = .normal ∧ fr.going P w' (.returned u) ∧ Steps P (lone (Frame.enter P f cargs .normal) cs w) (lone fr cs w') := by
  obtain ⟨e, w', fr, ⟨u, rfl, hv, rfl⟩, st, hfn, hl⟩ := hc cs
  exact ⟨v, s, μ, w', hk, .refl g.sim, u, fr, hv, hfn, hl.2.2.1, ⟨hl.1, hl.2.1, hl.2.2.2⟩, st⟩

end Go.Ab

/- Contracts found by running: calls of plain values, and calls over known blocks, as prims. Conditions: as said. -/
namespace Go.Ab
noncomputable section

variable {P : Program} {ext : Ext} {oks : FuncId → Bool} {pr : Prims}

/-! ### Plain values -/

def plainB : Value → Bool
  | .agg cs => allPlain cs.toList
  | v => plainV v

def allB : List Value → Bool
  | [] => true
  | v :: vs => andB (plainB v) (allB vs)

def plainA : Value → Bool
  | .tuple cs => allB cs.toList
  | v => plainB v

def plainAll : List Value → Bool
  | [] => true
  | v :: vs => andB (plainA v) (plainAll vs)

theorem plain_slice {l k : Nat} (h : plainV (.slice none l k) = true) : l = 0 ∧ k = 0 := by
  cases l <;> cases k <;> first | exact ⟨rfl, rfl⟩ | cases h

theorem plainV_same {μ : Mp} {v u : Value} (h : plainV v = true) (hr : VRel μ v u) : u = v := by
  cases hr with
  | sliceNil l c hl =>
    obtain ⟨h1, h2⟩ := plain_slice h
    have : c = 0 := by omega
    subst h1 this
    rfl
  | bool b => rfl
  | int k n => rfl
  | string s => rfl
  | ptrNil => rfl
  | mapNil => rfl
  | chanNil => rfl
  | nilFunc => rfl
  | nilIface => rfl
  | ptr _ => simp [plainV] at h
  | slice _ _ _ _ => simp [plainV] at h
  | «open» _ _ _ _ _ _ _ _ _ _ _ _ _ => simp [plainV] at h
  | map _ _ _ => simp [plainV] at h
  | func _ _ _ _ _ => simp [plainV] at h
  | iface _ _ => simp [plainV] at h
  | agg _ _ => simp [plainV] at h
  | tuple _ _ => simp [plainV] at h

theorem allPlain_same {μ : Mp} : ∀ {l m : List Value}, allPlain l = true → LRel μ l m → m = l := by
  intro l m h hr
  induction hr with
  | nil => rfl
  | @cons v u vs us hv hr ih =>
    simp only [allPlain] at h
    cases hp : plainV v with
    | false => rw [hp] at h; cases h
    | true =>
      rw [hp] at h
      rw [plainV_same hp hv, ih h]

theorem plainB_same {μ : Mp} {v u : Value} (h : plainB v = true) (hr : VRel μ v u) : u = v := by
  cases hr with
  | @agg xs ys s i =>
    have := allPlain_same (μ := μ) h (LRel.of_arrays s i)
    rw [Array.ext' this]
  | sliceNil l c hl => exact plainV_same (μ := μ) h (.sliceNil l c hl)
  | bool b => rfl
  | int k n => rfl
  | string s => rfl
  | ptrNil => rfl
  | mapNil => rfl
  | chanNil => rfl
  | nilFunc => rfl
  | nilIface => rfl
  | tuple _ _ => simp [plainB, plainV] at h
  | ptr _ => simp [plainB, plainV] at h
  | slice _ _ _ _ => simp [plainB, plainV] at h
  | «open» _ _ _ _ _ _ _ _ _ _ _ _ _ => simp [plainB, plainV] at h
  | map _ _ _ => simp [plainB, plainV] at h
  | func _ _ _ _ _ => simp [plainB, plainV] at h
  | iface _ _ => simp [plainB, plainV] at h

theorem plainB_rel (μ : Mp) {v : Value} (h : plainB v = true) : VRel μ v v := by
  unfold plainB at h
  split at h
  · exact .aggL (allPlain_rel μ _ h)
  · exact plainV_rel μ h

theorem allB_same {μ : Mp} : ∀ {l m : List Value}, allB l = true → LRel μ l m → m = l := by
  intro l m h hr
  induction hr with
  | nil => rfl
  | @cons v u vs us hv hr ih =>
    simp only [allB] at h
    obtain ⟨h1, h2⟩ := andB_true.1 h
    rw [plainB_same h1 hv, ih h2]

theorem allB_rel (μ : Mp) : ∀ {l : List Value}, allB l = true → LRel μ l l
  | [], _ => .nil
  | v :: vs, h => by
    simp only [allB] at h
    obtain ⟨h1, h2⟩ := andB_true.1 h
    exact .cons (plainB_rel μ h1) (allB_rel μ h2)

theorem plainA_same {μ : Mp} {v u : Value} (h : plainA v = true) (hr : VRel μ v u) : u = v := by
  cases hr with
  | @tuple xs ys s i =>
    have := allB_same (μ := μ) h (LRel.of_arrays s i)
    rw [Array.ext' this]
  | agg s i => exact plainB_same h (.agg s i)
  | sliceNil l c hl => exact plainB_same (μ := μ) h (.sliceNil l c hl)
  | bool b => rfl
  | int k n => rfl
  | string s => rfl
  | ptrNil => rfl
  | mapNil => rfl
  | chanNil => rfl
  | nilFunc => rfl
  | nilIface => rfl
  | ptr _ => simp [plainA, plainB, plainV] at h
  | slice _ _ _ _ => simp [plainA, plainB, plainV] at h
  | «open» _ _ _ _ _ _ _ _ _ _ _ _ _ => simp [plainA, plainB, plainV] at h
  | map _ _ _ => simp [plainA, plainB, plainV] at h
  | func _ _ _ _ _ => simp [plainA, plainB, plainV] at h
  | iface _ _ => simp [plainA, plainB, plainV] at h

theorem plainA_rel (μ : Mp) {v : Value} (h : plainA v = true) : VRel μ v v := by
  unfold plainA at h
  split at h
  · exact .tupleL (allB_rel μ h)
  · exact plainB_rel μ h

theorem plainAll_same {μ : Mp} : ∀ {l m : List Value}, plainAll l = true → LRel μ l m → m = l := by
  intro l m h hr
  induction hr with
  | nil => rfl
  | @cons v u vs us hv hr ih =>
    simp only [plainAll] at h
    obtain ⟨h1, h2⟩ := andB_true.1 h
    rw [plainA_same h1 hv, ih h2]

theorem plainAll_rel (μ : Mp) : ∀ {l : List Value}, plainAll l = true → LRel μ l l
  | [], _ => .nil
  | v :: vs, h => by
    simp only [plainAll] at h
    obtain ⟨h1, h2⟩ := andB_true.1 h
    exact .cons (plainA_rel μ h1) (plainAll_rel μ h2)

/-! ### Known blocks -/

def eqEs : List MapEntry → List MapEntry → Bool
  | [], [] => true
  | e :: es, f :: fs => andB (eqV e.key f.key) (andB (eqV e.val f.val) (andB (Nat.beq e.born f.born) (eqEs es fs)))
  | _, _ => false

theorem eqEs_sound : ∀ (es fs : List MapEntry), eqEs es fs = true → es = fs
  | [], [], _ => rfl
  | [], _ :: _, h => by cases h
  | _ :: _, [], h => by cases h
  | e :: es, f :: fs, h => by
    simp only [eqEs] at h
    obtain ⟨h1, h⟩ := andB_true.1 h
    obtain ⟨h2, h⟩ := andB_true.1 h
    obtain ⟨h3, h4⟩ := andB_true.1 h
    obtain ⟨k, v, b⟩ := e
    obtain ⟨k', v', b'⟩ := f
    have h1 := eqV_sound h1
    have h2 := eqV_sound h2
    have h3 := Nat.eq_of_beq_eq_true h3
    simp only at h1 h2 h3
    rw [h1, h2, h3, eqEs_sound es fs h4]

def eqObj : AObj → AObj → Bool
  | .cells vs e, .cells us f => andB (Nat.beq e f) (eqVs eqV vs us)
  | .map es c, .map fs d => andB (Nat.beq c d) (eqEs es fs)
  | _, _ => false

theorem eqObj_sound {o p : AObj} (h : eqObj o p = true) : o = p := by
  unfold eqObj at h
  split at h
  · obtain ⟨h1, h2⟩ := andB_true.1 h
    rw [Nat.eq_of_beq_eq_true h1, eqVs_sound (fun v w h => eqV_sound h) _ _ h2]
  · obtain ⟨h1, h2⟩ := andB_true.1 h
    rw [Nat.eq_of_beq_eq_true h1, eqEs_sound _ _ h2]
  · cases h

abbrev Known := List (Nat × AObj)

def lookK : Known → Nat → Option AObj
  | [], _ => none
  | (j, o) :: l, i => match Nat.beq i j with
    | true => some o
    | false => lookK l i

/-- Memory that holds these blocks and no others. -/
noncomputable def heapK : Known → Tr AObj
  | [] => .nil
  | (j, o) :: l => (heapK l).set j (some o)

theorem heapK_get : ∀ (l : Known) (i : Nat), (heapK l).get i = lookK l i
  | [], i => rfl
  | (j, o) :: l, i => by
    simp only [heapK, lookK, Tr.get_set, heapK_get l i]
    cases h : Nat.beq i j with
    | true => rw [if_pos (Nat.eq_of_beq_eq_true h)]
    | false =>
      rw [if_neg]
      intro e
      rw [e, Nat.beq_refl] at h
      cases h

theorem lookK_mem : ∀ (l : Known) (i : Nat) (o : AObj), lookK l i = some o → (i, o) ∈ l
  | [], i, o, h => by cases h
  | (j, p) :: l, i, o, h => by
    simp only [lookK] at h
    split at h
    · rename_i e
      cases h
      rw [Nat.eq_of_beq_eq_true e]
      simp
    · exact List.mem_cons_of_mem _ (lookK_mem l i o h)

/-- Memory holds these blocks. -/
def holdsK (s : St) : Known → Bool
  | [] => true
  | (i, o) :: l => match s.heap.get i with
    | some p => andB (eqObj p o) (holdsK s l)
    | none => false

theorem holdsK_mem {s : St} : ∀ (l : Known), holdsK s l = true → ∀ i o, (i, o) ∈ l → s.heap.get i = some o
  | [], _, i, o, h => by cases h
  | (j, p) :: l, h, i, o, hm => by
    simp only [holdsK] at h
    split at h
    case h_2 => cases h
    rename_i q hq
    obtain ⟨h1, h2⟩ := andB_true.1 h
    rcases List.mem_cons.1 hm with e | hm
    · cases e
      rw [hq, eqObj_sound h1]
    · exact holdsK_mem l h2 i o hm

def plainObj : AObj → Bool
  | .cells vs _ => allPlain vs
  | _ => false
def plainK : Known → Bool
  | [] => true
  | (_, o) :: l => andB (plainObj o) (plainK l)
theorem plainK_mem : ∀ (l : Known), plainK l = true → ∀ i o, (i, o) ∈ l → plainObj o = true
  | [], _, i, o, h => by cases h
  | (j, p) :: l, h, i, o, hm => by
    simp only [plainK] at h
    obtain ⟨h1, h2⟩ := andB_true.1 h
    rcases List.mem_cons.1 hm with e | hm
    · cases e; exact h1
    · exact plainK_mem l h2 i o hm

theorem plainObj_rel {μ ν : Mp} {b : Blk} {o : AObj} {p : Obj} (h : plainObj o = true) (hr : ORel μ b o p) : ORel ν b o p := by
  cases hr with
  | @cells vs e cs fr h1 h2 h3 h4 =>
    have hp : ∀ (vs : List Value), allPlain vs = true → ∀ (j : Nat) (v : Value), vs[j]? = some v → plainV v = true := fun vs => by
      induction vs with
      | nil => intro _ j v hj; simp at hj
      | cons x xs ih =>
        intro h j v hj
        simp only [allPlain] at h
        cases hx : plainV x with
        | false => rw [hx] at h; cases h
        | true =>
          rw [hx] at h
          cases j with
          | zero => simp at hj; subst hj; exact hx
          | succ j => exact ih h j v (by simpa using hj)
    refine .cells (fun j v hj => ?_) h2 h3 h4
    obtain ⟨u, k1, k2⟩ := h1 j v hj
    have hv := hp vs h j v hj
    have := plainV_same hv k2
    subst this
    exact ⟨_, k1, plainV_rel ν hv⟩
  | _ => cases h

/-! ### Frames -/

/-- What a part's run leaves of the whole: each block of the whole is as it was, or as the part has it. -/
theorem frame_live {μ ν ν' : Mp} {s sm sm' : St} {w w' : World} (g : Good P μ s w) (gm : SimS P ν sm w) (hle : ν.le μ) (hsub : ∀ i o, sm.heap.get i = some o → s.heap.get i = some o)
    (mv : MovedS P ν sm w ν' sm' w') (hsame : ∀ i o, sm.heap.get i = some o → sm'.heap.get i = some o) {i : Nat} {o : AObj} (hi : s.heap.get i = some o) :
    ∃ b p, μ i = some b ∧ w'.heap[b.block]? = some p ∧ (ORel μ b o p ∨ (sm.heap.get i = some o ∧ ν' i = some b ∧ ORel ν' b o p)) := by
  obtain ⟨b, p, h1, h2, h3⟩ := g.sim.live i o hi
  have hlt : b.block < w.heap.size := (Array.getElem?_eq_some_iff.1 h2).1
  cases hm : sm.heap.get i with
  | some q =>
    have e := hsub i q hm
    rw [hi] at e; cases e
    obtain ⟨c, p', k1, k2, k3⟩ := mv.sim.live i o (hsame i o hm)
    obtain ⟨c0, _, j1, _⟩ := gm.live i o hm
    have e1 := hle _ _ j1
    rw [h1] at e1; cases e1
    have e2 := mv.le _ _ j1
    rw [k1] at e2; cases e2
    exact ⟨_, p', h1, k2, .inr ⟨rfl, k1, k3⟩⟩
  | none =>
    refine ⟨b, p, h1, ?_, .inl h3⟩
    rw [mv.kept _ hlt]
    · exact h2
    · intro j q c hj hc e
      have hne : j ≠ i := fun x => by subst x; rw [hm] at hj; cases hj
      exact hne (g.sim.inj j i q o c b (hsub j q hj) hi (hle _ _ hc) h1 e)

theorem frame_kept {μ ν ν' : Mp} {s sm sm' : St} {w w' : World} (hle : ν.le μ) (hsub : ∀ i o, sm.heap.get i = some o → s.heap.get i = some o) (mv : MovedS P ν sm w ν' sm' w') :
    ∀ k, k < w.heap.size → (∀ i o b, s.heap.get i = some o → μ i = some b → b.block ≠ k) → w'.heap[k]? = w.heap[k]? :=
  fun k hk hn => mv.kept k hk fun i o b hi hb => hn i o b (hsub i o hi) (hle _ _ hb)

/-- A part of plain blocks: the whole is as it was. -/
theorem frame_pure {μ ν ν' : Mp} {s sm sm' : St} {w w' : World} (g : Good P μ s w) (gm : SimS P ν sm w) (hle : ν.le μ) (hsub : ∀ i o, sm.heap.get i = some o → s.heap.get i = some o)
    (mv : MovedS P ν sm w ν' sm' w') (hsame : ∀ i o, sm.heap.get i = some o → sm'.heap.get i = some o) (hplain : ∀ i o, sm.heap.get i = some o → plainObj o = true) :
    MovedS P μ s w μ s w' where
  le := μ.le_refl
  sim := {
    opn := g.sim.opn
    inj := g.sim.inj
    live := fun i o hi => by
      obtain ⟨b, p, h1, h2, h3⟩ := frame_live g gm hle hsub mv hsame hi
      refine ⟨b, p, h1, h2, ?_⟩
      rcases h3 with h3 | ⟨h3, _, h4⟩
      · exact h3
      · exact plainObj_rel (hplain i o h3) h4 }
  next := Nat.le_refl _
  fresh := fun _ _ e => .inl e
  size := mv.size
  kept := frame_kept hle hsub mv
  own := fun i o b h1 h2 => .inr ⟨i, o, b, h1, h2, rfl⟩
  shape := mv.shape
  os := mv.os
  tape := mv.tape
  output := mv.output

/-- The map of names, the program's own variables alone. -/
def Mp.globs (P : Program) (μ : Mp) : Mp := fun i => if i < (P.globals.size + 1) then μ i else none

theorem Mp.globs_le (μ : Mp) : (Mp.globs P μ).le μ := fun i b h => by
  unfold Mp.globs at h
  split at h
  · exact h
  · cases h

theorem good_part {μ : Mp} {s : St} {w : World} (g : Good P μ s w) {pre : Known} (hpre : ∀ i o, lookK pre i = some o → s.heap.get i = some o) (hglob : ∀ i o, lookK pre i = some o → i < (P.globals.size + 1))
    (hplain : ∀ i o, lookK pre i = some o → plainObj o = true) : Good P (Mp.globs P μ) { heap := heapK pre, next := (P.globals.size + 1) } w where
  sim := {
    live := fun i o hi => by
      have hi : (heapK pre).get i = some o := hi
      rw [heapK_get] at hi
      obtain ⟨b, p, h1, h2, h3⟩ := g.sim.live i o (hpre i o hi)
      have hlt := hglob i o hi
      refine ⟨b, p, by unfold Mp.globs; rw [if_pos hlt]; exact h1, h2, ?_⟩
      exact plainObj_rel (hplain i o hi) h3
    opn := fun i b t z n h1 h2 => g.sim.opn i b t z n (Mp.globs_le μ i b h1) h2
    inj := fun i j o q b c hi hj hb hc e => by
      have hi : (heapK pre).get i = some o := hi
      have hj : (heapK pre).get j = some q := hj
      rw [heapK_get] at hi hj
      exact g.sim.inj i j o q b c (hpre i o hi) (hpre j q hj) (Mp.globs_le μ i _ hb) (Mp.globs_le μ j _ hc) e }
  fresh := fun i hi => by
    have hi : (P.globals.size + 1) ≤ i := hi
    unfold Mp.globs
    rw [if_neg (by omega)]
  globals := fun k hk => by unfold Mp.globs; rw [if_pos hk]; exact g.globals k hk


/-! ### Calls of plain values -/

abbrev Tab := List (List Value × Value)

def tabOk : Tab → Bool
  | [] => true
  | (args, v) :: tab => andB (plainAll args) (andB (plainA v) (tabOk tab))

def retOk (v : Value) (pre : Known) (o : Out) (s : St) : Bool := match o with
  | .ret u _ => andB (eqV u v) (holdsK s pre)
  | _ => false

/-- The runs of a table, one behind the other. -/
def chain (P : Program) (ext : Ext) (oks : FuncId → Bool) (pr : Prims) (n : Nat) (f : FuncId) (pre : Known) : Tab → Prop
  | [] => true = true
  | (args, v) :: tab => must P ext oks pr n (.call f args false .run) { heap := heapK pre, next := (P.globals.size + 1) } fun o s => match retOk v pre o s with
    | true => chain P ext oks pr n f pre tab
    | false => False

def knownOk (P : Program) : Known → Bool
  | [] => true
  | (i, o) :: l => andB (Nat.blt i (P.globals.size + 1)) (andB (plainObj o) (knownOk P l))

theorem knownOk_mem : ∀ (l : Known), knownOk P l = true → ∀ i o, (i, o) ∈ l → i < (P.globals.size + 1) ∧ plainObj o = true
  | [], _, i, o, h => by cases h
  | (j, p) :: l, h, i, o, hm => by
    simp only [knownOk] at h
    obtain ⟨h1, h⟩ := andB_true.1 h
    obtain ⟨h2, h3⟩ := andB_true.1 h
    rcases List.mem_cons.1 hm with e | hm
    · cases e; exact ⟨by simpa using h1, h2⟩
    · exact knownOk_mem l h3 i o hm

structure Sound (P : Program) (ext : Ext) (oks : FuncId → Bool) (pr : Prims) : Prop where
  orders : P.follows .mixedOrders = true
  ext : ExtOk P ext
  prims : PrimsOk P pr
  oks : OksOk P oks

theorem call_part (S : Sound P ext oks pr) {n : Nat} {f : FuncId} {args : List Value} {v : Value} {pre : Known} {K : Prop}
    (h : must P ext oks pr n (.call f args false .run) { heap := heapK pre, next := (P.globals.size + 1) } fun o s => match retOk v pre o s with | true => K | false => False)
    (hk : knownOk P pre = true) (ha : plainAll args = true) (hv : plainA v = true) {μ : Mp} {s : St} {w : World} (g : Good P μ s w) (hpre : ∀ i o, lookK pre i = some o → s.heap.get i = some o) :
    K ∧ Calls P f ⟨args⟩ w fun e w' => e = .returned v ∧ MovedS P μ s w μ s w' := by
  have hmem : ∀ i o, lookK pre i = some o → i < (P.globals.size + 1) ∧ plainObj o = true := fun i o hi => knownOk_mem pre hk i o (lookK_mem pre i o hi)
  have gp := good_part g hpre (fun i o hi => (hmem i o hi).1) (fun i o hi => (hmem i o hi).2)
  have hc := must_calls S.orders S.ext S.prims S.oks h (w := w) gp (cargs := ⟨args⟩) (plainAll_rel _ ha)
  have key : ∀ (o : Out) (s' : St) (μ' : Mp) (w' : World) (e : Ending), (match retOk v pre o s' with | true => K | false => False) → MovedS P (Mp.globs P μ) { heap := heapK pre, next := (P.globals.size + 1) } w μ' s' w' → OutRel μ' o e → K ∧ e = .returned v ∧ MovedS P μ s w μ s w' := by
    intro o s' μ' w' e hq mv hr
    split at hq
    case h_2 => exact hq.elim
    rename_i ht
    unfold retOk at ht
    split at ht
    case h_2 => cases ht
    rename_i u um
    obtain ⟨t1, t2⟩ := andB_true.1 ht
    have t1 := eqV_sound t1
    subst t1
    cases e with
    | returned c =>
      have hr : VRel μ' u c := hr
      have := plainA_same hv hr
      subst this
      refine ⟨hq, rfl, frame_pure g gp.sim (Mp.globs_le μ) (fun i o hi => ?_) mv (fun i o hi => ?_) fun i o hi => ?_⟩
      · have hi : (heapK pre).get i = some o := hi
        rw [heapK_get] at hi
        exact hpre i o hi
      · have hi : (heapK pre).get i = some o := hi
        rw [heapK_get] at hi
        exact holdsK_mem pre t2 i o (lookK_mem pre i o hi)
      · have hi : (heapK pre).get i = some o := hi
        rw [heapK_get] at hi
        exact (hmem i o hi).2
    | panicked c => exact (show False from hr).elim
    | outgrown => exact (show False from hr).elim
  refine ⟨?_, fun cs => ?_⟩
  · obtain ⟨e, w', fr, ⟨o, s', μ', hq, mv, hr⟩, _⟩ := hc []
    exact (key o s' μ' w' e hq mv hr).1
  · obtain ⟨e, w', fr, ⟨o, s', μ', hq, mv, hr⟩, rest⟩ := hc cs
    exact ⟨e, w', fr, (key o s' μ' w' e hq mv hr).2, rest⟩

theorem chain_calls (S : Sound P ext oks pr) {n : Nat} {f : FuncId} {pre : Known} (hk : knownOk P pre = true) : ∀ (tab : Tab), chain P ext oks pr n f pre tab → tabOk tab = true →
    ∀ args v, (args, v) ∈ tab → ∀ (μ : Mp) (s : St) (w : World), Good P μ s w → (∀ i o, lookK pre i = some o → s.heap.get i = some o) → plainAll args = true ∧ plainA v = true ∧ Calls P f ⟨args⟩ w fun e w' => e = .returned v ∧ MovedS P μ s w μ s w'
  | [], _, _, args, v, hm, _, _, _, _, _ => by cases hm
  | (args0, v0) :: tab, h, hok, args, v, hm, μ, s, w, g, hpre => by
    simp only [tabOk] at hok
    obtain ⟨ok1, hok⟩ := andB_true.1 hok
    obtain ⟨ok2, ok3⟩ := andB_true.1 hok
    obtain ⟨hK, hc⟩ := call_part S h hk ok1 ok2 g hpre
    rcases List.mem_cons.1 hm with e | hm
    · cases e; exact ⟨ok1, ok2, hc⟩
    · exact chain_calls S hk tab hK ok3 args v hm μ s w g hpre

abbrev Prim := List Value → St → (Value → St → Prop) → Prop

def PrimOk (P : Program) (f : FuncId) (g : Prim) : Prop :=
  ∀ (args : List Value) (s : St) (K : Value → St → Prop), g args s K → ∀ (μ : Mp) (w : World) (cargs : Array Value) (cs : List Frame), Good P μ s w → LRel μ args cargs.toList →
    ∃ v s' μ' w', K v s' ∧ MovedS P μ s w μ' s' w' ∧ ∃ u fr, VRel μ' v u ∧ fr.fn = f ∧ fr.kind = .normal ∧ fr.going P w' (.returned u) ∧ Steps P (lone (Frame.enter P f cargs .normal) cs w) (lone fr cs w')

def findT : Tab → List Value → Option Value
  | [], _ => none
  | (as, v) :: tab, args => match eqVs eqV as args with
    | true => some v
    | false => findT tab args

theorem findT_mem : ∀ (tab : Tab) (args : List Value) (v : Value), findT tab args = some v → (args, v) ∈ tab
  | [], _, _, h => by cases h
  | (as, u) :: tab, args, v, h => by
    simp only [findT] at h
    split at h
    · rename_i e
      cases h
      rw [eqVs_sound (fun v w h => eqV_sound h) _ _ e]
      simp
    · exact List.mem_cons_of_mem _ (findT_mem tab args v h)

def memoG (pre : Known) (tab : Tab) : Prim := fun args s K => match holdsK s pre with
  | true => match findT tab args with
    | some v => K v s
    | none => False
  | false => False

theorem of_eq {A B : Prop} (h : A = B) (b : B) : A := by rw [h]; exact b

theorem memo_ok (S : Sound P ext oks pr) {n : Nat} {f : FuncId} {pre : Known} {tab : Tab} (hk : knownOk P pre = true) (he : chain P ext oks pr n f pre tab = (true = true)) (hok : tabOk tab = true) : PrimOk P f (memoG pre tab) := by
  have h : chain P ext oks pr n f pre tab := by rw [he]
  intro args s K hg μ w cargs cs g ha
  unfold memoG at hg
  split at hg
  case h_2 => exact hg.elim
  rename_i hpre
  split at hg
  case h_2 => exact hg.elim
  rename_i v hv
  obtain ⟨h1, h2, hc⟩ := chain_calls S hk tab h hok args v (findT_mem _ _ _ hv) μ s w g fun i o hi => holdsK_mem pre hpre i o (lookK_mem pre i o hi)
  have e := plainAll_same h1 ha
  have e : cargs = ⟨args⟩ := Array.ext' e
  subst e
  obtain ⟨_, w', fr, ⟨rfl, mv⟩, st, hfn, hl⟩ := hc cs
  exact ⟨v, s, μ, w', hg, mv, v, fr, plainA_rel μ h2, hfn, hl.2.2.1, ⟨hl.1, hl.2.1, hl.2.2.2⟩, st⟩

/-! ### Calls over known blocks -/

def putK : Known → Tr AObj → Tr AObj
  | [], t => t
  | (j, o) :: l, t => (putK l t).set j (some o)

theorem putK_get : ∀ (l : Known) (t : Tr AObj) (i : Nat), (putK l t).get i = match lookK l i with | some o => some o | none => t.get i
  | [], t, i => rfl
  | (j, o) :: l, t, i => by
    simp only [putK, lookK, Tr.get_set, putK_get l t i]
    cases h : Nat.beq i j with
    | true => rw [if_pos (Nat.eq_of_beq_eq_true h)]
    | false =>
      rw [if_neg]
      intro e
      rw [e, Nat.beq_refl] at h
      cases h

/-- A call over known blocks: its arguments, the next name, the blocks that it looks at (and leaves as they are); its value, the blocks that it makes, the next name behind it. -/
structure Seen where
  args : List Value
  next : Nat
  pre : Known
  v : Value
  post : Known
  next' : Nat

def retS (r : Seen) (o : Out) (s : St) : Bool := match o with
  | .ret u _ => andB (eqV u r.v) (andB (holdsK s r.pre) (andB (holdsK s r.post) (Nat.ble s.next r.next')))
  | _ => false

def newer (n : Nat) : Known → Bool
  | [] => true
  | (i, _) :: l => andB (Nat.ble n i) (newer n l)

theorem newer_mem {n : Nat} : ∀ (l : Known), newer n l = true → ∀ i o, (i, o) ∈ l → n ≤ i
  | [], _, i, o, h => by cases h
  | (j, p) :: l, h, i, o, hm => by
    simp only [newer] at h
    obtain ⟨h1, h2⟩ := andB_true.1 h
    rcases List.mem_cons.1 hm with e | hm
    · cases e; simpa using h1
    · exact newer_mem l h2 i o hm

def findS : List Seen → List Value → St → Option Seen
  | [], _, _ => none
  | r :: rs, args, s => match andB (Nat.beq s.next r.next) (andB (eqVs eqV r.args args) (holdsK s r.pre)) with
    | true => some r
    | false => findS rs args s

def seenG (rs : List Seen) : Prim := fun args s K => match findS rs args s with
  | some r => K r.v { heap := putK r.post s.heap, next := r.next' }
  | none => False

theorem findS_mem : ∀ (rs : List Seen) (args : List Value) (s : St) (r : Seen), findS rs args s = some r → r ∈ rs ∧ s.next = r.next ∧ args = r.args ∧ holdsK s r.pre = true
  | [], _, _, _, h => by cases h
  | q :: rs, args, s, r, h => by
    simp only [findS] at h
    split at h
    · rename_i e
      cases h
      obtain ⟨e1, e⟩ := andB_true.1 e
      obtain ⟨e2, e3⟩ := andB_true.1 e
      exact ⟨by simp, Nat.eq_of_beq_eq_true e1, (eqVs_sound (fun v w h => eqV_sound h) _ _ e2).symm, e3⟩
    · obtain ⟨h1, h2⟩ := findS_mem rs args s r h
      exact ⟨List.mem_cons_of_mem _ h1, h2⟩

structure SeenOk (P : Program) (ext : Ext) (oks : FuncId → Bool) (pr : Prims) (f : FuncId) (r : Seen) : Prop where
  run : ∃ n, must P ext oks pr n (.call f r.args false .run) { heap := heapK r.pre, next := r.next } (fun o s => retS r o s = true) = (true = true)
  new : newer r.next r.post = true

theorem seen_ok (S : Sound P ext oks pr) {f : FuncId} {rs : List Seen} (h : ∀ r ∈ rs, SeenOk P ext oks pr f r) : PrimOk P f (seenG rs) := by
  intro args s K hg μ w cargs cs g ha
  unfold seenG at hg
  split at hg
  case h_2 => exact hg.elim
  rename_i r hr
  obtain ⟨hm, hnext, rfl, hpre⟩ := findS_mem _ _ _ _ hr
  obtain ⟨⟨n, hrun⟩, hnew⟩ := h r hm
  have hrun : must P ext oks pr n (.call f r.args false .run) { heap := heapK r.pre, next := r.next } (fun o s => retS r o s = true) := by rw [hrun]
  have hpre' : ∀ i o, lookK r.pre i = some o → s.heap.get i = some o := fun i o hi => holdsK_mem r.pre hpre i o (lookK_mem _ i o hi)
  have hsub : ∀ i o, (heapK r.pre).get i = some o → s.heap.get i = some o := fun i o hi => hpre' i o (by rw [← heapK_get]; exact hi)
  have gm : Good P μ { heap := heapK r.pre, next := r.next } w := {
    sim := {
      live := fun i o hi => g.sim.live i o (hsub i o hi)
      opn := g.sim.opn
      inj := fun i j o q b c hi hj hb hc e => g.sim.inj i j o q b c (hsub i o hi) (hsub j q hj) hb hc e }
    fresh := fun i hi => g.fresh i (by rw [hnext]; exact hi)
    globals := g.globals }
  obtain ⟨e, w', fr, ⟨o, s', μ', hq, mv, hout⟩, st, hfn, hl⟩ := must_calls S.orders S.ext S.prims S.oks hrun gm ha cs
  unfold retS at hq
  split at hq
  case h_2 => cases hq
  rename_i u um
  obtain ⟨q1, hq⟩ := andB_true.1 hq
  obtain ⟨q2, hq⟩ := andB_true.1 hq
  obtain ⟨q3, q4⟩ := andB_true.1 hq
  have q1 := eqV_sound q1
  subst q1
  have q4 : s'.next ≤ r.next' := by simpa using q4
  have hsame : ∀ i o, (heapK r.pre).get i = some o → s'.heap.get i = some o := fun i o hi => holdsK_mem r.pre q2 i o (lookK_mem _ i o (by rw [← heapK_get]; exact hi))
  have hpost : ∀ i o, lookK r.post i = some o → s'.heap.get i = some o ∧ r.next ≤ i := fun i o hi =>
    ⟨holdsK_mem r.post q3 i o (lookK_mem _ i o hi), newer_mem r.post hnew i o (lookK_mem _ i o hi)⟩
  have hold : ∀ i o, s.heap.get i = some o → lookK r.post i = none := fun i o hi => by
    cases hp : lookK r.post i with
    | none => rfl
    | some q =>
      obtain ⟨b, _, h1, _⟩ := g.sim.live i o hi
      rw [g.fresh i (by rw [hnext]; exact (hpost i q hp).2)] at h1
      cases h1
  have mle : μ.le μ' := mv.le
  have hget : ∀ i, (putK r.post s.heap).get i = match lookK r.post i with | some o => some o | none => s.heap.get i := fun i => putK_get _ _ i
  have cases' : ∀ i o, (putK r.post s.heap).get i = some o → lookK r.post i = some o ∨ (lookK r.post i = none ∧ s.heap.get i = some o) := fun i o hi => by
    rw [hget] at hi
    split at hi
    · rename_i q hq; cases hi; exact .inl hq
    · rename_i hq; exact .inr ⟨hq, hi⟩
  -- a new block is no block of the whole
  have apart : ∀ i j o q b c, lookK r.post i = some o → s.heap.get j = some q → μ' i = some b → μ' j = some c → b.block ≠ c.block := fun i j o q b c hi hj hb hc e => by
    obtain ⟨c0, p, k1, k2, _⟩ := g.sim.live j q hj
    have e0 := mle _ _ k1
    rw [hc] at e0; cases e0
    have hlt : c.block < w.heap.size := (Array.getElem?_eq_some_iff.1 k2).1
    have hij : i ≠ j := fun x => by subst x; rw [hold i q hj] at hi; cases hi
    rcases mv.own i o b (hpost i o hi).1 hb with h | ⟨j', q', c', h1, h2, h3⟩
    · omega
    · have hs := hsub j' q' h1
      have ejj := g.sim.inj j' j q' q c' c hs hj h2 k1 (by omega)
      subst ejj
      exact hij (mv.sim.inj i j' o q' b c (hpost i o hi).1 (hsame j' q' h1) hb hc e)
  have sim' : SimS P μ' { heap := putK r.post s.heap, next := r.next' } w' := {
    opn := mv.sim.opn
    live := fun i o hi => by
      rcases cases' i o hi with hi | ⟨_, hi⟩
      · exact mv.sim.live i o (hpost i o hi).1
      · obtain ⟨b, p, h1, h2, h3⟩ := frame_live g gm.sim μ.le_refl hsub mv hsame hi
        refine ⟨b, p, mle _ _ h1, h2, ?_⟩
        rcases h3 with h3 | ⟨_, _, h4⟩
        · exact h3.mono mle
        · exact h4
    inj := fun i j o q b c hi hj hb hc e => by
      rcases cases' i o hi with hi | ⟨_, hi⟩
      · rcases cases' j q hj with hj | ⟨_, hj⟩
        · exact mv.sim.inj i j o q b c (hpost i o hi).1 (hpost j q hj).1 hb hc e
        · exact absurd e (apart i j o q b c hi hj hb hc)
      · rcases cases' j q hj with hj | ⟨_, hj⟩
        · exact absurd e.symm (apart j i q o c b hj hi hc hb)
        · obtain ⟨b0, _, h1, _⟩ := g.sim.live i o hi
          obtain ⟨c0, _, h2, _⟩ := g.sim.live j q hj
          have e1 := mle _ _ h1
          rw [hb] at e1; cases e1
          have e2 := mle _ _ h2
          rw [hc] at e2; cases e2
          exact g.sim.inj i j o q b c hi hj h1 h2 e }
  have hle : r.next ≤ s'.next := mv.next
  have mv' : MovedS P μ s w μ' { heap := putK r.post s.heap, next := r.next' } w' := {
    le := mle
    sim := sim'
    next := by show s.next ≤ r.next'; omega
    fresh := fun i b e => by
      rcases mv.fresh i b e with h | ⟨h1, h2⟩
      · exact .inl h
      · have h1 : r.next ≤ i := h1
        exact .inr ⟨by omega, by show i < r.next'; omega⟩
    size := mv.size
    kept := frame_kept μ.le_refl hsub mv
    own := fun i o b hi hb => by
      rcases cases' i o hi with hi | ⟨_, hi⟩
      · rcases mv.own i o b (hpost i o hi).1 hb with h | ⟨j', q', c', h1, h2, h3⟩
        · exact .inl h
        · exact .inr ⟨j', q', c', hsub j' q' h1, h2, h3⟩
      · obtain ⟨b0, _, h1, _⟩ := g.sim.live i o hi
        have e1 := mle _ _ h1
        rw [hb] at e1; cases e1
        exact .inr ⟨i, o, b, hi, h1, rfl⟩
    shape := mv.shape
    os := mv.os
    tape := mv.tape
    output := mv.output }
  cases e with
  | returned c => exact ⟨r.v, _, μ', w', hg, mv', c, fr, hout, hfn, hl.2.2.1, ⟨hl.1, hl.2.1, hl.2.2.2⟩, st⟩
  | panicked c => exact (show False from hout).elim
  | outgrown => exact (show False from hout).elim

/-! ### Prims by their numbers -/

abbrev PT := List (FuncId × Prim)

def prOf : PT → Prims
  | [], _ => none
  | (f, g) :: l, h => match Nat.beq h f with
    | true => some g
    | false => prOf l h

theorem prOf_ok : ∀ (l : PT), (∀ p ∈ l, PrimOk P p.1 p.2) → PrimsOk P (prOf l)
  | [], _ => fun f g h => by cases h
  | (f, g) :: l, hl => fun f' g' h => by
    simp only [prOf] at h
    split at h
    · rename_i e
      cases h
      have e := Nat.eq_of_beq_eq_true e
      subst e
      exact hl (f', g) (by simp)
    · exact prOf_ok l (fun p hp => hl p (List.mem_cons_of_mem _ hp)) f' g' h

end
end Go.Ab

/- A method that lists what a map of a struct holds, whatever order the map gives: as a prim. Conditions: as said. -/
namespace Go.Ab
noncomputable section

variable {P : Program} {ext : Ext} {oks : FuncId → Bool} {pr : Prims}

def plainEs : List MapEntry → Bool
  | [] => true
  | e :: es => andB (plainA e.key) (andB (plainA e.val) (plainEs es))

theorem plainEs_rel {μ ν : Mp} : ∀ {es fs : List MapEntry}, plainEs es = true → All2 (ERel μ) es fs → All2 (ERel ν) es fs := by
  intro es fs h hr
  induction hr with
  | nil => exact .nil
  | @cons e f es fs he hr ih =>
    simp only [plainEs] at h
    obtain ⟨h1, h⟩ := andB_true.1 h
    obtain ⟨h2, h3⟩ := andB_true.1 h
    refine .cons ⟨?_, ?_, he.2.2⟩ (ih h3)
    · have := plainA_same h1 he.1
      rw [this]; exact plainA_rel ν h1
    · have := plainA_same h2 he.2.1
      rw [this]; exact plainA_rel ν h2

theorem map_plain {μ ν : Mp} {b : Blk} {es : List MapEntry} {c : Nat} {p : Obj} (h : plainEs es = true) (hr : ORel μ b (.map es c) p) : ORel ν b (.map es c) p := by
  cases hr with
  | map _ l => exact .map c (plainEs_rel h l)

theorem holder_rel {μ ν : Mp} {b bm : Blk} {m m' : Nat} {e : TypeId} {p : Obj} (hm : μ m = some bm) (hm' : ν m' = some bm) (hr : ORel μ b (.cells [.map (some m)] e) p) : ORel ν b (.cells [.map (some m')] e) p := by
  cases hr with
  | @cells vs _ cs fr h1 h2 h3 h4 =>
    refine .cells (fun j v hj => ?_) h2 h3 h4
    cases j with
    | succ j => simp at hj
    | zero =>
      simp at hj
      subst hj
      obtain ⟨u, k1, k2⟩ := h1 0 (.map (some m)) rfl
      refine ⟨u, k1, ?_⟩
      cases k2 with
      | map _ b' hb =>
      rw [hm] at hb; cases hb
      exact .map m' bm hm'

/-- A map's entries and clock; the cells of the list that comes of them; how many elements. -/
structure Listed where
  es : List MapEntry
  clk : Nat
  out : List Value
  many : Nat

def partOf (P : Program) (e : TypeId) (l : Listed) : Known := [((P.globals.size + 1), .cells [.map (some ((P.globals.size + 1) + 1))] e), ((P.globals.size + 1) + 1, .map l.es l.clk)]

def listTest (P : Program) (e t : TypeId) (l : Listed) (o : Out) (s : St) : Bool := match o with
  | .ret (.slice none 0 0) _ => andB (Nat.beq l.many 0) (holdsK s (partOf P e l))
  | .ret (.slice (some ⟨n, 0, none⟩) len c) _ => andB (Nat.beq len l.many) (andB (Nat.beq c (2 * l.many + 1)) (andB (Nat.ble ((P.globals.size + 1) + 2) n) (andB (Nat.blt 0 l.many) (holdsK s ((n, .cells l.out t) :: partOf P e l)))))
  | _ => false

structure ListedOk (P : Program) (ext : Ext) (oks : FuncId → Bool) (pr : Prims) (f : FuncId) (e t : TypeId) (l : Listed) : Prop where
  run : ∃ (n : Nat) (X : Prop), must P ext oks pr n (.call f [.pointer (some ⟨(P.globals.size + 1), 0, none⟩)] false .run) { heap := heapK (partOf P e l), next := (P.globals.size + 1) + 2 } (fun o s => listTest P e t l o s = true) = X ∧ X
  plain : plainEs l.es = true
  out : allPlain l.out = true

def findL : List Listed → List MapEntry → Nat → Option Listed
  | [], _, _ => none
  | l :: ls, es, clk => match andB (Nat.beq l.clk clk) (eqEs l.es es) with
    | true => some l
    | false => findL ls es clk

theorem findL_mem : ∀ (ls : List Listed) (es : List MapEntry) (clk : Nat) (l : Listed), findL ls es clk = some l → l ∈ ls ∧ l.es = es ∧ l.clk = clk
  | [], _, _, _, h => by cases h
  | q :: ls, es, clk, l, h => by
    simp only [findL] at h
    split at h
    · rename_i e
      cases h
      obtain ⟨e1, e2⟩ := andB_true.1 e
      exact ⟨by simp, eqEs_sound _ _ e2, Nat.eq_of_beq_eq_true e1⟩
    · obtain ⟨h1, h2⟩ := findL_mem ls es clk l h
      exact ⟨List.mem_cons_of_mem _ h1, h2⟩

def giveL (t : TypeId) (l : Listed) (s : St) (K : Value → St → Prop) : Prop := match l.many with
  | 0 => K (.slice none 0 0) s
  | n + 1 => K (.slice (some ⟨s.next, 0, none⟩) (n + 1) (2 * (n + 1) + 1)) (s.new (.cells l.out t)).2

def listG (e t : TypeId) (ls : List Listed) : Prim := fun args s K => match args with
  | [.pointer (some ⟨a, 0, none⟩)] => match s.heap.get a with
    | some (.cells [.map (some m)] e') => match s.heap.get m with
      | some (.map es clk) => match findL ls es clk with
        | some l => match Nat.beq e' e with
          | true => giveL t l s K
          | false => False
        | none => False
      | _ => False
    | _ => False
  | _ => False

theorem list_ok (S : Sound P ext oks pr) {f : FuncId} {e t : TypeId} {ls : List Listed} (h : ∀ l ∈ ls, ListedOk P ext oks pr f e t l) : PrimOk P f (listG e t ls) := by
  intro args s K hg μ w cargs cs g hargs
  unfold listG at hg
  split at hg
  case h_2 => exact hg.elim
  rename_i a
  split at hg
  case h_2 => exact hg.elim
  rename_i m e' ha
  split at hg
  case h_2 => exact hg.elim
  rename_i es clk hm
  split at hg
  case h_2 => exact hg.elim
  rename_i l hl
  split at hg
  case h_2 => exact hg.elim
  rename_i he
  have he := Nat.eq_of_beq_eq_true he
  subst he
  obtain ⟨hmem, rfl, rfl⟩ := findL_mem _ _ _ _ hl
  obtain ⟨⟨n, X, heq, hX⟩, hplain, hout⟩ := h l hmem
  have hrun := of_eq heq hX
  have hne : a ≠ m := fun x => by subst x; rw [ha] at hm; cases hm
  obtain ⟨ba, pa, a1, a2, a3⟩ := g.sim.live a _ ha
  obtain ⟨bm, pm, m1, m2, m3⟩ := g.sim.live m _ hm
  let G := (P.globals.size + 1)
  let ν : Mp := fun i => if i < G then μ i else if i = G then μ a else if i = G + 1 then μ m else none
  have νG : ν G = some ba := by show (if G < G then _ else _) = _; rw [if_neg (Nat.lt_irrefl _), if_pos rfl]; exact a1
  have νM : ν (G + 1) = some bm := by show (if G + 1 < G then _ else _) = _; rw [if_neg (by omega), if_neg (by omega), if_pos rfl]; exact m1
  have νsub : ∀ i b, ν i = some b → ∃ j, μ j = some b := fun i b hb => by
    have hb : (if i < G then μ i else if i = G then μ a else if i = G + 1 then μ m else none) = some b := hb
    split at hb
    · exact ⟨i, hb⟩
    · split at hb
      · exact ⟨a, hb⟩
      · split at hb
        · exact ⟨m, hb⟩
        · cases hb
  have part : ∀ i o, (heapK (partOf P e' l)).get i = some o → (i = G ∧ o = .cells [.map (some (G + 1))] e') ∨ (i = G + 1 ∧ o = .map l.es l.clk) := fun i o hi => by
    rw [heapK_get] at hi
    have := lookK_mem _ _ _ hi
    simp only [partOf, List.mem_cons, Prod.mk.injEq, List.not_mem_nil, or_false] at this
    exact this
  have bne : ba.block ≠ bm.block := fun x => hne (g.sim.inj a m _ _ ba bm ha hm a1 m1 x)
  have gm : Good P ν { heap := heapK (partOf P e' l), next := G + 2 } w := {
    sim := {
      live := fun i o hi => by
        rcases part i o hi with ⟨rfl, rfl⟩ | ⟨rfl, rfl⟩
        · exact ⟨ba, pa, νG, a2, holder_rel m1 νM a3⟩
        · exact ⟨bm, pm, νM, m2, map_plain hplain m3⟩
      opn := fun i b t z n h1 h2 => let ⟨j, hj⟩ := νsub i b h1; g.sim.opn j b t z n hj h2
      inj := fun i j o q b c hi hj hb hc x => by
        rcases part i o hi with ⟨rfl, rfl⟩ | ⟨rfl, rfl⟩ <;> rcases part j q hj with ⟨rfl, rfl⟩ | ⟨rfl, rfl⟩
        · rfl
        · rw [νG] at hb; cases hb; rw [νM] at hc; cases hc; exact absurd x bne
        · rw [νM] at hb; cases hb; rw [νG] at hc; cases hc; exact absurd x.symm bne
        · rfl }
    fresh := fun i hi => by
      have hi : G + 2 ≤ i := hi
      show (if i < G then μ i else if i = G then μ a else if i = G + 1 then μ m else none) = none
      rw [if_neg (by omega), if_neg (by omega), if_neg (by omega)]
    globals := fun k hk => by
      show (if k < G then μ k else _) = _
      rw [if_pos hk]; exact g.globals k hk }
  have hca : ∃ c, cargs = #[.pointer (some c)] ∧ ARel μ ⟨a, 0, none⟩ c := by
    have hsz : cargs.size = 1 := by simpa using hargs.length.symm
    obtain ⟨ca⟩ := cargs
    cases hargs with
    | @cons _ u _ us hu hus =>
    cases hus
    cases hu with
    | ptr r => exact ⟨_, rfl, r⟩
  obtain ⟨c, rfl, hc⟩ := hca
  have hcn : ARel ν ⟨G, 0, none⟩ c := by
    obtain ⟨_, h2, b, h3, h4, h5⟩ := hc
    simp only at h3 h5
    rw [a1] at h3; cases h3
    exact ⟨rfl, h2, ba, νG, h4, h5⟩
  obtain ⟨en, w', fr, ⟨o, s', ν', hq, mv, hor⟩, st, hfn, hlv⟩ := must_calls S.orders S.ext S.prims S.oks hrun gm (cargs := #[.pointer (some c)]) (.cons (.ptr hcn) .nil) cs
  -- the part is as it was
  have keptA : holdsK s' (partOf P e' l) = true → (∃ p, w'.heap[ba.block]? = some p ∧ ORel μ ba (.cells [.map (some m)] e') p) ∧ ∃ p, w'.heap[bm.block]? = some p ∧ ORel μ bm (.map l.es l.clk) p := fun hh => by
    have h1 := holdsK_mem _ hh G (.cells [.map (some (G + 1))] e') (by simp [partOf, G])
    have h2 := holdsK_mem _ hh (G + 1) (.map l.es l.clk) (by simp [partOf, G])
    obtain ⟨b1, p1, k1, k2, k3⟩ := mv.sim.live _ _ h1
    obtain ⟨b2, p2, j1, j2, j3⟩ := mv.sim.live _ _ h2
    have := mv.le _ _ νG
    rw [k1] at this; cases this
    have := mv.le _ _ νM
    rw [j1] at this; cases this
    exact ⟨⟨p1, k2, holder_rel j1 m1 k3⟩, ⟨p2, j2, map_plain hplain j3⟩⟩
  have others : ∀ i o b, i ≠ a → i ≠ m → s.heap.get i = some o → μ i = some b → w'.heap[b.block]? = w.heap[b.block]? ∧ b.block < w.heap.size := fun i o b n1 n2 hi hb => by
    obtain ⟨b', p, k1, k2, _⟩ := g.sim.live i o hi
    rw [hb] at k1; cases k1
    have hlt : b.block < w.heap.size := (Array.getElem?_eq_some_iff.1 k2).1
    refine ⟨mv.kept _ hlt fun j q d hj hd x => ?_, hlt⟩
    rcases part j q hj with ⟨rfl, rfl⟩ | ⟨rfl, rfl⟩
    · rw [νG] at hd; cases hd
      exact n1 (g.sim.inj i a o _ b ba hi ha hb a1 x.symm)
    · rw [νM] at hd; cases hd
      exact n2 (g.sim.inj i m o _ b bm hi hm hb m1 x.symm)
  have liveS : holdsK s' (partOf P e' l) = true → ∀ i o, s.heap.get i = some o → ∃ b p, μ i = some b ∧ w'.heap[b.block]? = some p ∧ ORel μ b o p := fun hh i o hi => by
    obtain ⟨⟨p1, k1, k2⟩, ⟨p2, j1, j2⟩⟩ := keptA hh
    by_cases n1 : i = a
    · subst n1; rw [ha] at hi; cases hi; exact ⟨ba, p1, a1, k1, k2⟩
    · by_cases n2 : i = m
      · subst n2; rw [hm] at hi; cases hi; exact ⟨bm, p2, m1, j1, j2⟩
      · obtain ⟨b, p, q1, q2, q3⟩ := g.sim.live i o hi
        exact ⟨b, p, q1, by rw [(others i o b n1 n2 hi q1).1]; exact q2, q3⟩
  have keptS : ∀ k, k < w.heap.size → (∀ i o b, s.heap.get i = some o → μ i = some b → b.block ≠ k) → w'.heap[k]? = w.heap[k]? := fun k hk hn => mv.kept k hk fun j q d hj hd => by
    rcases part j q hj with ⟨rfl, rfl⟩ | ⟨rfl, rfl⟩
    · rw [νG] at hd; cases hd; exact hn a _ ba ha a1
    · rw [νM] at hd; cases hd; exact hn m _ bm hm m1
  unfold listTest at hq
  split at hq
  · rename_i um
    obtain ⟨q1, q2⟩ := andB_true.1 hq
    have q1 := Nat.eq_of_beq_eq_true q1
    unfold giveL at hg
    rw [q1] at hg
    cases en with
    | returned u =>
      have hor : VRel ν' (.slice none 0 0) u := hor
      have := plainV_same (v := .slice none 0 0) rfl hor
      subst this
      have mv' : MovedS P μ s w μ s w' := {
        le := μ.le_refl
        sim := { live := liveS q2, opn := g.sim.opn, inj := g.sim.inj }
        next := Nat.le_refl _
        fresh := fun _ _ e => .inl e
        size := mv.size
        kept := keptS
        own := fun i o b h1 h2 => .inr ⟨i, o, b, h1, h2, rfl⟩
        shape := mv.shape
        os := mv.os
        tape := mv.tape
        output := mv.output }
      exact ⟨_, s, μ, w', hg, mv', _, fr, .sliceNil 0 0 (Nat.le_refl _), hfn, hlv.2.2.1, ⟨hlv.1, hlv.2.1, hlv.2.2.2⟩, st⟩
    | panicked _ => exact (show False from hor).elim
    | outgrown => exact (show False from hor).elim
  · rename_i N len cc um
    obtain ⟨q1, hq⟩ := andB_true.1 hq
    obtain ⟨q2, hq⟩ := andB_true.1 hq
    obtain ⟨q3, hq⟩ := andB_true.1 hq
    obtain ⟨q4, q5⟩ := andB_true.1 hq
    have q1 := Nat.eq_of_beq_eq_true q1
    have q2 := Nat.eq_of_beq_eq_true q2
    have q3 : G + 2 ≤ N := by simpa using q3
    subst q1 q2
    simp only [holdsK] at q5
    have q5 : holdsK s' ((N, .cells l.out t) :: partOf P e' l) = true := q5
    have hN := holdsK_mem _ q5 N (.cells l.out t) (by simp)
    have q6 : holdsK s' (partOf P e' l) = true := by
      simp only [holdsK, hN] at q5
      exact (andB_true.1 q5).2
    obtain ⟨bn, pn, n1, n2, n3⟩ := mv.sim.live _ _ hN
    have hnone : μ s.next = none := g.fresh _ (Nat.le_refl _)
    have hle := Mp.le_add (μ := μ) (i := s.next) bn hnone
    have bnew : w.heap.size ≤ bn.block := by
      rcases mv.own N _ bn hN n1 with h | ⟨j, q, d, hj, hd, x⟩
      · exact h
      · have hsame := holdsK_mem _ q6 j q (lookK_mem _ _ _ (by rw [← heapK_get]; exact hj))
        have := mv.sim.inj j N q _ d bn hsame hN (mv.le _ _ hd) n1 x
        rcases part j q hj with ⟨rfl, rfl⟩ | ⟨rfl, rfl⟩ <;> omega
    obtain ⟨k, hk⟩ : ∃ k, l.many = k + 1 := by
      have : 0 < l.many := by simpa using q4
      exact ⟨l.many - 1, by omega⟩
    unfold giveL at hg
    rw [hk] at hg
    cases en with
    | returned u =>
      have hor : VRel ν' (.slice (some ⟨N, 0, none⟩) l.many (2 * l.many + 1)) u := hor
      have hu : VRel (μ.add s.next bn) (.slice (some ⟨s.next, 0, none⟩) (k + 1) (2 * (k + 1) + 1)) u := by
        rw [hk] at hor
        generalize hx : 2 * (k + 1) + 1 = x at hor
        have tr : ∀ {cb : Addr} {z : Nat}, ARel ν' ⟨N, 0, none⟩ cb ∨ z = 0 → ARel (μ.add s.next bn) ⟨s.next, 0, none⟩ cb ∨ z = 0 := fun h => h.imp (fun ⟨_, h2, b, h3, h4, h5⟩ => by
          simp only at h3
          rw [n1] at h3; cases h3
          exact ⟨rfl, h2, bn, μ.add_same _ _, h4, h5⟩) id
        cases hor with
        | slice l' k' hl' hr => omega
        | «open» l' k' m' b' e0 z0 n0 hl' hr hb' ho' hkm hcap =>
          simp only at hb'
          rw [n1] at hb'; cases hb'
          have : k' = k + 1 := by omega
          subst this
          exact .open _ _ m' bn e0 z0 n0 hl' (tr hr) (μ.add_same _ _) ho' hkm hcap
      have hcells : plainObj (.cells l.out t) = true := hout
      have mv' : MovedS P μ s w (μ.add s.next bn) (s.new (.cells l.out t)).2 w' := {
        le := hle
        sim := {
          live := fun i o hi => by
            rw [get_new] at hi
            split at hi
            · rename_i x; subst x; cases hi
              exact ⟨bn, pn, μ.add_same _ _, n2, plainObj_rel hcells n3⟩
            · obtain ⟨b, p, k1, k2, k3⟩ := liveS q6 i o hi
              exact ⟨b, p, hle _ _ k1, k2, k3.mono hle⟩
          opn := fun i b t z n h1 h2 => by
            unfold Mp.add at h1
            split at h1
            · cases h1; exact mv.sim.opn N _ t z n n1 h2
            · exact g.sim.opn i b t z n h1 h2
          inj := fun i j o q b d hi hj hb hd x => by
            rw [get_new] at hi hj
            unfold Mp.add at hb hd
            have small : ∀ i o b, s.heap.get i = some o → μ i = some b → b.block < w.heap.size := fun i o b hi hb => by
              obtain ⟨b', p, k1, k2, _⟩ := g.sim.live i o hi
              rw [hb] at k1; cases k1
              exact (Array.getElem?_eq_some_iff.1 k2).1
            by_cases ei : i = s.next
            · by_cases ej : j = s.next
              · omega
              · rw [if_pos ei] at hb; cases hb
                rw [if_neg ej] at hj hd
                have := small j q d hj hd
                omega
            · rw [if_neg ei] at hi hb
              by_cases ej : j = s.next
              · rw [if_pos ej] at hd; cases hd
                have := small i o b hi hb
                omega
              · rw [if_neg ej] at hj hd
                exact g.sim.inj i j o q b d hi hj hb hd x }
        next := Nat.le_succ _
        fresh := fun i b x => by
          unfold Mp.add at x
          split at x
          · rename_i y; subst y; exact .inr ⟨Nat.le_refl _, Nat.lt_succ_self _⟩
          · exact .inl x
        size := mv.size
        kept := keptS
        own := fun i o b hi hb => by
          rw [get_new] at hi
          unfold Mp.add at hb
          by_cases ei : i = s.next
          · rw [if_pos ei] at hb; cases hb; exact .inl bnew
          · rw [if_neg ei] at hi hb; exact .inr ⟨i, o, b, hi, hb, rfl⟩
        shape := mv.shape
        os := mv.os
        tape := mv.tape
        output := mv.output }
      exact ⟨_, _, _, w', hg, mv', u, fr, hu, hfn, hlv.2.2.1, ⟨hlv.1, hlv.2.1, hlv.2.2.2⟩, st⟩
    | panicked _ => exact (show False from hor).elim
    | outgrown => exact (show False from hor).elim
  · cases hq

end
end Go.Ab

/- A table of words among the program's variables: what it reads as, and that it stays. Conditions: as said. -/
namespace Go.Ab

variable {P : Program} {ext : Ext} {oks : FuncId → Bool} {pr : Prims}

theorem word_of_trod {H : Type} {enc : TypeId × Value → H} {w : World} {base : Nat} {spare : Nat → Bool} {held : Bool} {fuel : Nat} {t : TypeId} {cs : List Value} {k : IntKind} {n : Int} {p : List MemPlace}
    (ht : P.underlying t = some (.int k)) (h : DataW.trod enc P w base spare held fuel t cs = some (.lit (.int k n), p)) : cs = [.int k n] := by
  cases fuel with
  | zero => simp [DataW.trod] at h
  | succ m =>
    unfold DataW.trod at h
    rw [ht] at h
    split at h <;> simp_all
    all_goals (rename_i a b; obtain ⟨⟨rfl, h1⟩, h2, h3⟩ := h; first | rfl | (subst h2; rfl) | simp_all)

theorem words_of_trod {w : World} {base : Nat} {spare : Nat → Bool} {held : Bool} {fuel : Nat} {t e : TypeId} {cs : List Value} {k : IntKind} {ns : List Int} {p : List MemPlace} {H : Type} {enc : TypeId × Value → H}
    (ht : P.underlying t = some (.array ns.length e)) (he : P.underlying e = some (.int k)) (hc : P.cellsOf e = 1) (hct : P.cellsOf t = ns.length)
    (h : DataW.trod enc P w base spare held fuel t cs = some (.agg (ns.map fun n => .lit (.int k n)), p)) : cs = ns.map fun n => .int k n := by
  obtain ⟨xs, m, _, hx, hl, hn, hg⟩ := DataW.trod_array ht h
  simp only [Prod.mk.injEq, DataW.agg.injEq] at hx
  obtain ⟨hx, _⟩ := hx
  apply List.ext_getElem?
  intro i
  by_cases hi : i < ns.length
  · have h1 := hg i hi
    have hxi : i < xs.length := by omega
    rw [List.getElem?_eq_getElem hxi] at h1
    have h2 : xs[i].1 = .lit (.int k ns[i]) := by
      have := congrArg (·[i]?) hx
      simp only [List.getElem?_map, List.getElem?_eq_getElem hi, List.getElem?_eq_getElem hxi, Option.map_some, Option.some.injEq] at this
      exact this.symm
    rw [hc, Nat.mul_one] at h1
    have h3 := word_of_trod he (p := xs[i].2) (n := ns[i]) (by rw [h1, ← h2])
    have hci : i < cs.length := by omega
    have h4 : cs[i]? = some (.int k ns[i]) := by
      have : ((cs.drop i).take 1)[0]? = some (.int k ns[i]) := by rw [h3]; rfl
      simpa [List.getElem?_take, List.getElem?_drop] using this
    rw [h4]
    simp [List.getElem?_map, List.getElem?_eq_getElem hi]
  · rw [List.getElem?_eq_none (by omega), List.getElem?_eq_none (by simp; omega)]

theorem get_plain {μ : Mp} {vs : List Value} {cs : Array Value} (hp : allPlain vs = true) (h : ∀ (j : Nat) (v : Value), vs[j]? = some v → ∃ u, cs[0 + j]? = some u ∧ VRel μ v u) (hs : cs.size = vs.length) : cs.toList = vs := by
  apply List.ext_getElem?
  intro j
  have hpl : ∀ (vs : List Value), allPlain vs = true → ∀ (j : Nat) (v : Value), vs[j]? = some v → plainV v = true := fun vs => by
    induction vs with
    | nil => intro _ j v hj; simp at hj
    | cons x xs ih =>
      intro h j v hj
      simp only [allPlain] at h
      cases hx : plainV x with
      | false => rw [hx] at h; cases h
      | true =>
        rw [hx] at h
        cases j with
        | zero => simp at hj; subst hj; exact hx
        | succ j => exact ih h j v (by simpa using hj)
  by_cases hj : j < vs.length
  · obtain ⟨u, h1, h2⟩ := h j vs[j] (List.getElem?_eq_getElem hj)
    have := plainV_same (hpl vs hp j vs[j] (List.getElem?_eq_getElem hj)) h2
    rw [Nat.zero_add] at h1
    rw [Array.getElem?_toList, h1, this, List.getElem?_eq_getElem hj]
  · rw [List.getElem?_eq_none (by simp; omega), List.getElem?_eq_none (by omega)]

/-- A world where one variable holds plain cells: what a run over it alone leaves of the world. -/
theorem run_over {g : Nat} {vs : List Value} {t : TypeId} {cs : Array Value} {w : World} {f : FuncId} {v : Value} (S : Sound P ext oks pr) (htt : P.underlying t ≠ some (.int .u8)) (hp : allPlain vs = true) (hg : g < P.globals.size + 1)
    (hw : w.heap[g]? = some (.cells cs t (0, 0))) (hcs : cs.toList = vs) (hv : plainA v = true) {n : Nat}
    (hrun : must P ext oks pr n (.call f [] false .run) { heap := heapK [(g, .cells vs t)], next := (P.globals.size + 1) } (fun o s => retOk v [(g, .cells vs t)] o s = true) = (true = true)) :
    Calls P f #[] w fun e w' => e = .returned v ∧ ∀ may, w.keptBut w' may := by
  have hrun := of_eq hrun rfl
  have hget : ∀ i o, (heapK [(g, .cells vs t)]).get i = some o → i = g ∧ o = .cells vs t := fun i o hi => by
    rw [heapK_get] at hi
    have := lookK_mem _ _ _ hi
    simpa using this
  have hrel : ∀ μ : Mp, ORel μ ⟨g, 0, none⟩ (.cells vs t) (.cells cs t (0, 0)) := fun μ => by
    refine .cells (fun j u hj => ?_) (.inl rfl) ?_ ?_
    · refine ⟨u, by rw [Nat.zero_add, ← Array.getElem?_toList, hcs]; exact hj, ?_⟩
      exact (allPlain_rel μ vs hp).get j u u hj hj
    · rw [← hcs]; simp
    · exact ⟨rfl, by rw [← hcs]; simp⟩
  have g0 : Good P (Mp.start P) { heap := heapK [(g, .cells vs t)], next := (P.globals.size + 1) } w := {
    sim := {
      live := fun i o hi => by
        obtain ⟨rfl, rfl⟩ := hget i o hi
        exact ⟨⟨i, 0, none⟩, _, by unfold Mp.start; rw [if_pos hg], hw, hrel _⟩
      opn := fun i b t z n h1 h2 => by
        unfold Mp.start at h1
        split at h1
        · cases h1; cases h2
        · cases h1
      inj := fun i j o q b c hi hj _ _ _ => by
        obtain ⟨rfl, _⟩ := hget i o hi
        obtain ⟨rfl, _⟩ := hget j q hj
        rfl }
    fresh := fun i hi => by
      unfold Mp.start
      rw [if_neg]
      have : (P.globals.size + 1) ≤ i := hi
      omega
    globals := fun k hk => by unfold Mp.start; rw [if_pos hk] }
  refine (must_calls S.orders S.ext S.prims S.oks hrun g0 (cargs := #[]) .nil).mono fun e w' ⟨o, s', μ', hq, mv, hr⟩ => ?_
  unfold retOk at hq
  split at hq
  case h_2 => cases hq
  rename_i u um
  obtain ⟨q1, q2⟩ := andB_true.1 hq
  have q1 := eqV_sound q1
  subst q1
  cases e with
  | panicked c => exact (show False from hr).elim
  | outgrown => exact (show False from hr).elim
  | returned c =>
    have hr : VRel μ' u c := hr
    have := plainA_same hv hr
    subst this
    refine ⟨rfl, fun may => ⟨mv.os, mv.output, fun i hi => ?_⟩⟩
    by_cases hig : i = g
    · subst hig
      have hg' := holdsK_mem _ q2 i (.cells vs t) (by simp)
      obtain ⟨b, p, k1, k2, k3⟩ := mv.sim.live _ _ hg'
      have hb := mv.le i ⟨i, 0, none⟩ (by unfold Mp.start; rw [if_pos hg])
      rw [k1] at hb; cases hb
      obtain ⟨c', fr', h1, h2, hfr⟩ := mv.shape i cs t (0, 0) hw
      have hfr := hfr.resolve_right htt
      subst hfr
      have k2 : w'.heap[i]? = some p := k2
      rw [h1] at k2; cases k2
      cases k3 with
      | cells m1 m2 m3 m4 =>
      have hsz : c'.size = vs.length := by rw [h2, ← hcs]; simp
      have hc' := get_plain hp m1 hsz
      have hcc : c' = cs := Array.ext' (by rw [hc', hcs])
      subst hcc
      rw [hw, h1]
      exact ⟨rfl, rfl, rfl, fun _ _ => rfl⟩
    · have : w'.heap[i]? = w.heap[i]? := mv.kept i hi fun j q b hj hb x => by
        obtain ⟨rfl, _⟩ := hget j q hj
        unfold Mp.start at hb
        rw [if_pos hg] at hb
        cases hb
        exact hig x.symm
      rw [this]
      exact (World.keptBut_refl w may).2.2 i hi

end Go.Ab

/- errors.As at one concrete target, as a prim. Conditions: as said. -/
namespace Go.Ab
noncomputable section

variable {P : Program}

/-- A block more of which memory knows nothing. -/
theorem alloc_moved {μ : Mp} {s : St} {w : World} (hs : SimS P μ s w) (o : Obj) : MovedS P μ s w μ s (w.alloc o) where
  le := μ.le_refl
  sim := {
    live := fun i a hi => by
      obtain ⟨b, p, h1, h2, h3⟩ := hs.live i a hi
      have hlt : b.block < w.heap.size := (Array.getElem?_eq_some_iff.1 h2).1
      refine ⟨b, p, h1, ?_, h3⟩
      show (w.heap.push o)[b.block]? = some p
      rw [Array.getElem?_push, if_neg (by omega)]; exact h2
    opn := hs.opn
    inj := hs.inj }
  next := Nat.le_refl _
  fresh := fun _ _ e => .inl e
  size := by show w.heap.size ≤ (w.heap.push o).size; simp
  kept := fun k hk _ => by
    show (w.heap.push o)[k]? = w.heap[k]?
    rw [Array.getElem?_push, if_neg (by omega)]
  own := fun i o b h1 h2 => .inr ⟨i, o, b, h1, h2, rfl⟩
  shape := fun k c t fr h => by
    have hlt : k < w.heap.size := (Array.getElem?_eq_some_iff.1 h).1
    refine ⟨c, fr, ?_, rfl, .inl rfl⟩
    show (w.heap.push o)[k]? = _
    rw [Array.getElem?_push, if_neg (by omega)]; exact h
  os := rfl
  tape := rfl
  output := rfl

def allocs (w : World) : List Obj → World
  | [] => w
  | o :: os => allocs (w.alloc o) os

theorem allocs_moved {μ : Mp} : ∀ (os : List Obj) {s : St} {w : World}, SimS P μ s w → MovedS P μ s w μ s (allocs w os)
  | [], _, _, hs => .refl hs
  | o :: os, _, _, hs => (alloc_moved hs o).trans (allocs_moved os (alloc_moved hs o).sim)

theorem cell_of_store {μ : Mp} {s s' : St} {w : World} (hs : SimS P μ s w) {a c : Addr} {x : Value} (hr : ARel μ a c) (h : storeN s a [x] = some s') : ∃ old, w.cell? c = some old ∧ w.frozen? c = false := by
  unfold storeN at h
  simp only at h
  split at h
  · cases h
  · split at h
    · unfold storeR at h
      obtain ⟨⟨vs, e⟩, h1, h⟩ := bind_some h
      obtain ⟨vs', h2, _⟩ := map_some h
      obtain ⟨b, cs, fr, k1, k2, _, k4, k5, _⟩ := hs.row (row_some h1)
      obtain ⟨_, m1, _⟩ := overlay_eq _ _ _ _ h2
      obtain ⟨_, k7, b', k8, k9, k10⟩ := hr
      rw [k1] at k8; cases k8
      have hlt : c.off < cs.size := by
        simp only [List.length_singleton] at m1
        omega
      obtain ⟨cb, co, csp⟩ := c
      simp only at k7 k9 k10 hlt
      subst k7 k9
      refine ⟨cs[co], ?_, ?_⟩
      · simp [World.cell?, k2, hlt]
      · have := k4.not co hlt
        simp only [World.frozen?, k2]
        simpa using this
    · cases h

/-- What errors.As does, by the library's own text: at a nil error, and at one whose type is the target's. -/
structure AsDoes (P : Program) (f : FuncId) (g off : Nat) (tI tE tT : TypeId) : Prop where
  var : g < P.globals.size + 1
  atNil : ∀ (v : Value) (w : World), Calls P f #[.nilIface, v] w fun e w' => e = .returned (.bool false) ∧ w' = w
  hit : ∀ (e t : Addr) (old : Value) (w : World), w.cell? ⟨g, 0, none⟩ = some (.iface tI (.agg #[.pointer (some ⟨P.globals.size, off, none⟩)])) → w.cell? t = some old → w.frozen? t = false →
    Calls P f #[.iface tE (.pointer (some e)), .iface tT (.pointer (some t))] w fun ev w' => ev = .returned (.bool true) ∧ ∃ os, w' = (allocs w os).setCell t (.pointer (some e))

def asG (P : Program) (g off : Nat) (tI tE tT : TypeId) : Prim := fun args s K => match args with
  | [.nilIface, _] => K (.bool false) s
  | [.iface t (.pointer (some e)), .iface u (.pointer (some a))] => match andB (Nat.beq t tE) (Nat.beq u tT) with
    | true => match s.row g with
      | some ([v], _) => match eqV v (.iface tI (.agg #[.pointer (some ⟨P.globals.size, off, none⟩)])) with
        | true => match storeN s a [.pointer (some e)] with
          | some s' => K (.bool true) s'
          | none => False
        | false => False
      | _ => False
    | false => False
  | _ => False

theorem as_ok {f : FuncId} {g off : Nat} {tI tE tT : TypeId} (A : AsDoes P f g off tI tE tT) : PrimOk P f (asG P g off tI tE tT) := by
  intro args s K hg μ w cargs cs gd hargs
  unfold asG at hg
  split at hg
  · rename_i v
    obtain ⟨l⟩ := cargs
    simp only at hargs
    cases hargs with
    | @cons _ u _ us hu hus =>
    cases hu
    cases hus with
    | @cons _ u' _ us' hu' hus' =>
    cases hus'
    obtain ⟨_, w', fr, ⟨rfl, rfl⟩, st, hfn, hl⟩ := A.atNil u' w cs
    exact ⟨_, s, μ, _, hg, .refl gd.sim, .bool false, fr, .bool false, hfn, hl.2.2.1, ⟨hl.1, hl.2.1, hl.2.2.2⟩, st⟩
  · rename_i t e u a
    split at hg
    case h_2 => exact hg.elim
    rename_i ht
    obtain ⟨t1, t2⟩ := andB_true.1 ht
    have t1 := Nat.eq_of_beq_eq_true t1
    have t2 := Nat.eq_of_beq_eq_true t2
    subst t1 t2
    split at hg
    case h_2 => exact hg.elim
    rename_i v ty hrow
    split at hg
    case h_2 => exact hg.elim
    rename_i hv
    have hv := eqV_sound hv
    subst hv
    split at hg
    case h_2 => exact hg.elim
    rename_i s' hst
    obtain ⟨l⟩ := cargs
    simp only at hargs
    cases hargs with
    | @cons _ u1 _ us hu hus =>
    cases hu with
    | iface _ hp =>
    cases hp with
    | @ptr _ ce he =>
    cases hus with
    | @cons _ u2 _ us' hu' hus' =>
    cases hus'
    cases hu' with
    | iface _ hp' =>
    cases hp' with
    | @ptr _ ct hct =>
    -- the handle
    have hcell : w.cell? ⟨g, 0, none⟩ = some (.iface tI (.agg #[.pointer (some ⟨P.globals.size, off, none⟩)])) := by
      obtain ⟨b, ds, fr, h1, h2, h3, _⟩ := gd.sim.row (row_some hrow)
      have hb := gd.globals g A.var
      rw [h1] at hb; cases hb
      obtain ⟨u, k1, k2⟩ := h3 0 _ rfl
      have hu : u = .iface tI (.agg #[.pointer (some ⟨P.globals.size, off, none⟩)]) := by
        cases k2 with
        | iface _ hx =>
        cases hx with
        | @agg xs ys hs hi =>
        have hl := LRel.of_arrays hs hi
        obtain ⟨l⟩ := ys
        simp only at hl
        cases hl with
        | @cons _ y _ ys hy hys =>
        cases hys
        cases hy with
        | @ptr _ c hc =>
        obtain ⟨_, c2, bb, c3, c4, c5⟩ := hc
        have hG := gd.globals P.globals.size (Nat.lt_succ_self _)
        simp only at c3 c5
        rw [hG] at c3; cases c3
        obtain ⟨cb, co, csp⟩ := c
        simp only at c2 c4 c5
        subst c2 c4
        rw [Nat.zero_add] at c5
        subst c5
        rfl
      subst hu
      have h2 : w.heap[g]? = some (.cells ds ty fr) := h2
      have k1 : ds[0]? = some (.iface tI (.agg #[.pointer (some ⟨P.globals.size, off, none⟩)])) := k1
      simp [World.cell?, h2, k1]
    obtain ⟨old, hold, hfro⟩ := cell_of_store gd.sim hct hst
    obtain ⟨_, w', fr, ⟨rfl, os, rfl⟩, st, hfn, hl⟩ := A.hit ce ct old w hcell hold hfro cs
    have m4 := allocs_moved os gd.sim
    obtain ⟨w5, hrun, m5⟩ := storeN_sim m4.sim hct (ys := [.pointer (some ce)]) (.cons (.ptr he) .nil) hst
    obtain ⟨old', hold', hfro'⟩ := cell_of_store m4.sim hct hst
    have hset : w5 = (allocs w os).setCell ct (.pointer (some ce)) := by
      have h0 : ct.add 0 = ct := by
        have := Addr.add_off ct 0 hct.2.1
        rw [this]
        obtain ⟨cb, co, csp⟩ := ct
        have h2 : csp = none := hct.2.1
        subst h2
        rfl
      simp only [storeCells, Sem.run_bind, h0, run_store P (allocs w os) ct _ _ (show (Value.pointer (some ce)).oneCell' = true from rfl), hold', hfro', Result.andThen] at hrun
      simpa [Sem.run_pure] using hrun.symm
    subst hset
    exact ⟨_, s', μ, _, hg, m4.trans m5, .bool true, fr, .bool true, hfn, hl.2.2.1, ⟨hl.1, hl.2.1, hl.2.2.2⟩, st⟩
  · exact hg.elim

end
end Go.Ab

/- strings.Join as a prim, by the library's own contract. Conditions: as said. -/
namespace Go.Ab
noncomputable section

variable {P : Program}

/-- What lies as it lay, and more behind it. -/
theorem below_moved {μ : Mp} {s : St} {w w' : World} (hs : SimS P μ s w) (hb : Go.RowKit.Below w.heap.size w w') : MovedS P μ s w μ s w' where
  le := μ.le_refl
  sim := {
    live := fun i a hi => by
      obtain ⟨b, p, h1, h2, h3⟩ := hs.live i a hi
      have hlt : b.block < w.heap.size := (Array.getElem?_eq_some_iff.1 h2).1
      exact ⟨b, p, h1, (hb.block _ hlt).trans h2, h3⟩
    opn := hs.opn
    inj := hs.inj }
  next := Nat.le_refl _
  fresh := fun _ _ e => .inl e
  size := hb.size
  kept := fun k hk _ => hb.block k hk
  own := fun i o b h1 h2 => .inr ⟨i, o, b, h1, h2, rfl⟩
  shape := fun k c t fr h => by
    have hlt : k < w.heap.size := (Array.getElem?_eq_some_iff.1 h).1
    exact ⟨c, fr, (hb.block _ hlt).trans h, rfl, .inl rfl⟩
  os := hb.os
  tape := hb.tape
  output := hb.output

def textsA : List Value → Option (List ByteArray)
  | [] => some []
  | .string b :: vs => (textsA vs).map (b :: ·)
  | _ => none

/-- What strings.Join does. -/
structure JoinDoes (P : Program) (f : FuncId) : Prop where
  many : ∀ (bk o c : Nat) (xs : List ByteArray) (sep : ByteArray) (w : World), (∀ (j : Nat) x, xs[j]? = some x → w.cell? ⟨bk, o + j, none⟩ = some (.string x)) → bk < w.heap.size → xs.length ≤ 140737488355328 → xs.length ≤ c →
    (Lib.join (xs.map (·.data.toList)) sep.data.toList).length ≤ 140737488355328 →
    Calls P f #[.slice (some ⟨bk, o, none⟩) xs.length c, .string sep] w fun e w' => e = .returned (.string ⟨(Lib.join (xs.map (·.data.toList)) sep.data.toList).toArray⟩) ∧ Go.RowKit.Below w.heap.size w w'

def findJ (l : List UInt8) : List (List UInt8) → Option (List UInt8)
  | [] => none
  | x :: xs => match beqL x l with
    | true => some x
    | false => findJ l xs

theorem findJ_eq {l r : List UInt8} : ∀ {xs : List (List UInt8)}, findJ l xs = some r → r = l
  | [], h => by cases h
  | x :: xs, h => by
    unfold findJ at h
    split at h
    · rename_i e
      cases h
      rw [beqL_eq] at e
      exact eq_of_beq e
    · exact findJ_eq h

/-- The texts that may come out are given, so that they stand written out. -/
def joinG (tab : List (List UInt8)) : Prim := fun args s K => match args with
  | [.slice (some a) (n + 1) _, .string sep] => match loadN s a (n + 1) with
    | some vs => match textsA vs with
      | some xs => match findJ (Lib.join (xs.map (·.data.toList)) sep.data.toList) tab with
        | some r => match andB (Nat.ble r.length 1000000) (Nat.ble n 1000000) with
          | true => K (.string ⟨⟨r⟩⟩) s
          | false => False
        | none => False
      | none => False
    | none => False
  | _ => False

theorem textsA_length : ∀ {vs : List Value} {xs : List ByteArray}, textsA vs = some xs → xs.length = vs.length
  | [], xs, h => by cases h; rfl
  | v :: vs, xs, h => by
    unfold textsA at h
    split at h
    · rename_i e; cases e
    · rename_i e
      cases e
      obtain ⟨ys, h1, rfl⟩ := map_some h
      simp [textsA_length h1]
    · cases h

theorem textsA_get : ∀ {vs : List Value} {xs : List ByteArray}, textsA vs = some xs → ∀ (j : Nat) x, xs[j]? = some x → vs[j]? = some (.string x)
  | [], xs, h, j, x, hx => by cases h; simp at hx
  | v :: vs, xs, h, j, x, hx => by
    unfold textsA at h
    split at h
    · rename_i e; cases e
    · rename_i e
      cases e
      obtain ⟨ys, h1, rfl⟩ := map_some h
      cases j with
      | zero => simp at hx; subst hx; rfl
      | succ j => exact textsA_get h1 j x (by simpa using hx)
    · cases h

theorem join_ok {f : FuncId} (J : JoinDoes P f) (tab : List (List UInt8)) : PrimOk P f (joinG tab) := by
  intro args s K hg μ w cargs cs gd hargs
  unfold joinG at hg
  split at hg
  case h_2 => exact hg.elim
  rename_i a n k sep
  split at hg
  case h_2 => exact hg.elim
  rename_i vs hload
  split at hg
  case h_2 => exact hg.elim
  rename_i xs htx
  split at hg
  case h_2 => exact hg.elim
  rename_i r hfind
  split at hg
  case h_2 => exact hg.elim
  rename_i hle
  obtain ⟨l1, l2⟩ := andB_true.1 hle
  rw [Nat.ble_eq] at l1 l2
  have hr := findJ_eq hfind
  subst hr
  obtain ⟨cb, cap, x', rfl, hb, hx⟩ := args2 hargs
  cases hx
  obtain ⟨q, rfl, hq⟩ := hb.adr (.inl (Nat.succ_pos n))
  have hcap := hb.sliceCap
  unfold loadN at hload
  simp only at hload
  split at hload
  · cases hload
  obtain ⟨⟨rs, e⟩, h1, hw⟩ := bind_some hload
  obtain ⟨b, ds, fr, k1, k2, k3, _⟩ := gd.sim.row (row_some h1)
  obtain ⟨_, k7, b', k8, k9, k10⟩ := hq
  rw [k1] at k8; cases k8
  have hlen : xs.length = n + 1 := by rw [textsA_length htx]; exact window_len hw
  obtain ⟨qb, qo, qs⟩ := q
  simp only at k7 k9 k10
  subst k7 k9
  have hcells : ∀ (j : Nat) x, xs[j]? = some x → w.cell? ⟨b.block, qo + j, none⟩ = some (.string x) := by
    intro j x hj
    have h2 := textsA_get htx j x hj
    obtain ⟨h3, _⟩ := window_get hw j _ h2
    obtain ⟨u, k4, k5⟩ := k3 _ _ h3
    cases k5
    have : ds[qo + j]? = some (.string x) := by rw [k10, Nat.add_assoc]; exact k4
    simp [World.cell?, k2, this]
  have hlt : b.block < w.heap.size := (Array.getElem?_eq_some_iff.1 k2).1
  have hc := J.many b.block qo cap xs sep w hcells hlt (by omega) (by rw [hlen]; exact hcap.2.2) (by omega)
  rw [hlen] at hc
  obtain ⟨_, w', fr', ⟨rfl, hbel⟩, st, hfn, hl⟩ := hc cs
  exact ⟨_, s, μ, w', hg, below_moved gd.sim hbel, _, fr', .string _, hfn, hl.2.2.1, ⟨hl.1, hl.2.1, hl.2.2.2⟩, st⟩

end
end Go.Ab

/- A run over several of the program's variables, whose cells no relation turns. Conditions: as said. -/
namespace Go.Ab

variable {P : Program} {ext : Ext} {oks : FuncId → Bool} {pr : Prims}

/-- A value that is related to itself alone, wherever the program's variables are where they are. -/
def Fix (P : Program) (v : Value) : Prop := ∀ μ : Mp, (∀ g, g < P.globals.size + 1 → μ g = some ⟨g, 0, none⟩) → VRel μ v v ∧ ∀ u, VRel μ v u → u = v

theorem fix_plain {v : Value} (h : plainV v = true) : Fix P v := fun μ _ => ⟨plainV_rel μ h, fun _ hr => plainV_same h hr⟩

/-- A handle: a pointer behind the last variable, in a struct, in an interface. -/
theorem fix_handle (t : TypeId) (off : Nat) : Fix P (.iface t (.agg #[.pointer (some ⟨P.globals.size, off, none⟩)])) := by
  intro μ hm
  have hG := hm P.globals.size (Nat.lt_succ_self _)
  have hA : ARel μ ⟨P.globals.size, off, none⟩ ⟨P.globals.size, off, none⟩ := ⟨rfl, rfl, _, hG, rfl, (Nat.zero_add _).symm⟩
  refine ⟨.iface t (.aggL (.cons (.ptr hA) .nil)), fun u hu => ?_⟩
  cases hu with
  | iface _ hx =>
  cases hx with
  | @agg xs ys hs hi =>
  have hl := LRel.of_arrays hs hi
  obtain ⟨l⟩ := ys
  simp only at hl
  cases hl with
  | @cons _ y _ ys hy hys =>
  cases hys
  cases hy with
  | @ptr _ c hc =>
  obtain ⟨_, c2, bb, c3, c4, c5⟩ := hc
  simp only at c3 c5
  rw [hG] at c3; cases c3
  obtain ⟨cb, co, csp⟩ := c
  simp only at c2 c4 c5
  subst c2 c4
  rw [Nat.zero_add] at c5
  subst c5
  rfl

abbrev Vars := List (Nat × List Value × TypeId)
def knownOf (l : Vars) : Known := l.map fun x => (x.1, .cells x.2.1 x.2.2)

theorem fix_list {μ : Mp} (hm : ∀ g, g < P.globals.size + 1 → μ g = some ⟨g, 0, none⟩) {vs : List Value} {cs : Array Value} (hp : ∀ v ∈ vs, Fix P v) (h : ∀ (j : Nat) (v : Value), vs[j]? = some v → ∃ u, cs[0 + j]? = some u ∧ VRel μ v u) (hs : cs.size = vs.length) : cs.toList = vs := by
  apply List.ext_getElem?
  intro j
  by_cases hj : j < vs.length
  · obtain ⟨u, h1, h2⟩ := h j vs[j] (List.getElem?_eq_getElem hj)
    have := (hp vs[j] (List.getElem_mem hj) μ hm).2 u h2
    rw [Nat.zero_add] at h1
    rw [Array.getElem?_toList, h1, this, List.getElem?_eq_getElem hj]
  · rw [List.getElem?_eq_none (by simp; omega), List.getElem?_eq_none (by omega)]

theorem start_at {i : Nat} {b : Blk} (h : Mp.start P i = some b) : b = ⟨i, 0, none⟩ := by
  unfold Mp.start at h
  split at h
  · cases h; rfl
  · cases h

/-- A world where some variables hold such cells: what a run over them alone leaves of the world. -/
theorem run_overs {gs : Vars} {w : World} {f : FuncId} {v : Value} (S : Sound P ext oks pr) (htt : ∀ x ∈ gs, P.underlying x.2.2 ≠ some (.int .u8)) (hp : ∀ x ∈ gs, ∀ v ∈ x.2.1, Fix P v) (hg : ∀ x ∈ gs, x.1 < P.globals.size + 1)
    (hw : ∀ x ∈ gs, ∃ cs, w.heap[x.1]? = some (.cells cs x.2.2 (0, 0)) ∧ cs.toList = x.2.1) (hv : plainA v = true) {n : Nat}
    (hrun : must P ext oks pr n (.call f [] false .run) { heap := heapK (knownOf gs), next := (P.globals.size + 1) } (fun o s => retOk v (knownOf gs) o s = true) = (true = true)) :
    Calls P f #[] w fun e w' => e = .returned v ∧ ∀ may, w.keptBut w' may := by
  have hrun := of_eq hrun rfl
  have hget : ∀ i o, (heapK (knownOf gs)).get i = some o → ∃ x ∈ gs, i = x.1 ∧ o = .cells x.2.1 x.2.2 := fun i o hi => by
    rw [heapK_get] at hi
    have := lookK_mem _ _ _ hi
    simp only [knownOf, List.mem_map, Prod.mk.injEq] at this
    obtain ⟨x, h1, rfl, rfl⟩ := this
    exact ⟨x, h1, rfl, rfl⟩
  have hst : ∀ g, g < P.globals.size + 1 → Mp.start P g = some ⟨g, 0, none⟩ := fun g h => by unfold Mp.start; rw [if_pos h]
  have hrel : ∀ x ∈ gs, ∀ cs : Array Value, cs.toList = x.2.1 → ORel (Mp.start P) ⟨x.1, 0, none⟩ (.cells x.2.1 x.2.2) (.cells cs x.2.2 (0, 0)) := fun x hx cs hcs => by
    refine .cells (fun j u hj => ?_) (.inl rfl) ?_ ?_
    · refine ⟨u, by rw [Nat.zero_add, ← Array.getElem?_toList, hcs]; exact hj, ?_⟩
      exact (hp x hx u (List.mem_of_getElem? hj) _ hst).1
    · rw [← hcs]; simp
    · exact ⟨rfl, by rw [← hcs]; simp⟩
  have g0 : Good P (Mp.start P) { heap := heapK (knownOf gs), next := (P.globals.size + 1) } w := {
    sim := {
      live := fun i o hi => by
        obtain ⟨x, hx, rfl, rfl⟩ := hget i o hi
        obtain ⟨cs, hc1, hc2⟩ := hw x hx
        exact ⟨⟨x.1, 0, none⟩, _, hst _ (hg x hx), hc1, hrel x hx cs hc2⟩
      opn := fun i b t z n h1 h2 => by
        have := start_at h1
        subst this
        cases h2
      inj := fun i j o q b c hi hj h1 h2 e => by
        have e1 := start_at h1
        have e2 := start_at h2
        subst e1 e2
        exact e }
    fresh := fun i hi => by
      unfold Mp.start
      rw [if_neg]
      have : (P.globals.size + 1) ≤ i := hi
      omega
    globals := hst }
  refine (must_calls S.orders S.ext S.prims S.oks hrun g0 (cargs := #[]) .nil).mono fun e w' ⟨o, s', μ', hq, mv, hr⟩ => ?_
  unfold retOk at hq
  split at hq
  case h_2 => cases hq
  rename_i u um
  obtain ⟨q1, q2⟩ := andB_true.1 hq
  have q1 := eqV_sound q1
  subst q1
  have hm' : ∀ g, g < P.globals.size + 1 → μ' g = some ⟨g, 0, none⟩ := fun g h => mv.le g _ (hst g h)
  cases e with
  | panicked c => exact (show False from hr).elim
  | outgrown => exact (show False from hr).elim
  | returned c =>
    have hr : VRel μ' u c := hr
    have := plainA_same hv hr
    subst this
    refine ⟨rfl, fun may => ⟨mv.os, mv.output, fun i hi => ?_⟩⟩
    by_cases hig : ∃ x ∈ gs, i = x.1
    · obtain ⟨x, hx, rfl⟩ := hig
      have hg' := holdsK_mem _ q2 x.1 (.cells x.2.1 x.2.2) (by simp only [knownOf, List.mem_map]; exact ⟨x, hx, rfl⟩)
      obtain ⟨b, p, k1, k2, k3⟩ := mv.sim.live _ _ hg'
      have hb := hm' x.1 (hg x hx)
      rw [k1] at hb; cases hb
      obtain ⟨cs, hc1, hcs⟩ := hw x hx
      obtain ⟨c', fr', h1, h2, hfr⟩ := mv.shape x.1 cs x.2.2 (0, 0) hc1
      have hfr := hfr.resolve_right (htt x hx)
      subst hfr
      have k2 : w'.heap[x.1]? = some p := k2
      rw [h1] at k2; cases k2
      cases k3 with
      | cells m1 m2 m3 m4 =>
      have hsz : c'.size = x.2.1.length := by rw [h2, ← hcs]; simp
      have hc' := fix_list hm' (hp x hx) m1 hsz
      have hcc : c' = cs := Array.ext' (by rw [hc', hcs])
      subst hcc
      rw [hc1, h1]
      exact ⟨rfl, rfl, rfl, fun _ _ => rfl⟩
    · have : w'.heap[i]? = w.heap[i]? := mv.kept i hi fun j q b hj hb x => by
        obtain ⟨y, hy, rfl, _⟩ := hget j q hj
        have := start_at hb
        subst this
        exact hig ⟨y, hy, x.symm⟩
      rw [this]
      exact (World.keptBut_refl w may).2.2 i hi

end Go.Ab
