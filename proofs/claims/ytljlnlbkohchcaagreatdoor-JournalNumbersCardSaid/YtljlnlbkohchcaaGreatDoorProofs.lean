/- JournalNumbers answers true, whatever the memory in which it is called, where the variables that it names hold what the program's text lays. -/
import Derived.Test.YtljlnlbkohchcaaGreatDoorRows
import Derived.Test.YtljlnlbkohchcaaGreatDoorRunMain
import Derived.Test.YtljlnlbkohchcaaGreatDoorFacts
import Derived.Test.YtljlnlbkohchcaaGreatDoorAbFour
import Derived.ChangeSame
import Derived.ChangeVars
import Derived.JoinedOf
import Derived.RowKit
import Derived.RowKitTokens
import Derived.LaidLaws
import Derived.LaidHandle
import Derived.Stop.Joined
namespace Go.Proofs.YtljlnlbkohchcaaGreatDoor
open Go Go.Ab Go.ChangeShapes Go.WideShapes Go.RowKit

theorem own : ownKnob Tryz.prog.godebug = none := by kernel_rfl

def flat1 : DataW Unit → List Value
  | .lit (.int k n) => [.int k n]
  | _ => []
def flat2 : DataW Unit → List Value
  | .lit (.int k n) => [.int k n]
  | .agg l => l.flatMap flat1
  | _ => []
def flat3 : DataW Unit → List Value
  | .agg l => l.flatMap flat2
  | _ => []

def lay (g : Nat) (vs : List Value) (h : Array Obj) : Array Obj := h.modify g fun
  | .cells _ t frozen => .cells vs.toArray t frozen
  | o => o

def textR : ByteArray := { data := #[118, 97, 108, 117, 101, 32, 111, 117, 116, 32, 111, 102, 32, 114, 97, 110, 103, 101] }
def textS : ByteArray := { data := #[105, 110, 118, 97, 108, 105, 100, 32, 115, 121, 110, 116, 97, 120] }
noncomputable def low : Nat := (World.holding Tryz.prog default ⟨#[], #[], []⟩).heap.size
def handle0 : Value := .iface 182 (.agg #[.pointer (some ⟨12, 69, none⟩)])

/-- A world that meets the condition: the settled one, the variables laid. -/
noncomputable def laidWorld (os : Os) : World :=
  let w0 := World.holding Tryz.prog os ⟨#[.cells #[.string textR] 441, .cells #[.string textS] 441], #[], []⟩
  { w0 with heap := lay 0 [handle0] (lay 1 (flat3 Rows.laid_backfill_ladder_rungs) (lay 2 (flat3 Rows.laid_internal_strconv_uint64pow10) (lay 4 [.iface 439 (.pointer (some ⟨low + 1, 0, none⟩))] (lay 5 [.iface 439 (.pointer (some ⟨low, 0, none⟩))]
    (lay 8 (flat3 Rows.laid_math_bits_deBruijn32tab) (lay 9 (flat3 Rows.laid_math_bits_deBruijn64tab) (lay 10 (flat3 Rows.laid_unicode_utf8_first) (lay 11 (flat3 Rows.laid_unicode_utf8_acceptRanges) w0.heap)))))))) }

theorem laid_hand : (Rows.journalNumbersRow.laid.filter fun x => x.2.handleName?.isSome) = [("errors.errorType", Rows.laid_errors_errorType)] := by kernel_rfl
theorem laidWorld_met (os : Os) (args : Array Value) : laidMetH Tryz.prog Rows.journalNumbersRow.laid ((laidWorld os).forCall (fun _ _ => 0) ⟨#[], args, []⟩).memory :=
  laidMetH_of_parts (laidMet_of_run' 8 (by kernel_rfl) (by kernel_rfl)) (by kernel_rfl)

theorem named0 : Tryz.prog.globalNamed "errors.errorType" = some 0 := by kernel_rfl
theorem globs : Tryz.prog.globals.size = 12 := by kernel_rfl
theorem rt : (Tryz.prog.cutTypes.find? (·.1 == "internal/reflectlite.rtype")).map (·.2) = some 182 := by kernel_rfl
theorem tsize : Tryz.prog.types.size = 482 := by kernel_rfl
theorem oneRow : ((List.range 482).filter fun t => Tryz.prog.rowNamed t [101, 114, 114, 111, 114]) = [69] := by kernel_rfl
theorem handle69 : typeHandle Tryz.prog 69 = .pointer (some ⟨12, 69, none⟩) := by kernel_rfl

/-- What the condition says of the variable's block. -/
theorem handle_of_laid {W : World} {t : TypeId} {cs : Array Value} (hw : W.heap[0]? = some (.cells cs t (0, 0))) (h : laidMetH Tryz.prog Rows.journalNumbersRow.laid W) : cs.toList = [handle0] := by
  unfold laidMetH at h
  rw [laid_hand] at h
  obtain ⟨_, h2⟩ := h
  obtain ⟨name, u, ty, e1, e2, e3, e4, e5⟩ := h2 _ (List.mem_singleton.2 rfl)
  have en : name = [101, 114, 114, 111, 114] := (Option.some.inj e1).symm
  subst en
  have eu := Option.some.inj (rt.symm.trans e2)
  subst eu
  have hm : ty ∈ (List.range 482).filter fun t => Tryz.prog.rowNamed t [101, 114, 114, 111, 114] := List.mem_filter.2 ⟨List.mem_range.2 (by rw [← tsize]; exact e3), e4⟩
  rw [oneRow] at hm
  have ht := List.mem_singleton.1 hm
  subst ht
  rw [handle69] at e5
  have e6 : W.var? Tryz.prog "errors.errorType" = some cs := by
    unfold World.var?
    rw [named0]
    simp only [Option.bind_some, hw]
  have e7 := Option.some.inj (e6.symm.trans e5)
  rw [e7]
  rfl

theorem row0 : ((begin Tryz.prog (fun _ _ => 0) default).world.heap[0]?).bind Obj.row? = some (#[.nilIface], 130) := by kernel_rfl

theorem vars_eq : vars0 = [(0, [handle0], 130)] := rfl
theorem under130 : Tryz.prog.underlying 130 ≠ some (.int .u8) := by
  have h : (match Tryz.prog.underlying 130 with | some (.int _) => false | _ => true) = true := by kernel_rfl
  intro e
  rw [e] at h
  cases h

theorem runs {W : World} {cs : Array Value} (hw : W.heap[0]? = some (.cells cs 130 (0, 0))) (h : laidMetH Tryz.prog Rows.journalNumbersRow.laid W) :
    Calls Tryz.prog 3 #[] W fun e w' => e = .returned (.bool true) ∧ ∀ may, W.keptBut w' may := by
  refine run_overs (gs := vars0) s3 ?_ ?_ ?_ ?_ (v := .bool true) rfl (n := fuel) runMain
  · intro x hx
    rw [vars_eq] at hx
    have := List.mem_singleton.1 hx
    subst this
    exact under130
  · intro x hx v hv
    rw [vars_eq] at hx
    have := List.mem_singleton.1 hx
    subst this
    have := List.mem_singleton.1 hv
    subst this
    have hf := fix_handle (P := Tryz.prog) 182 69
    rw [globs] at hf
    exact hf
  · intro x hx
    rw [vars_eq] at hx
    have := List.mem_singleton.1 hx
    subst this
    exact Nat.succ_pos _
  · intro x hx
    rw [vars_eq] at hx
    have := List.mem_singleton.1 hx
    subst this
    exact ⟨cs, hw, handle_of_laid hw h⟩

theorem params3 : Tryz.f3.params = #[] := by kernel_rfl
theorem results3 : Tryz.f3.resultTypes = #[4] := by kernel_rfl
theorem under4 : Tryz.prog.underlying 4 = some .bool := by kernel_rfl

theorem law_lifted (os : Os) (started : os.Started) (H : Type) (enc : TypeId × Value → H) :
    ReturnsInHanded {} Tryz.checked os 3 .any (fun w args => (Rows.journalNumbersSpec.pre enc Tryz.prog Tryz.f3 [] false w args ∧ laidMetH Tryz.prog Rows.journalNumbersRow.laid w) ∧ sizedMet enc Tryz.prog Tryz.f3 (OpenSpec.ofChange Rows.journalNumbersSpec) false w args)
      (Rows.journalNumbersSpec.post enc Tryz.prog Tryz.f3 false true false false) := by
  refine returnsInHanded_of_calls (C := Tryz.checked) own started (by kernel_rfl)
    (ChangeSpec.witness_at (enc := enc) (C := Tryz.checked) (os := os) (X := fun w _ => laidMetH Tryz.prog Rows.journalNumbersRow.laid w) false (laidWorld os) #[] 8 rfl (by kernel_rfl) (by kernel_rfl) (by kernel_rfl) (by kernel_rfl) (by kernel_rfl) (laidWorld_met os _)) ?_
  intro w tape i _ hsh _ hok hpre _
  obtain ⟨_, _, _, fn', hfn', _, _, _, _, hval⟩ := hok
  obtain ⟨⟨⟨ds, gs, before, hw, hc⟩, hx⟩, hz⟩ := hpre
  have hw' := DataW.Whole.of_heap (w' := w.forCall tape i) (by rfl) hw
  obtain ⟨cs, hcs, _, _⟩ := hsh.1 0 _ _ (by show 0 < Tryz.prog.globals.size; rw [globs]; omega) row0
  have hlaid : laidMetH Tryz.prog Rows.journalNumbersRow.laid (w.forCall tape i) := hx.of_heap (by rfl)
  have hargs : i.args = #[] ∧ ds = [] ∧ gs = [] := by
    obtain ⟨p, q, hA0, hV0, _⟩ := hw'
    rw [params3] at hA0
    have hA : DataW.TrodAll enc Tryz.prog (w.forCall tape i) 0 (fun _ => true) true [] i.args.toList ds p := hA0
    have hV : DataW.TrodVars enc Tryz.prog (w.forCall tape i) (fun _ => true) [] gs q := hV0
    refine ⟨?_, ?_, ?_⟩
    · cases ha : i.args.toList with
      | nil => exact Array.ext' ha
      | cons a r => rw [ha] at hA; exact absurd hA (by intro h; cases h)
    · cases hd : ds with
      | nil => rfl
      | cons a r =>
        rw [hd] at hA
        cases ha : i.args.toList with
        | nil => rw [ha] at hA; exact absurd hA (by intro h; cases h)
        | cons _ _ => rw [ha] at hA; exact absurd hA (by intro h; cases h)
    · cases gs with
      | nil => rfl
      | cons g r => exact absurd hV (by intro h; cases h)
  obtain ⟨ha, rfl, rfl⟩ := hargs
  show Calls Tryz.prog 3 i.args _ _
  rw [ha] at hw' ⊢
  refine (runs hcs hlaid).mono fun e W' ⟨he, hk⟩ => ?_
  subst he
  refine ChangeSpec.post_blind ⟨[], [], before, [], [], [], hw', ?_, ?_, ?_, hk _, fun h => by cases h⟩
  · rw [results3]
    exact trodAll_mk1 (shut_bool under4 true)
  · rw [params3]
    exact rfl
  · exact rfl

theorem named3 : Tryz.prog.funcNamed "backfill/backfilllaw23.JournalNumbers" = some 3 := by kernel_rfl
theorem said : Rows.JournalNumbersSaid :=
  OpenClaim.holds_of_wide 3 Tryz.f3 rfl rfl rfl rfl rfl rfl rfl ⟨rfl, rfl, rfl, rfl, rfl⟩ rfl rfl rfl rfl rfl named3 Tryz.func3 joinedF
    (of_decide_eq_true (by kernel_rfl)) (by unfold Func.isWrapper; rw [if_neg (of_decide_eq_false (by kernel_rfl))]; exact ⟨rfl, rfl⟩)
    (fun os started H enc _ => law_lifted os started H enc)
#print axioms said
end Go.Proofs.YtljlnlbkohchcaaGreatDoor
