/- PlanNames answers true, whatever the memory in which it is called, where the table ladder.rungs holds what the program's text lays. -/
import Derived.Test.YtlmlhmphaidnoaaGreatDoorRows
import Derived.Test.YtlmlhmphaidnoaaGreatDoorRunMain
import Derived.Test.YtlmlhmphaidnoaaGreatDoorFacts
import Derived.Test.YtlmlhmphaidnoaaGreatDoorAbFour
import Derived.ChangeSame
import Derived.ChangeVars
import Derived.JoinedOf
import Derived.RowKit
import Derived.RowKitTokens
import Derived.LaidLaws
import Derived.LaidHandle
import Derived.Stop.Joined
namespace Go.Proofs.YtlmlhmphaidnoaaGreatDoor
open Go Go.Ab Go.ChangeShapes Go.WideShapes Go.RowKit

theorem own : ownKnob Tryz.prog.godebug = none := by kernel_rfl

def words : List Int := [13043817825332782212, 15511800964685064948, 16915738899553466670, 17664662643191237676, 18051468387014017850, 18248035989933441396, 18347121020861646923, 18396865112328554660, 18421787711448657617, 18434261669329232139, 18440501815349552981, 18443622680442407997, 18445183311048607331, 18445963675871538003, 18446353870663572144, 18446548971154807801, 18446646522174239824, 18446695297877410578, 18446719685777359790, 18446731879739425373, 18446737976723480911, 18446741025216264367, 18446742549462845017, 18446743311586182573, 18446743692647863158, 18446743883178706403, 18446743978444128763, 18446744026076840128, 18446744049893195856, 18446744061801373732, 18446744067755462673, 18446744070732507144]

theorem laid_words {H : Type} : (Rows.laid_backfill_ladder_rungs : DataW H) = .agg (words.map fun n => .lit (.int .u64 n)) := rfl

/-- A world that meets the condition: the settled one, the table laid. -/
noncomputable def laidWorld (os : Os) : World :=
  let w0 := World.holding Tryz.prog os ⟨#[], #[], []⟩
  { w0 with heap := w0.heap.modify 0 fun
      | .cells _ t frozen => .cells (words.map fun n => Value.int .u64 n).toArray t frozen
      | o => o }

theorem laid_notall : (Rows.planNamesRow.laid.filter fun x => x.2.handleName?.isSome) = [] := by kernel_rfl
theorem laid_all : (Rows.planNamesRow.laid.filter fun x => x.2.handleName?.isNone) = Rows.planNamesRow.laid := by kernel_rfl
theorem laidWorld_met (os : Os) (args : Array Value) : laidMetH Tryz.prog Rows.planNamesRow.laid ((laidWorld os).forCall (fun _ _ => 0) ⟨#[], args, []⟩).memory :=
  laidMetH_of_parts (by rw [laid_all]; exact laidMet_of_run' 8 (by kernel_rfl) (by kernel_rfl)) (by kernel_rfl)

theorem under273 : Tryz.prog.underlying 273 = some (.array words.length 45) := by kernel_rfl
theorem under45 : Tryz.prog.underlying 45 = some (.int .u64) := by kernel_rfl
theorem cells45 : Tryz.prog.cellsOf 45 = 1 := by kernel_rfl
theorem cells273 : Tryz.prog.cellsOf 273 = words.length := by kernel_rfl
theorem named0 : Tryz.prog.globalNamed "backfill/ladder.rungs" = some 0 := by kernel_rfl
theorem type0 : (Tryz.prog.globals[0]?).map (·.type) = some 273 := by kernel_rfl
theorem globs3 : Tryz.prog.globals.size = 3 := by kernel_rfl

theorem rungsK_words : rungsK = [(0, .cells (words.map fun n => .int .u64 n) 273)] := rfl

/-- What the condition says of the table's block. -/
theorem table_of_laid {W : World} {t : TypeId} {cs : Array Value} (hw : W.heap[0]? = some (.cells cs t (0, 0))) (h : laidMetH Tryz.prog Rows.planNamesRow.laid W) : cs.toList = words.map fun n => .int .u64 n := by
  unfold laidMetH at h
  rw [laid_notall] at h
  obtain ⟨ps, ⟨g, t', cs', fuel, p, q, h1, h2, h3, h4, _⟩, _⟩ := h
  have e0 := Option.some.inj (named0.symm.trans h1)
  subst e0
  have e1 := Option.some.inj (type0.symm.trans h2)
  subst e1
  have e2 : W.var? Tryz.prog "backfill/ladder.rungs" = some cs := by
    unfold World.var?
    rw [named0]
    simp only [Option.bind_some, hw]
  have e3 := Option.some.inj (e2.symm.trans h3)
  subst e3
  exact words_of_trod under273 under45 cells45 cells273 (by rw [← laid_words]; exact h4)

theorem row0 : ((begin Tryz.prog (fun _ _ => 0) default).world.heap[0]?).bind Obj.row? = some ((List.replicate 32 (Value.int .u64 0)).toArray, 273) := by kernel_rfl

theorem runs {W : World} {cs : Array Value} (hw : W.heap[0]? = some (.cells cs 273 (0, 0))) (h : laidMetH Tryz.prog Rows.planNamesRow.laid W) :
    Calls Tryz.prog 3 #[] W fun e w' => e = .returned (.bool true) ∧ ∀ may, W.keptBut w' may :=
  run_over (g := 0) (vs := words.map fun n => .int .u64 n) (t := 273) s3 (by kernel_rfl) (by rw [globs3]; omega) hw (table_of_laid hw h) (by kernel_rfl) (n := fuel) runMain

theorem params3 : Tryz.f3.params = #[] := by kernel_rfl
theorem results3 : Tryz.f3.resultTypes = #[4] := by kernel_rfl
theorem under4 : Tryz.prog.underlying 4 = some .bool := by kernel_rfl

theorem law_lifted (os : Os) (started : os.Started) (H : Type) (enc : TypeId × Value → H) :
    ReturnsInHanded {} Tryz.checked os 3 .any (fun w args => (Rows.planNamesSpec.pre enc Tryz.prog Tryz.f3 [] false w args ∧ laidMetH Tryz.prog Rows.planNamesRow.laid w) ∧ sizedMet enc Tryz.prog Tryz.f3 (OpenSpec.ofChange Rows.planNamesSpec) false w args)
      (Rows.planNamesSpec.post enc Tryz.prog Tryz.f3 false true false false) := by
  refine returnsInHanded_of_calls (C := Tryz.checked) own started (by kernel_rfl)
    (ChangeSpec.witness_at (enc := enc) (C := Tryz.checked) (os := os) (X := fun w _ => laidMetH Tryz.prog Rows.planNamesRow.laid w) false (laidWorld os) #[] 8 rfl (by kernel_rfl) (by kernel_rfl) (by kernel_rfl) (by kernel_rfl) (by kernel_rfl) (laidWorld_met os _)) ?_
  intro w tape i _ hsh _ hok hpre _
  obtain ⟨_, _, _, fn', hfn', _, _, _, _, hval⟩ := hok
  obtain ⟨⟨⟨ds, gs, before, hw, hc⟩, hx⟩, hz⟩ := hpre
  have hw' := DataW.Whole.of_heap (w' := w.forCall tape i) (by rfl) hw
  obtain ⟨cs, hcs, _, _⟩ := hsh.1 0 _ _ (by show 0 < Tryz.prog.globals.size; rw [globs3]; omega) row0
  have hlaid : laidMetH Tryz.prog Rows.planNamesRow.laid (w.forCall tape i) := hx.of_heap (by rfl)
  have hargs : i.args = #[] ∧ ds = [] ∧ gs = [] := by
    obtain ⟨p, q, hA0, hV0, _⟩ := hw'
    rw [params3] at hA0
    have hA : DataW.TrodAll enc Tryz.prog (w.forCall tape i) 0 (fun _ => true) true [] i.args.toList ds p := hA0
    have hV : DataW.TrodVars enc Tryz.prog (w.forCall tape i) (fun _ => true) [] gs q := hV0
    refine ⟨?_, ?_, ?_⟩
    · cases ha : i.args.toList with
      | nil => exact Array.ext' ha
      | cons a r => rw [ha] at hA; exact absurd hA (by intro h; cases h)
    · cases hd : ds with
      | nil => rfl
      | cons a r =>
        rw [hd] at hA
        cases ha : i.args.toList with
        | nil => rw [ha] at hA; exact absurd hA (by intro h; cases h)
        | cons _ _ => rw [ha] at hA; exact absurd hA (by intro h; cases h)
    · cases gs with
      | nil => rfl
      | cons g r => exact absurd hV (by intro h; cases h)
  obtain ⟨ha, rfl, rfl⟩ := hargs
  show Calls Tryz.prog 3 i.args _ _
  rw [ha] at hw' ⊢
  refine (runs hcs hlaid).mono fun e W' ⟨he, hk⟩ => ?_
  subst he
  refine ChangeSpec.post_blind ⟨[], [], before, [], [], [], hw', ?_, ?_, ?_, hk _, fun h => by cases h⟩
  · rw [results3]
    exact trodAll_mk1 (shut_bool under4 true)
  · rw [params3]
    exact rfl
  · exact rfl

theorem named3 : Tryz.prog.funcNamed "backfill/backfilllaw22.PlanNames" = some 3 := by kernel_rfl
theorem said : Rows.PlanNamesSaid :=
  OpenClaim.holds_of_wide 3 Tryz.f3 rfl rfl rfl rfl rfl rfl rfl ⟨rfl, rfl, rfl, rfl, rfl⟩ rfl rfl rfl rfl rfl named3 Tryz.func3 joined
    (of_decide_eq_true (by kernel_rfl)) (by unfold Func.isWrapper; rw [if_neg (of_decide_eq_false (by kernel_rfl))]; exact ⟨rfl, rfl⟩)
    (fun os started H enc _ => law_lifted os started H enc)
#print axioms said
end Go.Proofs.YtlmlhmphaidnoaaGreatDoor
