/- What stands about the program alone: its library functions without a body, its constants. Conditions: none. -/
import Derived.Test.YtlmlhmphaidnoaaGreatDoorAbFour
import Derived.Test.YtlmlhmphaidnoaaGreatDoorProg
import Derived.Laws.Externs
namespace Go.Proofs.YtlmlhmphaidnoaaGreatDoor
open Go Go.Ab
noncomputable section
set_option maxRecDepth 100000

def addA : List Value → Option Value
  | [.int .u64 (.ofNat x), .int .u64 (.ofNat y), .int .u64 (.ofNat c)] => match Nat.blt c 2 with
    | true => some (.tuple #[.int .u64 (.ofNat ((x + y + c) % 18446744073709551616)), .int .u64 (.ofNat ((x + y + c) / 18446744073709551616))])
    | false => none
  | _ => none
def ext0 : Ext := fun f => match Nat.beq f 249 with
  | true => some addA
  | false => none
def yes : FuncId → Bool := fun _ => true
def fuel : Nat := 100000

theorem ext_ok : ExtOk Tryz.prog ext0 := by
  intro f g args v hf hg μ cargs w hl
  unfold ext0 at hf
  split at hf
  case h_2 => cases hf
  rename_i hb
  cases hf
  have hb := Nat.eq_of_beq_eq_true hb
  subst hb
  unfold addA at hg
  split at hg
  case h_2 => cases hg
  rename_i x y c
  split at hg
  case h_2 => cases hg
  rename_i hc
  have hc : c < 2 := by simpa using hc
  cases hg
  have e : cargs = #[.int .u64 (.ofNat x), .int .u64 (.ofNat y), .int .u64 (.ofNat c)] := by
    obtain ⟨l⟩ := cargs
    have := plainAll_same (l := [.int .u64 (.ofNat x), .int .u64 (.ofNat y), .int .u64 (.ofNat c)]) rfl hl
    simp only at this
    rw [this]
  subst e
  refine ⟨_, ?_, plainA_rel μ (v := .tuple #[.int .u64 (.ofNat ((x + y + c) % 18446744073709551616)), .int .u64 (.ofNat ((x + y + c) / 18446744073709551616))]) rfl⟩
  have hx := run_add64 (P := Tryz.prog) (x : Int) (y : Int) (c : Int) (by omega) (by omega) (by omega) (by omega) w
  have hr : (callFunc 249 #[.int .u64 (.ofNat x), .int .u64 (.ofNat y), .int .u64 (.ofNat c)]).run Tryz.prog w = .ok (.value (.tuple #[.int .u64 (((x : Int) + y + c) % 18446744073709551616), .int .u64 (((x : Int) + y + c) / 18446744073709551616)])) w := by
    rw [run_callFunc_extern Tryz.func249 (by kernel_rfl) (by kernel_rfl) (by kernel_rfl) (e := add64Entry) (by kernel_rfl)]
    show ((add64Entry #[.int .u64 (x : Int), .int .u64 (y : Int), .int .u64 (c : Int)]).run Tryz.prog w).andThen _ = _
    rw [hx]
    rfl
  rw [hr]
  rfl

def bodyOk (fn : Func) : Bool := match fn.body with
  | some b => codeOk Tryz.prog b
  | none => true
theorem all_ok : Tryz.prog.funcs.toList.all bodyOk = true := by kernel_rfl
theorem oks_ok : OksOk Tryz.prog yes := by
  intro f fn body _ hf hb
  have hm : fn ∈ Tryz.prog.funcs.toList := by
    rw [Array.mem_toList_iff]
    exact Array.mem_of_getElem? hf
  have := List.all_eq_true.1 all_ok fn hm
  unfold bodyOk at this
  rw [hb] at this
  exact this
theorem orders : Tryz.prog.follows .mixedOrders = true := by kernel_rfl
theorem sound_of {l : PT} (h : ∀ p ∈ l, PrimOk Tryz.prog p.1 p.2) : Sound Tryz.prog ext0 yes (prOf l) := ⟨orders, ext_ok, prOf_ok l h, oks_ok⟩
theorem s0 : Sound Tryz.prog ext0 yes (prOf []) := sound_of (by intro p h; cases h)

end
end Go.Proofs.YtlmlhmphaidnoaaGreatDoor
