/- What stands about the program alone: its library functions without a body, its constants. Conditions: none. -/
import Derived.Test.YtljlnlbkohchcaaGreatDoorAbFour
import Derived.Test.YtljlnlbkohchcaaGreatDoorAbFour
import Derived.Test.YtljlnlbkohchcaaGreatDoorProg
import Derived.Laws.Externs
import Derived.Lib.Bytealg
namespace Go.Proofs.YtljlnlbkohchcaaGreatDoor
open Go Go.Ab
noncomputable section
set_option maxRecDepth 100000

def addA : List Value → Option Value
  | [.int .u64 (.ofNat x), .int .u64 (.ofNat y), .int .u64 (.ofNat c)] => match Nat.blt c 2 with
    | true => some (.tuple #[.int .u64 (.ofNat ((x + y + c) % 18446744073709551616)), .int .u64 (.ofNat ((x + y + c) / 18446744073709551616))])
    | false => none
  | _ => none
def intA : Int → Value
  | .ofNat n => .int .i64 (.ofNat n)
  | .negSucc n => .int .i64 (.negSucc n)
def cntA : List Value → Option Value
  | [.string s, .int .u8 (.ofNat c)] => some (.int .i64 (.ofNat (Lib.countByte s.data.toList (Int.ofNat c).toNat.toUInt8)))
  | _ => none
def idxA : List Value → Option Value
  | [.string s, .int .u8 (.ofNat c)] => some (intA (Lib.indexByte s.data.toList (Int.ofNat c).toNat.toUInt8))
  | _ => none
def ext0 : Ext := fun f => match Nat.beq f 206 with
  | true => some addA
  | false => match Nat.beq f 248 with
    | true => some cntA
    | false => match Nat.beq f 309 with
      | true => some idxA
      | false => none
def yes : FuncId → Bool := fun _ => true
def fuel : Nat := 100000

def ExtOk1 (f : FuncId) (g : List Value → Option Value) : Prop := ∀ args v, g args = some v →
  ∀ (μ : Mp) (cargs : Array Value) (w : World), LRel μ args cargs.toList → ∃ u, (callFunc f cargs).run Tryz.prog w = .ok (.value u) w ∧ VRel μ v u

theorem add_ok : ExtOk1 206 addA := by
  intro args v hg μ cargs w hl
  unfold addA at hg
  split at hg
  case h_2 => cases hg
  rename_i x y c
  split at hg
  case h_2 => cases hg
  rename_i hc
  have hc : c < 2 := by simpa using hc
  cases hg
  have e : cargs = #[.int .u64 (.ofNat x), .int .u64 (.ofNat y), .int .u64 (.ofNat c)] := by
    obtain ⟨l⟩ := cargs
    have := plainAll_same (l := [.int .u64 (.ofNat x), .int .u64 (.ofNat y), .int .u64 (.ofNat c)]) rfl hl
    simp only at this
    rw [this]
  subst e
  refine ⟨_, ?_, plainA_rel μ (v := .tuple #[.int .u64 (.ofNat ((x + y + c) % 18446744073709551616)), .int .u64 (.ofNat ((x + y + c) / 18446744073709551616))]) rfl⟩
  have hx := run_add64 (P := Tryz.prog) (x : Int) (y : Int) (c : Int) (by omega) (by omega) (by omega) (by omega) w
  have hr : (callFunc 206 #[.int .u64 (.ofNat x), .int .u64 (.ofNat y), .int .u64 (.ofNat c)]).run Tryz.prog w = .ok (.value (.tuple #[.int .u64 (((x : Int) + y + c) % 18446744073709551616), .int .u64 (((x : Int) + y + c) / 18446744073709551616)])) w := by
    rw [run_callFunc_extern Tryz.func206 (by kernel_rfl) (by kernel_rfl) (by kernel_rfl) (e := add64Entry) (by kernel_rfl)]
    show ((add64Entry #[.int .u64 (x : Int), .int .u64 (y : Int), .int .u64 (c : Int)]).run Tryz.prog w).andThen _ = _
    rw [hx]
    rfl
  rw [hr]
  rfl

theorem text_args {μ : Mp} {s : ByteArray} {c : Nat} {cargs : Array Value} (hl : LRel μ [.string s, .int .u8 (.ofNat c)] cargs.toList) : cargs = #[.string s, .int .u8 (.ofNat c)] := by
  obtain ⟨l⟩ := cargs
  have := plainAll_same (l := [.string s, .int .u8 (.ofNat c)]) rfl hl
  simp only at this
  rw [this]

theorem cnt_ok : ExtOk1 248 cntA := by
  intro args v hg μ cargs w hl
  unfold cntA at hg
  split at hg
  case h_2 => cases hg
  rename_i s c
  cases hg
  have e := text_args hl
  subst e
  refine ⟨_, ?_, .int _ _⟩
  rw [run_callFunc_extern Tryz.func248 (by kernel_rfl) (by kernel_rfl) (by kernel_rfl) (e := Extern.BytealgCount.count) (by kernel_rfl), Lib.run_countString]
  rfl

theorem idx_ok : ExtOk1 309 idxA := by
  intro args v hg μ cargs w hl
  unfold idxA at hg
  split at hg
  case h_2 => cases hg
  rename_i s c
  cases hg
  have e := text_args hl
  subst e
  have ei : ∀ n : Int, intA n = .int .i64 n := fun n => by cases n <;> rfl
  rw [ei]
  refine ⟨_, ?_, .int _ _⟩
  rw [run_callFunc_extern Tryz.func309 (by kernel_rfl) (by kernel_rfl) (by kernel_rfl) (e := Extern.BytealgIndexByte.indexByte) (by kernel_rfl), Lib.run_indexByteString]
  rfl

theorem ext_ok : ExtOk Tryz.prog ext0 := by
  intro f g args v hf hg
  unfold ext0 at hf
  split at hf
  · rename_i hb
    cases hf
    have hb := Nat.eq_of_beq_eq_true hb
    subst hb
    exact add_ok args v hg
  · split at hf
    · rename_i hb
      cases hf
      have hb := Nat.eq_of_beq_eq_true hb
      subst hb
      exact cnt_ok args v hg
    · split at hf
      · rename_i hb
        cases hf
        have hb := Nat.eq_of_beq_eq_true hb
        subst hb
        exact idx_ok args v hg
      · cases hf

def bodyOk (fn : Func) : Bool := match fn.body with
  | some b => codeOk Tryz.prog b
  | none => true
theorem all_ok : Tryz.prog.funcs.toList.all bodyOk = true := by kernel_rfl
theorem oks_ok : OksOk Tryz.prog yes := by
  intro f fn body _ hf hb
  have hm : fn ∈ Tryz.prog.funcs.toList := by
    rw [Array.mem_toList_iff]
    exact Array.mem_of_getElem? hf
  have := List.all_eq_true.1 all_ok fn hm
  unfold bodyOk at this
  rw [hb] at this
  exact this
theorem orders : Tryz.prog.follows .mixedOrders = true := by kernel_rfl
theorem sound_of {l : PT} (h : ∀ p ∈ l, PrimOk Tryz.prog p.1 p.2) : Sound Tryz.prog ext0 yes (prOf l) := ⟨orders, ext_ok, prOf_ok l h, oks_ok⟩
def vars0 : Vars := [(0, [.iface 182 (.agg #[.pointer (some ⟨12, 69, none⟩)])], 130)]
theorem s0 : Sound Tryz.prog ext0 yes (prOf []) := sound_of (by intro p h; cases h)

end
end Go.Proofs.YtljlnlbkohchcaaGreatDoor
