/-
  The document's forms, by the evaluator.
-/
import Derived.Test.YtcffnkgjmneaeaaGreatDoorFbB
import Derived.Test.YtcffnkgjmneaeaaGreatDoorEval
namespace Go.Stx
open Go Go.Proofs
attribute [local irreducible] AWP LWalk ACall ARounds lops nops
set_option linter.unusedVariables false
set_option linter.unusedSimpArgs false
set_option linter.unusedSectionVars false
set_option maxRecDepth 20000
variable [Gl]

/-- r, s, t: registers; i: any number; f: a function; j: a jump; a: attempts; c: a class. -/
def refForm : Nat → List UInt8
  | 1 => [114, 105] | 2 => [114, 115] | 3 => [114, 115, 116, 102] | 4 => [106] | 5 => [114, 106] | 6 => [114, 106] | 7 => [97]
  | 10 => [114, 115, 105] | 11 => [114, 115, 105] | 12 => [114, 115, 105] | 13 => [114, 115, 105] | 14 => [114, 99] | 15 => [114] | 17 => [114]
  | _ => []
noncomputable def formVal (k : Nat) : Option Value := evVal Tryz.prog [(86, [])] noCalls 4 86 [.int .i64 (.ofNat k)]
def isForm (k : Nat) : Option Value → Bool
  | some (.string s) => decide (s.data.toList = refForm k)
  | _ => false
theorem forms_ok : ((List.range 18).all fun k => isForm k (formVal k)) = true := by kernel_rfl
theorem formVal_eq {k : Nat} (hk : k < 18) : formVal k = some (.string (bs (refForm k))) := by
  have h := List.all_eq_true.1 forms_ok k (List.mem_range.2 hk)
  unfold isForm at h
  split at h
  · rename_i s hs
    have e := of_decide_eq_true h
    rw [hs, bs, ← e]
  · cases h
theorem form_call (hn : Gl.N = 4) {k : Nat} (hk : k < 18) (A : AW) : ACall Tryz.prog 86 [.int .i64 k] A (fun u A' => u = .string (bs (refForm k)) ∧ A = A') :=
  evVal_call noCalls_ok (by kernel_rfl) Tryz.mx hn (formVal_eq hk) (by simp [scalarV]) rfl A
end Go.Stx
