/-
  What the evaluator is told of isa.Check.
-/
import Derived.Test.YtcffnkgjmneaeaaGreatDoorFbK
import Derived.Test.YtcffnkgjmneaeaaGreatDoorEvalF
namespace Go.Stx
open Go
open Go.Proofs
set_option linter.unusedVariables false
set_option linter.unusedSimpArgs false
set_option linter.unusedSectionVars false
variable [Gl]

/-! ### What the evaluator is told of calls that it does not run -/

noncomputable section
def insDec : List Value → Option InsV
  | [.int .i64 op, .int .i64 a, .int .i64 b, .int .i64 c, .int .i64 imm] => some ⟨op, a, b, c, imm⟩
  | _ => none
theorem insDec_cells {l : List Value} {x : InsV} (h : insDec l = some x) : l = insCells x := by
  unfold insDec at h
  split at h
  · injection h with h
    subst h
    rfl
  · cases h

def baseIsa (args : List Value) (m : EM) : Option (Value × EM) :=
  match args with
  | [.agg ⟨l⟩] =>
    match insDec l with
    | some x => fInt (insErr x) fun e => some (.int .i64 e, m)
    | none => none
  | _ => none
def baseIs : ECall := fun f args m =>
  match Nat.beq f 83 with
  | true => baseIsa args m
  | false => none

theorem baseIs_ok (hF : FOK) : baseIs.Ok Tryz.prog := by
  intro f args m v m' h
  unfold baseIs at h
  split at h
  · rename_i e
    have e := Nat.eq_of_beq_eq_true e
    subst e
    unfold baseIsa at h
    split at h
    · rename_i l
      split at h
      · rename_i x hx
        rw [fInt_eq] at h
        simp only [Option.some.injEq, Prod.mk.injEq] at h
        obtain ⟨rfl, rfl⟩ := h
        rw [insDec_cells hx]
        exact (isaCheck_call hF x m.aw).mono fun u A' h => ⟨h.1, h.2.symm⟩
      · cases h
    · cases h
  · cases h
end
end Go.Stx
