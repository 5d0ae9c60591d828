/-
  No cell of these rows narrows 'for every input' (looked for: loops, veiled, ifaces, maps, wideKeys, modest, calm, conditions, laid).
  DERIVED. THE GIVEN ROWS OF THIS SEAT. 5 by the template 'for every input the law returns true; each argument reads behind the call as it read before'; 0 by the template 'total and deterministic' (their statements: YtncmjklabcoeaaaGreatTotals.lean).
  GIVEN WITH THE SEED: the statements are not yours to turn. If you find one false, say at which input.
  Laid BY PROGRAM, IN A SANDBOX (cutbox-rows.mjs): the forced cells as the released guide's own fill.sh prints them over the translation 36527e329ca17161… (all of the seat's roots in one cut). By AI agents, Wed Nov 11 2026. No macro, syntax, notation, axiom, sorry.
-/
import Derived.Test.YtncmjklabcoeaaaGreatChecked
import GoSem.Claim
import GoSem.ClaimJoined
import GoSem.ClaimMapViews
import Derived.JoinedTies
import Derived.KernelRfl
namespace Go.Proofs.YtncmjklabcoeaaaGreat
/- THE CELL 'sum', in the pinned program and in every row, IS THE sha256 OF THE DUMP (.gsa) THAT YtncmjklabcoeaaaGreatProg.lean LOADS. Nothing in Lean hashes anything: it is a label: what it is worth is what the hold of that sum in a sandbox is worth. -/
noncomputable def Tryz.pinned : Pinned := { name := "ytncmjklabcoeaaagreat", sum := "36527e329ca171617cbdf2753d6a512bc82b6d9521be7f6e07254d603774ce28", checked := Tryz.checked }
namespace Rows
def none {H : Type} : Left H := { results := [], args := [] }

/-- 'strongtxlaw19.AttemptAlone': WHATEVER THE INPUT: true; the input reads as it did. -/
def attemptAloneSpec : ChangeSpec := { name := "attemptAlone", fn := fun _ => fun
  | [d1, d2] => { results := [.lit (.bool true)], args := [d1, d2] }
  | _ => none }
def attemptAloneRow : OpenClaim := { program := "ytncmjklabcoeaaagreat", sum := "36527e329ca171617cbdf2753d6a512bc82b6d9521be7f6e07254d603774ce28", func := "strongtx/strongtxlaw19.AttemptAlone", spec := "attemptAlone", unfollowed := true, recurses := true, apart := false }
def AttemptAloneSaid : Prop := attemptAloneRow.holds Tryz.pinned (OpenSpec.ofChange attemptAloneSpec)

/-- ITS FALSE NEIGHBOUR: 'it returns false'. Refute it at one input. -/
def attemptAloneWrong : ChangeSpec := { name := "attemptAlone", fn := fun _ => fun
  | [d1, d2] => { results := [.lit (.bool false)], args := [d1, d2] }
  | _ => none }
def AttemptAloneWrongFalsely : Prop := attemptAloneRow.holds Tryz.pinned (OpenSpec.ofChange attemptAloneWrong)

/-- 'strongtxlaw19.AttemptAborts': WHATEVER THE INPUT: true; the input reads as it did. -/
def attemptAbortsSpec : ChangeSpec := { name := "attemptAborts", fn := fun _ => fun
  | [d1, d2] => { results := [.lit (.bool true)], args := [d1, d2] }
  | _ => none }
def attemptAbortsRow : OpenClaim := { program := "ytncmjklabcoeaaagreat", sum := "36527e329ca171617cbdf2753d6a512bc82b6d9521be7f6e07254d603774ce28", func := "strongtx/strongtxlaw19.AttemptAborts", spec := "attemptAborts", unfollowed := true, recurses := true, apart := false }
def AttemptAbortsSaid : Prop := attemptAbortsRow.holds Tryz.pinned (OpenSpec.ofChange attemptAbortsSpec)

/-- ITS FALSE NEIGHBOUR: 'it returns false'. Refute it at one input. -/
def attemptAbortsWrong : ChangeSpec := { name := "attemptAborts", fn := fun _ => fun
  | [d1, d2] => { results := [.lit (.bool false)], args := [d1, d2] }
  | _ => none }
def AttemptAbortsWrongFalsely : Prop := attemptAbortsRow.holds Tryz.pinned (OpenSpec.ofChange attemptAbortsWrong)

/-- 'strongtxlaw19.AttemptSnapshot': WHATEVER THE INPUT: true; the input reads as it did. -/
def attemptSnapshotSpec : ChangeSpec := { name := "attemptSnapshot", fn := fun _ => fun
  | [d1, d2] => { results := [.lit (.bool true)], args := [d1, d2] }
  | _ => none }
def attemptSnapshotRow : OpenClaim := { program := "ytncmjklabcoeaaagreat", sum := "36527e329ca171617cbdf2753d6a512bc82b6d9521be7f6e07254d603774ce28", func := "strongtx/strongtxlaw19.AttemptSnapshot", spec := "attemptSnapshot", unfollowed := true, recurses := true, apart := false }
def AttemptSnapshotSaid : Prop := attemptSnapshotRow.holds Tryz.pinned (OpenSpec.ofChange attemptSnapshotSpec)

/-- ITS FALSE NEIGHBOUR: 'it returns false'. Refute it at one input. -/
def attemptSnapshotWrong : ChangeSpec := { name := "attemptSnapshot", fn := fun _ => fun
  | [d1, d2] => { results := [.lit (.bool false)], args := [d1, d2] }
  | _ => none }
def AttemptSnapshotWrongFalsely : Prop := attemptSnapshotRow.holds Tryz.pinned (OpenSpec.ofChange attemptSnapshotWrong)

/-- 'strongtxlaw19.AttemptFollows': WHATEVER THE INPUT: true; the input reads as it did. -/
def attemptFollowsSpec : ChangeSpec := { name := "attemptFollows", fn := fun _ => fun
  | [d1, d2] => { results := [.lit (.bool true)], args := [d1, d2] }
  | _ => none }
def attemptFollowsRow : OpenClaim := { program := "ytncmjklabcoeaaagreat", sum := "36527e329ca171617cbdf2753d6a512bc82b6d9521be7f6e07254d603774ce28", func := "strongtx/strongtxlaw19.AttemptFollows", spec := "attemptFollows", unfollowed := true, recurses := true, apart := false }
def AttemptFollowsSaid : Prop := attemptFollowsRow.holds Tryz.pinned (OpenSpec.ofChange attemptFollowsSpec)

/-- ITS FALSE NEIGHBOUR: 'it returns false'. Refute it at one input. -/
def attemptFollowsWrong : ChangeSpec := { name := "attemptFollows", fn := fun _ => fun
  | [d1, d2] => { results := [.lit (.bool false)], args := [d1, d2] }
  | _ => none }
def AttemptFollowsWrongFalsely : Prop := attemptFollowsRow.holds Tryz.pinned (OpenSpec.ofChange attemptFollowsWrong)

/-- 'strongtxlaw19.AttemptRefuses': WHATEVER THE INPUT: true; the input reads as it did. -/
def attemptRefusesSpec : ChangeSpec := { name := "attemptRefuses", fn := fun _ => fun
  | [d1, d2, d3, d4] => { results := [.lit (.bool true)], args := [d1, d2, d3, d4] }
  | _ => none }
def attemptRefusesRow : OpenClaim := { program := "ytncmjklabcoeaaagreat", sum := "36527e329ca171617cbdf2753d6a512bc82b6d9521be7f6e07254d603774ce28", func := "strongtx/strongtxlaw19.AttemptRefuses", spec := "attemptRefuses", unfollowed := true, recurses := true, apart := false }
def AttemptRefusesSaid : Prop := attemptRefusesRow.holds Tryz.pinned (OpenSpec.ofChange attemptRefusesSpec)

/-- ITS FALSE NEIGHBOUR: 'it returns false'. Refute it at one input. -/
def attemptRefusesWrong : ChangeSpec := { name := "attemptRefuses", fn := fun _ => fun
  | [d1, d2, d3, d4] => { results := [.lit (.bool false)], args := [d1, d2, d3, d4] }
  | _ => none }
def AttemptRefusesWrongFalsely : Prop := attemptRefusesRow.holds Tryz.pinned (OpenSpec.ofChange attemptRefusesWrong)

/- THE SECOND FORM. 'bulk': how many values and letters a reading holds, each counted each time it is reached (what is shared counts as often as it is met; a slice's spare places count too). A statement '..UptoSaid' is the law's where the arguments, and the package variables that the reading takes, are together of bulk at most 1048576: NARROWER than '..Said'. Prove '..Said' where nothing that the law and all that it calls make is longer than what came in: it says more and counts as full. Else prove '..UptoSaid'. A law counts once. -/
mutual
def uptoBulk {H : Type} : DataW H → Nat
  | .lit (.string bytes) => bytes.length + 1
  | .lit _ => 1
  | .nil => 1
  | .ptr d => uptoBulk d + 1
  | .slice elems spare => uptoBulkAll elems + uptoBulkAll spare + 1
  | .agg parts => uptoBulkAll parts + 1
  | .iface _ d => uptoBulk d + 1
  | .map entries => uptoBulkEntries entries + 1
  | .held _ => 1
def uptoBulkAll {H : Type} : List (DataW H) → Nat
  | [] => 0
  | d :: r => uptoBulk d + uptoBulkAll r
def uptoBulkEntries {H : Type} : List (Lit × DataW H) → Nat
  | [] => 0
  | x :: r => uptoBulkEntry x + uptoBulkEntries r
def uptoBulkEntry {H : Type} : Lit × DataW H → Nat
  | (.string bytes, d) => bytes.length + uptoBulk d + 1
  | (_, d) => uptoBulk d + 1
 end
def uptoSmall : (H : Type) → List (DataW H) → Bool := fun _ ds => decide (uptoBulkAll ds ≤ 1048576)
def OpenSpec.upto (s : _root_.Go.ChangeSpec) : _root_.Go.OpenSpec := { _root_.Go.OpenSpec.ofChange s with cond := some uptoSmall }

/-- 'strongtxlaw19.AttemptAlone', WHERE WHAT IT READS IS OF BULK AT MOST 1048576: true; the input reads as it did. -/
def attemptAloneUptoRow : OpenClaim := { program := "ytncmjklabcoeaaagreat", sum := "36527e329ca171617cbdf2753d6a512bc82b6d9521be7f6e07254d603774ce28", func := "strongtx/strongtxlaw19.AttemptAlone", spec := "attemptAlone", unfollowed := true, recurses := true, apart := false, narrowed := true }
def AttemptAloneUptoSaid : Prop := attemptAloneUptoRow.holds Tryz.pinned (OpenSpec.upto attemptAloneSpec)

/-- 'strongtxlaw19.AttemptAborts', WHERE WHAT IT READS IS OF BULK AT MOST 1048576: true; the input reads as it did. -/
def attemptAbortsUptoRow : OpenClaim := { program := "ytncmjklabcoeaaagreat", sum := "36527e329ca171617cbdf2753d6a512bc82b6d9521be7f6e07254d603774ce28", func := "strongtx/strongtxlaw19.AttemptAborts", spec := "attemptAborts", unfollowed := true, recurses := true, apart := false, narrowed := true }
def AttemptAbortsUptoSaid : Prop := attemptAbortsUptoRow.holds Tryz.pinned (OpenSpec.upto attemptAbortsSpec)

/-- 'strongtxlaw19.AttemptSnapshot', WHERE WHAT IT READS IS OF BULK AT MOST 1048576: true; the input reads as it did. -/
def attemptSnapshotUptoRow : OpenClaim := { program := "ytncmjklabcoeaaagreat", sum := "36527e329ca171617cbdf2753d6a512bc82b6d9521be7f6e07254d603774ce28", func := "strongtx/strongtxlaw19.AttemptSnapshot", spec := "attemptSnapshot", unfollowed := true, recurses := true, apart := false, narrowed := true }
def AttemptSnapshotUptoSaid : Prop := attemptSnapshotUptoRow.holds Tryz.pinned (OpenSpec.upto attemptSnapshotSpec)

/-- 'strongtxlaw19.AttemptFollows', WHERE WHAT IT READS IS OF BULK AT MOST 1048576: true; the input reads as it did. -/
def attemptFollowsUptoRow : OpenClaim := { program := "ytncmjklabcoeaaagreat", sum := "36527e329ca171617cbdf2753d6a512bc82b6d9521be7f6e07254d603774ce28", func := "strongtx/strongtxlaw19.AttemptFollows", spec := "attemptFollows", unfollowed := true, recurses := true, apart := false, narrowed := true }
def AttemptFollowsUptoSaid : Prop := attemptFollowsUptoRow.holds Tryz.pinned (OpenSpec.upto attemptFollowsSpec)

/-- 'strongtxlaw19.AttemptRefuses', WHERE WHAT IT READS IS OF BULK AT MOST 1048576: true; the input reads as it did. -/
def attemptRefusesUptoRow : OpenClaim := { program := "ytncmjklabcoeaaagreat", sum := "36527e329ca171617cbdf2753d6a512bc82b6d9521be7f6e07254d603774ce28", func := "strongtx/strongtxlaw19.AttemptRefuses", spec := "attemptRefuses", unfollowed := true, recurses := true, apart := false, narrowed := true }
def AttemptRefusesUptoSaid : Prop := attemptRefusesUptoRow.holds Tryz.pinned (OpenSpec.upto attemptRefusesSpec)

end Rows
end Go.Proofs.YtncmjklabcoeaaaGreat
