/-
  AttemptAlone returns true for every input, and its arguments read afterwards as they read before. No condition.
-/
import Derived.Test.YtncmjklabcoeaaaGreatRows
import Derived.WalkKit
import Derived.ProofKit
import Derived.OpenShut
import Derived.ShutString
import Derived.ChangeOld
import Derived.Below
import Derived.Test.YtncmjklabcoeaaaGreatXAlone
import Derived.Test.YtncmjklabcoeaaaGreatD44
namespace Go.Proofs.YtncmjklabcoeaaaGreat.attemptAlone
open Go.ChangeShapes Go.WideShapes Go.ChangeAt Go.RowKit
open Go.ChangeMaps (open_string shut_string)
set_option linter.unusedVariables false
set_option linter.unusedSimpArgs false
theorem own : ownKnob Tryz.prog.godebug = none := by kernel_rfl
theorem laidOut : laidOutB Tryz.prog = true := by kernel_rfl
theorem walk (b0_0 b0_1 b0_2 b0_3 b0_4 : Int) (a1 : Option Addr) (len1 cap1 : Nat) (w : World) (w1 : Go.Stx.ReqsIn w a1 len1 cap1) :
    Calls Tryz.prog 3 #[.agg #[.int .i64 b0_0, .int .i64 b0_1, .int .i64 b0_2, .int .i64 b0_3, .int .i64 b0_4], .slice a1 len1 cap1] w fun e w' => e = .returned (.bool true) ∧ Below w.heap.size w w' := by
  have s0 := Go.Stx.Sim.empty w
  have n0 := Go.Stx.AW.NoOwn.empty
  obtain ⟨m2, A2, v1, qs1, l2, g2, s2, n2, r1, h1⟩ := Go.Stx.intro_reqs s0 n0 w1
  refine Go.Stx.calls_of_acall (Go.Stx.alone_call b0_0 b0_1 b0_2 b0_3 b0_4 v1 qs1 A2 h1) (fun v A' h => h) s2 n2 ?_
  exact .cons (Go.Stx.intro_arr5 _ _ _ _ _) (.cons r1 .nil)
set_option maxRecDepth 100000 in
theorem lifted (os : Os) (started : os.Started) (H : Type) (enc : TypeId × Value → H) :
    ReturnsInHanded {} Tryz.checked os 3 .any (Rows.attemptAloneSpec.pre6 enc Tryz.prog Tryz.f3 Rows.attemptAloneRow.domain false) (Rows.attemptAloneSpec.post enc Tryz.prog Tryz.f3 false true false false) := by
  refine returnsInHanded_of_change (C := Tryz.checked) own started (by kernel_rfl) Tryz.func3
    (ChangeSpec.witness6 (enc := enc) (C := Tryz.checked) false ⟨#[], #[.agg #[.int .i64 0, .int .i64 0, .int .i64 0, .int .i64 0, .int .i64 0], .slice none 0 0], []⟩ 8 (by kernel_rfl) (by kernel_rfl) (by kernel_rfl) (by kernel_rfl)) ?_
  intro W base args ds gs before hval0 hW hcnd _
  have hval : ∀ (j : Nat) t v, Tryz.f3.params[j]? = some t → args[j]? = some v → Value.okWide Tryz.prog W .any base t v := hval0
  have hW' := hW
  obtain ⟨p, q, hA0, hV, rfl, hfz, hnd⟩ := hW
  have hA : DataW.TrodAll enc Tryz.prog W 0 (fun _ => true) true Tryz.f3.params.toList args.toList ds p := hA0
  rw [Tryz.params3] at hA hval
  obtain ⟨v0, vs0, d0, ds0, p0, q0, hargs, rfl, rfl, h0, r0⟩ := trodAll_cons hA
  obtain ⟨v1, vs1, d1, ds1, p1, q1, rfl, rfl, rfl, h1, r1⟩ := trodAll_cons r0
  obtain ⟨rfl, rfl, rfl⟩ := trodAll_nil r1
  obtain rfl : args = #[v0, v1] := by cases args; simp_all
  obtain ⟨rfl, rfl⟩ := trodVars_none hV
  obtain ⟨xs0, rfl, sz0⟩ := Go.Stx.okWide_arr5 Tryz.underlying22 (by kernel_rfl) (hval 0 22 v0 rfl rfl)
  have k0 := h0
  have lt0 : ∀ x ∈ p0, x.block < W.heap.size := by obtain ⟨m, hm⟩ := k0; exact DataW.trod_lt m _ _ _ hm
  obtain ⟨b0_0, b0_1, b0_2, b0_3, b0_4, ex0⟩ := Go.Stx.open_arr5 Tryz.underlying22 Tryz.underlying3 (by kernel_rfl) (by kernel_rfl) sz0 h0
  subst ex0
  obtain ⟨a1, len1, cap1, rfl⟩ := okWide_slice Tryz.underlying23 (hval 1 23 v1 rfl rfl)
  have k1 := h1
  have lt1 : ∀ x ∈ p1, x.block < W.heap.size := by obtain ⟨m, hm⟩ := k1; exact DataW.trod_lt m _ _ _ hm
  have w1 : Go.Stx.ReqsIn W a1 len1 cap1 := by
    obtain ⟨fuel, hf⟩ := h1
    exact Go.Stx.open_reqs Tryz.underlying23 Tryz.underlying56 (by kernel_rfl) ⟨rfl, by kernel_rfl, Tryz.underlying3⟩ ⟨rfl, by kernel_rfl, Tryz.underlying3⟩ ⟨rfl, by kernel_rfl, Tryz.underlying3⟩ ⟨rfl, by kernel_rfl, Tryz.underlying45⟩ hf rfl
  clear hA0 hval0
  refine (walk b0_0 b0_1 b0_2 b0_3 b0_4 a1 len1 cap1 W w1).mono fun e W' ⟨he, bel⟩ => ?_
  subst he
  exact ⟨_, rfl, _, _, _, [], _, [], hW', trodAll_mk1 (shut_bool Tryz.underlying4 _), (trodAll_cons_mk (Below.trod laidOut (by kernel_rfl) (of_decide_eq_true (by kernel_rfl)) k0 bel lt0) (trodAll_cons_mk (Below.trod laidOut (by kernel_rfl) (of_decide_eq_true (by kernel_rfl)) k1 bel lt1) trodAll_mk0)), rfl, bel.frame _, fun h => by cases h⟩
theorem over : Rows.attemptAloneRow.holds Tryz.pinned (OpenSpec.ofChange Rows.attemptAloneSpec) :=
  OpenClaim.holds_of_wide 3 Tryz.f3 rfl rfl rfl rfl rfl rfl rfl ⟨rfl, rfl, rfl, rfl, rfl⟩ rfl rfl rfl rfl rfl (by kernel_rfl) Tryz.func3 (by kernel_rfl)
    (of_decide_eq_true (by kernel_rfl)) (by unfold Func.isWrapper; first | (rw [if_pos (by decide +kernel)]; kernel_rfl) | (rw [if_neg (by decide +kernel)]; exact ⟨rfl, rfl⟩))
    (fun os started H enc _ => lifted os started H enc)
theorem proved : Rows.AttemptAloneSaid := over
#print axioms proved
end Go.Proofs.YtncmjklabcoeaaaGreat.attemptAlone
