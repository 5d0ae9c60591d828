/-
  strongtxlaw20.ThreadRefuses returns true for every input, and its arguments read afterwards as they read before; its condition: the listed package-level variables read as listed.
-/
import Derived.Test.YtcffnkgjmneaeaaGreatDoorCards
import Derived.Test.YtcffnkgjmneaeaaGreatDoorTie
import Derived.WalkKit
import Derived.ProofKit
import Derived.OpenShut
import Derived.ShutString
import Derived.ChangeOld
import Derived.Below
import Derived.Lay
import Derived.Deep.DeepHandedRow
import Derived.Deep.Matrix
import Derived.SizedLaws
import Derived.Test.YtcffnkgjmneaeaaGreatDoorThC
namespace Go.Proofs.YtcffnkgjmneaeaaGreatDoor.threadRefuses
open Go.ChangeShapes Go.WideShapes Go.ChangeAt Go.RowKit
open Go.ChangeMaps (open_string shut_string)
set_option linter.unusedVariables false
set_option linter.unusedSimpArgs false
theorem own : ownKnob Tryz.prog.godebug = none := by kernel_rfl
theorem laidOut : laidOutB Tryz.prog = true := by kernel_rfl
theorem gok {W : World} (hL : laidMetH Tryz.prog Rows.threadRefusesRow.laid W) : @Go.Stx.FOK (Go.Stx.glOf W) := by
  have hM : laidMet Tryz.prog Rows.threadRefusesRow.laid W := by
    rw [MakeChecks.laidMetH_plain _ _ _ (by kernel_rfl)] at hL
    exact hL
  exact Go.Stx.fok_of (Lib.laidMet.reads hM (.head _))
theorem walk (W : World) (hG : @Go.Stx.FOK (Go.Stx.glOf W)) (c0 : Go.Stx.CfgS) (a1 : Int) (a2 : Int) (a3 : Option Addr) (len3 cap3 : Nat) (w3 : Go.Stx.InsIn W a3 len3 cap3) (b4_0 b4_1 b4_2 b4_3 b4_4 : Int) (a5 : Int) :
    Calls Tryz.prog 3 #[.agg (Go.Stx.CfgS.cells c0).toArray, .int .i64 a1, .int .i64 a2, .slice a3 len3 cap3, .agg #[.int .i64 b4_0, .int .i64 b4_1, .int .i64 b4_2, .int .i64 b4_3, .int .i64 b4_4], .int .i64 a5] W fun e w' => e = .returned (.bool true) ∧ Below W.heap.size W w' :=
  @Go.Stx.th_world (Go.Stx.glOf W) hG W (Go.Stx.laid_self W) c0 a1 a2 a3 len3 cap3 w3 b4_0 b4_1 b4_2 b4_3 b4_4 a5
set_option maxRecDepth 100000 in
theorem contract (H : Type) (enc : TypeId × Value → H) (W : World) (base : Nat) (args : Array Value) (ds gs : List (DataW H)) (before : List MemPlace)
    (hval0 : ∀ (j : Nat) t v, Tryz.f3.params[j]? = some t → args[j]? = some v → Value.okWide Tryz.prog W .any base t v)
    (hW : DataW.Whole enc Tryz.prog Tryz.f3.params.toList Rows.threadRefusesSpec.vars false W args.toList ds gs before) (hL : laidMetH Tryz.prog Rows.threadRefusesRow.laid W) (hsh : W.ShapedOpen Tryz.prog)
    (hz : (DataW.weightsEach Tryz.prog (Tryz.f3.params.toList ++ (OpenSpec.ofChange Rows.threadRefusesSpec).bare.plain.varTypes Tryz.prog) (ds ++ gs)).all (· ≤ reachBytes) = true) :
    Calls Tryz.prog 3 args W fun e W' => ∃ v, e = .returned v ∧ Rows.threadRefusesSpec.post enc Tryz.prog Tryz.f3 false true false false W args v W' := by
  have hG := gok hL
  have hval : ∀ (j : Nat) t v, Tryz.f3.params[j]? = some t → args[j]? = some v → Value.okWide Tryz.prog W .any base t v := hval0
  have hW' := hW
  obtain ⟨p, q, hA0, hV, rfl, hfz, hnd⟩ := hW
  have hA : DataW.TrodAll enc Tryz.prog W 0 (fun _ => true) true Tryz.f3.params.toList args.toList ds p := hA0
  rw [Tryz.params3] at hA hval
  obtain ⟨v0, vs0, d0, ds0, p0, q0, hargs, rfl, rfl, h0, r0⟩ := trodAll_cons hA
  obtain ⟨v1, vs1, d1, ds1, p1, q1, rfl, rfl, rfl, h1, r1⟩ := trodAll_cons r0
  obtain ⟨v2, vs2, d2, ds2, p2, q2, rfl, rfl, rfl, h2, r2⟩ := trodAll_cons r1
  obtain ⟨v3, vs3, d3, ds3, p3, q3, rfl, rfl, rfl, h3, r3⟩ := trodAll_cons r2
  obtain ⟨v4, vs4, d4, ds4, p4, q4, rfl, rfl, rfl, h4, r4⟩ := trodAll_cons r3
  obtain ⟨v5, vs5, d5, ds5, p5, q5, rfl, rfl, rfl, h5, r5⟩ := trodAll_cons r4
  obtain ⟨rfl, rfl, rfl⟩ := trodAll_nil r5
  obtain rfl : args = #[v0, v1, v2, v3, v4, v5] := by cases args; simp_all
  obtain ⟨rfl, rfl⟩ := trodVars_none hV
  obtain ⟨xs0, rfl, sz0⟩ : ∃ xs : Array Value, v0 = .agg xs ∧ xs.size = 13 := by
    have h := hval 0 24 v0 rfl rfl
    simp only [Value.okWide, Tryz.underlying24] at h
    obtain ⟨cs, h1, h2, _⟩ := h
    exact ⟨cs, h1, by rw [h2]; kernel_rfl⟩
  have k0 := h0
  have lt0 : ∀ x ∈ p0, x.block < W.heap.size := by obtain ⟨m, hm⟩ := k0; exact DataW.trod_lt m _ _ _ hm
  obtain ⟨cs0⟩ := xs0
  obtain ⟨c0, ec0⟩ : ∃ c : Go.Stx.CfgS, cs0 = Go.Stx.CfgS.cells c := by
    obtain ⟨fuel, hf⟩ := h0
    exact Go.Stx.open_cfg13 (by simpa using sz0) hf
  subst ec0
  obtain ⟨a1, rfl, rfl, rfl, w1⟩ := open_int Tryz.underlying3 (hval 1 3 v1 rfl rfl) h1
  obtain ⟨a2, rfl, rfl, rfl, w2⟩ := open_int Tryz.underlying3 (hval 2 3 v2 rfl rfl) h2
  obtain ⟨a3, len3, cap3, rfl⟩ := okWide_slice Tryz.underlying25 (hval 3 25 v3 rfl rfl)
  have k3 := h3
  have lt3 : ∀ x ∈ p3, x.block < W.heap.size := by obtain ⟨m, hm⟩ := k3; exact DataW.trod_lt m _ _ _ hm
  have w3 : Go.Stx.InsIn W a3 len3 cap3 := by
    obtain ⟨fuel, hf⟩ := h3
    obtain ⟨a', l', c', e, hI⟩ := Go.Stx.open_ins hf
    simp [Value.cells] at e
    obtain ⟨rfl, rfl, rfl⟩ := e
    exact hI
  obtain ⟨xs4, rfl, sz4⟩ := Go.Stx.okWide_arr5 Tryz.underlying26 (by kernel_rfl) (hval 4 26 v4 rfl rfl)
  have k4 := h4
  have lt4 : ∀ x ∈ p4, x.block < W.heap.size := by obtain ⟨m, hm⟩ := k4; exact DataW.trod_lt m _ _ _ hm
  obtain ⟨b4_0, b4_1, b4_2, b4_3, b4_4, ex4⟩ := Go.Stx.open_arr5 Tryz.underlying26 Tryz.underlying3 (by kernel_rfl) (by kernel_rfl) sz4 h4
  subst ex4
  obtain ⟨a5, rfl, rfl, rfl, w5⟩ := open_int Tryz.underlying3 (hval 5 3 v5 rfl rfl) h5
  clear hA0 hval0
  refine (walk W hG c0 a1 a2 a3 len3 cap3 w3 b4_0 b4_1 b4_2 b4_3 b4_4 a5).mono fun e W' ⟨he, bel⟩ => ?_
  subst he
  exact ⟨_, rfl, _, _, _, [], _, [], hW', trodAll_mk1 (shut_bool Tryz.underlying4 _), (trodAll_cons_mk (Below.trod laidOut (by kernel_rfl) (of_decide_eq_true (by kernel_rfl)) k0 bel lt0) (trodAll_cons_mk (shut_int Tryz.underlying3 w1) (trodAll_cons_mk (shut_int Tryz.underlying3 w2) (trodAll_cons_mk (Below.trod laidOut (by kernel_rfl) (of_decide_eq_true (by kernel_rfl)) k3 bel lt3) (trodAll_cons_mk (Below.trod laidOut (by kernel_rfl) (of_decide_eq_true (by kernel_rfl)) k4 bel lt4) (trodAll_cons_mk (shut_int Tryz.underlying3 w5) trodAll_mk0)))))), rfl, bel.frame _, fun h => by cases h⟩
theorem laid_met (os : Os) (args : Array Value) : laidMetH Tryz.prog Rows.threadRefusesRow.laid ((World.laidAll Tryz.prog os Rows.threadRefusesRow.laid).forCall (fun _ _ => 0) ⟨#[], args, []⟩).memory := by
  rw [MakeChecks.laidMetH_plain _ _ _ (by kernel_rfl)]
  exact laidMet_laidAll _ (by kernel_rfl) (by kernel_rfl)
set_option maxRecDepth 100000 in
theorem lifted (os : Os) (started : os.Started) (H : Type) (enc : TypeId × Value → H) (F : Stop.Interp) :
    ReturnsInHanded {} Tryz.checked os 3 .any ((OpenSpec.ofChange Rows.threadRefusesSpec).preRow enc Tryz.prog Tryz.f3 Rows.threadRefusesRow.domain false Rows.threadRefusesRow.laid) (((OpenSpec.ofChange Rows.threadRefusesSpec).at F).post enc Tryz.prog Tryz.f3 false true false false) := by
  refine returnsInHanded_of_row (C := Tryz.checked) (s := OpenSpec.ofChange Rows.threadRefusesSpec) own started (by kernel_rfl) Tryz.func3
    (ChangeSpec.witness_shaped (enc := enc) (C := Tryz.checked) (os := os) (X := fun w _ => laidMetH Tryz.prog Rows.threadRefusesRow.laid w) false (World.laidAll Tryz.prog os Rows.threadRefusesRow.laid) #[.agg #[.int .i64 0, .int .i64 0, .int .i64 0, .int .i64 0, .int .i64 0, .int .i64 0, .int .i64 0, .int .i64 0, .int .i64 0, .int .i64 0, .int .i64 0, .int .i64 0, .bool false], .int .i64 0, .int .i64 0, .slice none 0 0, .agg #[.int .i64 0, .int .i64 0, .int .i64 0, .int .i64 0, .int .i64 0], .int .i64 0] 8 rfl (World.shaped_of_ZipB (by kernel_rfl) (by kernel_rfl)) (by kernel_rfl) (by kernel_rfl) (by kernel_rfl) (laid_met os _)) ?_
  intro W base args ds gs before hval hW _ _ hz hL hsh _
  exact contract H enc W base args ds gs before hval hW hL hsh hz
theorem over : Rows.threadRefusesRow.holds Tryz.pinned (OpenSpec.ofChange Rows.threadRefusesSpec) :=
  OpenClaim.holds_of_cond 3 Tryz.f3 rfl rfl rfl rfl rfl rfl rfl ⟨rfl, rfl, rfl, rfl, rfl⟩ rfl rfl rfl rfl rfl (by kernel_rfl) Tryz.func3 (by kernel_rfl)
    (of_decide_eq_true (by kernel_rfl)) (by unfold Func.isWrapper; first | (rw [if_pos (by decide +kernel)]; kernel_rfl) | (rw [if_neg (by decide +kernel)]; exact ⟨rfl, rfl⟩))
    (fun os started H enc _ F => by rw [OpenClaim.pre_eq_preRow]; exact lifted os started H enc F)
theorem plain (f : FuncId) (fn : Func) (hf : Tryz.pinned.checked.prog.funcNamed "strongtx/strongtxlaw20.ThreadRefuses" = some f) (hfn : Tryz.pinned.checked.prog.funcs[f]? = some fn) :
    false = Tryz.pinned.checked.prog.looks [] ∧ ∀ (j : Nat) t, fn.params[j]? = some t → Tryz.pinned.checked.prog.wantsStandIn t = false := by
  obtain rfl : f = 3 := Option.some.inj ((show Tryz.prog.funcNamed "strongtx/strongtxlaw20.ThreadRefuses" = some 3 by kernel_rfl).symm.trans hf) |>.symm
  obtain rfl : fn = Tryz.f3 := (Option.some.inj (Tryz.func3.symm.trans hfn)).symm
  refine ⟨by kernel_rfl, fun j t ht => ?_⟩
  rw [Tryz.params3] at ht
  have hm : t ∈ [24, 3, 3, 25, 26, 3] := by have := Array.mem_toList_iff.2 (Array.mem_of_getElem? ht); simpa using this
  simp only [List.mem_cons, List.not_mem_nil, or_false] at hm
  rcases hm with rfl | rfl | rfl | rfl | rfl | rfl
  · exact (show Tryz.prog.wantsStandIn 24 = false by kernel_rfl)
  · exact (show Tryz.prog.wantsStandIn 3 = false by kernel_rfl)
  · exact (show Tryz.prog.wantsStandIn 3 = false by kernel_rfl)
  · exact (show Tryz.prog.wantsStandIn 25 = false by kernel_rfl)
  · exact (show Tryz.prog.wantsStandIn 26 = false by kernel_rfl)
  · exact (show Tryz.prog.wantsStandIn 3 = false by kernel_rfl)
theorem proved : Rows.ThreadRefusesCardSaid :=
  Claim7.holds_tied_plain_at .later [] _ _ _ _ over (fun _ h => by cases h) (by kernel_rfl) (fun _ h => by cases h) threadRefuses_row_tie rfl ⟨rfl, rfl⟩ (by kernel_rfl) rfl plain (by kernel_rfl)
#print axioms proved
end Go.Proofs.YtcffnkgjmneaeaaGreatDoor.threadRefuses
