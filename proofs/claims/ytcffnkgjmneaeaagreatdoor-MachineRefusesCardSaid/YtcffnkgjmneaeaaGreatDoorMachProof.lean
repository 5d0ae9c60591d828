/-
  strongtxlaw21.MachineRefuses returns true for every input, and its arguments read afterwards as they read before; its condition: the listed package-level variables read as listed.
-/
import Derived.Test.YtcffnkgjmneaeaaGreatDoorCards
import Derived.Test.YtcffnkgjmneaeaaGreatDoorTie
import Derived.WalkKit
import Derived.ProofKit
import Derived.OpenShut
import Derived.ShutString
import Derived.ChangeOld
import Derived.Below
import Derived.Lay
import Derived.Deep.DeepHandedRow
import Derived.Deep.Matrix
import Derived.SizedLaws
import Derived.Test.YtcffnkgjmneaeaaGreatDoorMrD
namespace Go.Proofs.YtcffnkgjmneaeaaGreatDoor.machineRefuses
open Go.ChangeShapes Go.WideShapes Go.ChangeAt Go.RowKit
open Go.ChangeMaps (open_string shut_string)
set_option linter.unusedVariables false
set_option linter.unusedSimpArgs false
theorem own : ownKnob Tryz.prog.godebug = none := by kernel_rfl
theorem laidOut : laidOutB Tryz.prog = true := by kernel_rfl
theorem gok {W : World} (hL : laidMetH Tryz.prog Rows.machineRefusesRow.laid W) : @Go.Stx.FOK (Go.Stx.glOf W) := by
  have hM : laidMet Tryz.prog Rows.machineRefusesRow.laid W := by
    rw [MakeChecks.laidMetH_plain _ _ _ (by kernel_rfl)] at hL
    exact hL
  exact Go.Stx.fok_of (Lib.laidMet.reads hM (.head _))
theorem walk (W : World) (hG : @Go.Stx.FOK (Go.Stx.glOf W)) (cs0 : List Value) (w0 : Go.Stx.ScrIn W cs0) (b1_0 b1_1 b1_2 b1_3 b1_4 : Int) (a2 : Option Addr) (len2 cap2 : Nat) (w2 : Go.Stx.RowsIn W a2 len2 cap2) (a3 : Option Addr) (len3 cap3 : Nat) (z3 : List Int) (w3 : Go.Stx.IntsIn .i64 W a3 len3 cap3 z3) (lz3 : len3 ≤ 17592186044415) (a4 : Int) (a5 : Int) :
    Calls Tryz.prog 5 #[.agg cs0.toArray, .agg #[.int .i64 b1_0, .int .i64 b1_1, .int .i64 b1_2, .int .i64 b1_3, .int .i64 b1_4], .slice a2 len2 cap2, .slice a3 len3 cap3, .int .i64 a4, .int .i64 a5] W fun e w' => e = .returned (.bool true) ∧ Below W.heap.size W w' :=
  @Go.Stx.mr_world (Go.Stx.glOf W) hG W (Go.Stx.laid_self W) cs0 w0 b1_0 b1_1 b1_2 b1_3 b1_4 a2 len2 cap2 w2 a3 len3 cap3 z3 w3 lz3 a4 a5
set_option maxRecDepth 100000 in
theorem contract (H : Type) (enc : TypeId × Value → H) (W : World) (base : Nat) (args : Array Value) (ds gs : List (DataW H)) (before : List MemPlace)
    (hval0 : ∀ (j : Nat) t v, Tryz.f5.params[j]? = some t → args[j]? = some v → Value.okWide Tryz.prog W .any base t v)
    (hW : DataW.Whole enc Tryz.prog Tryz.f5.params.toList Rows.machineRefusesSpec.vars false W args.toList ds gs before) (hL : laidMetH Tryz.prog Rows.machineRefusesRow.laid W) (hsh : W.ShapedOpen Tryz.prog)
    (hz : (DataW.weightsEach Tryz.prog (Tryz.f5.params.toList ++ (OpenSpec.ofChange Rows.machineRefusesSpec).bare.plain.varTypes Tryz.prog) (ds ++ gs)).all (· ≤ reachBytes) = true) :
    Calls Tryz.prog 5 args W fun e W' => ∃ v, e = .returned v ∧ Rows.machineRefusesSpec.post enc Tryz.prog Tryz.f5 false true false false W args v W' := by
  have hG := gok hL
  have hval : ∀ (j : Nat) t v, Tryz.f5.params[j]? = some t → args[j]? = some v → Value.okWide Tryz.prog W .any base t v := hval0
  have hW' := hW
  obtain ⟨p, q, hA0, hV, rfl, hfz, hnd⟩ := hW
  have hA : DataW.TrodAll enc Tryz.prog W 0 (fun _ => true) true Tryz.f5.params.toList args.toList ds p := hA0
  rw [Tryz.params5] at hA hval
  obtain ⟨v0, vs0, d0, ds0, p0, q0, hargs, rfl, rfl, h0, r0⟩ := trodAll_cons hA
  obtain ⟨v1, vs1, d1, ds1, p1, q1, rfl, rfl, rfl, h1, r1⟩ := trodAll_cons r0
  obtain ⟨v2, vs2, d2, ds2, p2, q2, rfl, rfl, rfl, h2, r2⟩ := trodAll_cons r1
  obtain ⟨v3, vs3, d3, ds3, p3, q3, rfl, rfl, rfl, h3, r3⟩ := trodAll_cons r2
  obtain ⟨v4, vs4, d4, ds4, p4, q4, rfl, rfl, rfl, h4, r4⟩ := trodAll_cons r3
  obtain ⟨v5, vs5, d5, ds5, p5, q5, rfl, rfl, rfl, h5, r5⟩ := trodAll_cons r4
  obtain ⟨rfl, rfl, rfl⟩ := trodAll_nil r5
  obtain rfl : args = #[v0, v1, v2, v3, v4, v5] := by cases args; simp_all
  obtain ⟨rfl, rfl⟩ := trodVars_none hV
  obtain ⟨xs0, rfl, sz0⟩ : ∃ xs : Array Value, v0 = .agg xs ∧ xs.size = 16 := by
    have h := hval 0 42 v0 rfl rfl
    simp only [Value.okWide, Tryz.underlying42] at h
    obtain ⟨cs, h1, h2, _⟩ := h
    exact ⟨cs, h1, by rw [h2]; kernel_rfl⟩
  have k0 := h0
  have lt0 : ∀ x ∈ p0, x.block < W.heap.size := by obtain ⟨m, hm⟩ := k0; exact DataW.trod_lt m _ _ _ hm
  obtain ⟨cs0⟩ := xs0
  have w0 : Go.Stx.ScrIn W cs0 := by
    obtain ⟨fuel, hf⟩ := h0
    exact Go.Stx.open_script (by simpa using sz0) hf
  obtain ⟨xs1, rfl, sz1⟩ := Go.Stx.okWide_arr5 Tryz.underlying26 (by kernel_rfl) (hval 1 26 v1 rfl rfl)
  have k1 := h1
  have lt1 : ∀ x ∈ p1, x.block < W.heap.size := by obtain ⟨m, hm⟩ := k1; exact DataW.trod_lt m _ _ _ hm
  obtain ⟨b1_0, b1_1, b1_2, b1_3, b1_4, ex1⟩ := Go.Stx.open_arr5 Tryz.underlying26 Tryz.underlying3 (by kernel_rfl) (by kernel_rfl) sz1 h1
  subst ex1
  obtain ⟨a2, len2, cap2, rfl⟩ := okWide_slice Tryz.underlying49 (hval 2 49 v2 rfl rfl)
  have k2 := h2
  have lt2 : ∀ x ∈ p2, x.block < W.heap.size := by obtain ⟨m, hm⟩ := k2; exact DataW.trod_lt m _ _ _ hm
  have w2 : Go.Stx.RowsIn W a2 len2 cap2 := by
    obtain ⟨fuel, hf⟩ := h2
    rcases Go.Deep.open_int_rows Tryz.underlying49 Tryz.underlying40 Tryz.underlying3 (by kernel_rfl) (by kernel_rfl) hf with ⟨hcs, _⟩ | ⟨x, l, c, R, L, C, Z, hcs, _, hl, hm, _, hr⟩
    · simp [Value.cells] at hcs
      obtain ⟨rfl, rfl, rfl⟩ := hcs
      exact .inl ⟨rfl, rfl, rfl⟩
    · simp [Value.cells] at hcs
      obtain ⟨rfl, rfl, rfl⟩ := hcs
      refine .inr ⟨_, rfl, hl, hm, R, L, C, Z, fun r hrc => ?_⟩
      obtain ⟨g1, g2, g3, g4, g5, g6, g7⟩ := hr r hrc
      refine ⟨g1, ?_⟩
      cases hR : R r with
      | none =>
        have hC := g6 hR
        exact .inl ⟨rfl, by omega, hC, List.eq_nil_of_length_eq_zero (by omega)⟩
      | some y => exact .inr ⟨y, rfl, g2, g3, g4, fun c hc => (g7 y hR).2 c (by omega), g5⟩
  obtain ⟨a3, len3, cap3, rfl⟩ := okWide_slice Tryz.underlying40 (hval 3 40 v3 rfl rfl)
  have k3 := h3
  have lt3 : ∀ x ∈ p3, x.block < W.heap.size := by obtain ⟨m, hm⟩ := k3; exact DataW.trod_lt m _ _ _ hm
  obtain ⟨z3, w3, lz3⟩ : ∃ z : List Int, Go.Stx.IntsIn .i64 W a3 len3 cap3 z ∧ len3 ≤ 17592186044415 := by
    obtain ⟨fuel, hf⟩ := h3
    rcases open_ints Tryz.underlying40 Tryz.underlying3 (by kernel_rfl) hf with ⟨hcs, _⟩ | ⟨x, l, c, zs, hcs, _, hl, hm, hzl, hx, hcell, hwz⟩
    · simp [Value.cells] at hcs
      obtain ⟨rfl, rfl, rfl⟩ := hcs
      exact ⟨[], .inl ⟨rfl, rfl, rfl, rfl⟩, Nat.zero_le _⟩
    · simp [Value.cells] at hcs
      obtain ⟨rfl, rfl, rfl⟩ := hcs
      have hzl : zs.length = cap3 := by simpa using hzl
      refine ⟨zs, .inr ⟨_, rfl, hl, hm, hzl, hcell, hwz⟩, ?_⟩
      injection hx with hx _
      have hs := sized_slice hz (j := 3) (t := 40) (e := 3) (elems := lits .i64 (zs.take len3)) (spare := lits .i64 (zs.drop len3)) (by kernel_rfl) (by rw [← hx]; rfl) Tryz.underlying40
      have hb : Tryz.prog.bytesOf 3 = 8 := by kernel_rfl
      rw [hb] at hs
      have h47 := reachBytes_lt
      have hll : (lits (H := H) .i64 (zs.take len3)).length + (lits (H := H) .i64 (zs.drop len3)).length = cap3 := by
        simp [lits]
        omega
      omega
  obtain ⟨a4, rfl, rfl, rfl, w4⟩ := open_int Tryz.underlying3 (hval 4 3 v4 rfl rfl) h4
  obtain ⟨a5, rfl, rfl, rfl, w5⟩ := open_int Tryz.underlying3 (hval 5 3 v5 rfl rfl) h5
  clear hA0 hval0
  refine (walk W hG cs0 w0 b1_0 b1_1 b1_2 b1_3 b1_4 a2 len2 cap2 w2 a3 len3 cap3 z3 w3 lz3 a4 a5).mono fun e W' ⟨he, bel⟩ => ?_
  subst he
  exact ⟨_, rfl, _, _, _, [], _, [], hW', trodAll_mk1 (shut_bool Tryz.underlying4 _), (trodAll_cons_mk (Below.trod laidOut (by kernel_rfl) (of_decide_eq_true (by kernel_rfl)) k0 bel lt0) (trodAll_cons_mk (Below.trod laidOut (by kernel_rfl) (of_decide_eq_true (by kernel_rfl)) k1 bel lt1) (trodAll_cons_mk (Below.trod laidOut (by kernel_rfl) (of_decide_eq_true (by kernel_rfl)) k2 bel lt2) (trodAll_cons_mk (Below.trod laidOut (by kernel_rfl) (of_decide_eq_true (by kernel_rfl)) k3 bel lt3) (trodAll_cons_mk (shut_int Tryz.underlying3 w4) (trodAll_cons_mk (shut_int Tryz.underlying3 w5) trodAll_mk0)))))), rfl, bel.frame _, fun h => by cases h⟩
theorem laid_met (os : Os) (args : Array Value) : laidMetH Tryz.prog Rows.machineRefusesRow.laid ((World.laidAll Tryz.prog os Rows.machineRefusesRow.laid).forCall (fun _ _ => 0) ⟨#[], args, []⟩).memory := by
  rw [MakeChecks.laidMetH_plain _ _ _ (by kernel_rfl)]
  exact laidMet_laidAll _ (by kernel_rfl) (by kernel_rfl)
set_option maxRecDepth 100000 in
theorem lifted (os : Os) (started : os.Started) (H : Type) (enc : TypeId × Value → H) (F : Stop.Interp) :
    ReturnsInHanded {} Tryz.checked os 5 .any ((OpenSpec.ofChange Rows.machineRefusesSpec).preRow enc Tryz.prog Tryz.f5 Rows.machineRefusesRow.domain false Rows.machineRefusesRow.laid) (((OpenSpec.ofChange Rows.machineRefusesSpec).at F).post enc Tryz.prog Tryz.f5 false true false false) := by
  refine returnsInHanded_of_row (C := Tryz.checked) (s := OpenSpec.ofChange Rows.machineRefusesSpec) own started (by kernel_rfl) Tryz.func5
    (ChangeSpec.witness_shaped (enc := enc) (C := Tryz.checked) (os := os) (X := fun w _ => laidMetH Tryz.prog Rows.machineRefusesRow.laid w) false (World.laidAll Tryz.prog os Rows.machineRefusesRow.laid) #[.agg #[.int .i64 0, .int .i64 0, .int .i64 0, .int .i64 0, .int .i64 0, .int .i64 0, .int .i64 0, .int .i64 0, .int .i64 0, .int .i64 0, .int .i64 0, .int .i64 0, .bool false, .slice none 0 0, .slice none 0 0, .slice none 0 0], .agg #[.int .i64 0, .int .i64 0, .int .i64 0, .int .i64 0, .int .i64 0], .slice none 0 0, .slice none 0 0, .int .i64 0, .int .i64 0] 8 rfl (World.shaped_of_ZipB (by kernel_rfl) (by kernel_rfl)) (by kernel_rfl) (by kernel_rfl) (by kernel_rfl) (laid_met os _)) ?_
  intro W base args ds gs before hval hW _ _ hz hL hsh _
  exact contract H enc W base args ds gs before hval hW hL hsh hz
theorem over : Rows.machineRefusesRow.holds Tryz.pinned (OpenSpec.ofChange Rows.machineRefusesSpec) :=
  OpenClaim.holds_of_cond 5 Tryz.f5 rfl rfl rfl rfl rfl rfl rfl ⟨rfl, rfl, rfl, rfl, rfl⟩ rfl rfl rfl rfl rfl (by kernel_rfl) Tryz.func5 (by kernel_rfl)
    (of_decide_eq_true (by kernel_rfl)) (by unfold Func.isWrapper; first | (rw [if_pos (by decide +kernel)]; kernel_rfl) | (rw [if_neg (by decide +kernel)]; exact ⟨rfl, rfl⟩))
    (fun os started H enc _ F => by rw [OpenClaim.pre_eq_preRow]; exact lifted os started H enc F)
theorem plain (f : FuncId) (fn : Func) (hf : Tryz.pinned.checked.prog.funcNamed "strongtx/strongtxlaw21.MachineRefuses" = some f) (hfn : Tryz.pinned.checked.prog.funcs[f]? = some fn) :
    false = Tryz.pinned.checked.prog.looks [] ∧ ∀ (j : Nat) t, fn.params[j]? = some t → Tryz.pinned.checked.prog.wantsStandIn t = false := by
  obtain rfl : f = 5 := Option.some.inj ((show Tryz.prog.funcNamed "strongtx/strongtxlaw21.MachineRefuses" = some 5 by kernel_rfl).symm.trans hf) |>.symm
  obtain rfl : fn = Tryz.f5 := (Option.some.inj (Tryz.func5.symm.trans hfn)).symm
  refine ⟨by kernel_rfl, fun j t ht => ?_⟩
  rw [Tryz.params5] at ht
  have hm : t ∈ [42, 26, 49, 40, 3, 3] := by have := Array.mem_toList_iff.2 (Array.mem_of_getElem? ht); simpa using this
  simp only [List.mem_cons, List.not_mem_nil, or_false] at hm
  rcases hm with rfl | rfl | rfl | rfl | rfl | rfl
  · exact (show Tryz.prog.wantsStandIn 42 = false by kernel_rfl)
  · exact (show Tryz.prog.wantsStandIn 26 = false by kernel_rfl)
  · exact (show Tryz.prog.wantsStandIn 49 = false by kernel_rfl)
  · exact (show Tryz.prog.wantsStandIn 40 = false by kernel_rfl)
  · exact (show Tryz.prog.wantsStandIn 3 = false by kernel_rfl)
  · exact (show Tryz.prog.wantsStandIn 3 = false by kernel_rfl)
theorem proved : Rows.MachineRefusesCardSaid :=
  Claim7.holds_tied_plain_at .later [] _ _ _ _ over (fun _ h => by cases h) (by kernel_rfl) (fun _ h => by cases h) machineRefuses_row_tie rfl ⟨rfl, rfl⟩ (by kernel_rfl) rfl plain (by kernel_rfl)
#print axioms proved
end Go.Proofs.YtcffnkgjmneaeaaGreatDoor.machineRefuses
