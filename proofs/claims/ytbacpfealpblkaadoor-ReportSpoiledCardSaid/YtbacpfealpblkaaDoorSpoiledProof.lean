/-
  strongtxlaw32.ReportSpoiled returns true for every input, and its arguments read afterwards as they read before; its condition: the listed package-level variables read as listed.
-/
import Derived.Test.YtbacpfealpblkaaDoorCards
import Derived.Test.YtbacpfealpblkaaDoorTie
import Derived.WalkKit
import Derived.ProofKit
import Derived.OpenShut
import Derived.ShutString
import Derived.ChangeOld
import Derived.Below
import Derived.Lay
import Derived.Deep.DeepHandedRow
import Derived.Test.YtbacpfealpblkaaDoorRepM
namespace Go.Proofs.YtbacpfealpblkaaDoor.reportSpoiled
open Go.ChangeShapes Go.WideShapes Go.ChangeAt Go.RowKit
open Go.ChangeMaps (open_string shut_string)
set_option linter.unusedVariables false
set_option linter.unusedSimpArgs false
theorem own : ownKnob Tryd.prog.godebug = none := by kernel_rfl
theorem laidOut : laidOutB Tryd.prog = true := by kernel_rfl
theorem gok {W : World} (hL : laidMetH Tryd.prog Rows.reportSpoiledRow.laid W) (hsh : W.ShapedOpen Tryd.prog) : @Go.Stx.GOK (Go.Stx.glOf W) := by
  have hM : laidMet Tryd.prog Rows.reportSpoiledRow.laid W := by
    rw [MakeChecks.laidMetH_plain _ _ _ (by kernel_rfl)] at hL
    exact hL
  obtain ⟨n, h0⟩ := Go.Proofs.cell_of_shapedOpen_int (g := 0) (zero := #[.int .i64 0]) (t := 3) hsh (of_decide_eq_true (by kernel_rfl)) (by kernel_rfl) rfl (by kernel_rfl) (by kernel_rfl) Tryd.underlying3
  have hT := Go.Stx.tab_of_reads (nm := "internal/strconv.uint64pow10") (k := .u64) (zs := Lib.pow10Tab) (g := 1) (t := 97) (e := 36) (n := 20) (Lib.laidMet.reads hM (.tail _ (.tail _ (.head _)))) (by kernel_rfl) (by kernel_rfl) Tryd.underlying97 Tryd.underlying36 (by kernel_rfl) (by kernel_rfl)
  obtain ⟨t2, p2, h2⟩ := Go.Stx.iface_of_reads (nm := "strconv.ErrSyntax") (g := 2) (t := 57) (Lib.laidMet.reads hM (.tail _ (.tail _ (.tail _ (.tail _ (.tail _ (.head _))))))) (by kernel_rfl) (by kernel_rfl) Tryd.underlying57
  obtain ⟨t3, p3, h3⟩ := Go.Stx.iface_of_reads (nm := "strconv.ErrRange") (g := 3) (t := 57) (Lib.laidMet.reads hM (.tail _ (.tail _ (.tail _ (.tail _ (.head _)))))) (by kernel_rfl) (by kernel_rfl) Tryd.underlying57
  exact Go.Stx.gok_of h0 hT h2 h3
theorem walk0 [Go.Stx.Gl] (W : World) (hG : Go.Stx.GOK) (hl0 : ∀ b x, Go.Stx.Gl.B b = some x → W.heap[b]? = some x) (a0 : Option Addr) (len0 cap0 : Nat) (w0 : Go.Stx.StepsIn W a0 len0 cap0) (a1 : Int) (w1 : (Lit.int .i64 a1).wf = true) (a2 : Int) (w2 : (Lit.int .u8 a2).wf = true) (a3 : Int) (w3 : (Lit.int .i64 a3).wf = true) :
    Calls Tryd.prog 6 #[.slice a0 len0 cap0, .int .i64 a1, .int .u8 a2, .int .i64 a3] W fun e w' => e = .returned (.bool true) ∧ Below W.heap.size W w' := by
  have s0 := Go.Stx.Sim.empty W hl0
  have n0 := Go.Stx.AW.NoOwn.empty
  obtain ⟨m1, A1, v0, l0, le1, g1, s1, n1, r0, h0, ok0⟩ := Go.Stx.intro_steps s0 n0 w0
  refine Go.Stx.calls_of_acall (Go.Stx.spoiled_call hG v0 l0 a1 a2 a3 A1 h0 ok0) (fun v A' h => h) s1 n1 ?_
  exact .cons r0 (.cons (.int _ _) (.cons (.int _ _) (.cons (.int _ _) .nil)))
theorem walk (W : World) (hG : @Go.Stx.GOK (Go.Stx.glOf W)) (a0 : Option Addr) (len0 cap0 : Nat) (w0 : Go.Stx.StepsIn W a0 len0 cap0) (a1 : Int) (w1 : (Lit.int .i64 a1).wf = true) (a2 : Int) (w2 : (Lit.int .u8 a2).wf = true) (a3 : Int) (w3 : (Lit.int .i64 a3).wf = true) :
    Calls Tryd.prog 6 #[.slice a0 len0 cap0, .int .i64 a1, .int .u8 a2, .int .i64 a3] W fun e w' => e = .returned (.bool true) ∧ Below W.heap.size W w' :=
  @walk0 (Go.Stx.glOf W) W hG (Go.Stx.laid_self W) a0 len0 cap0 w0 a1 w1 a2 w2 a3 w3
set_option maxRecDepth 100000 in
theorem contract (H : Type) (enc : TypeId × Value → H) (W : World) (base : Nat) (args : Array Value) (ds gs : List (DataW H)) (before : List MemPlace)
    (hval0 : ∀ (j : Nat) t v, Tryd.f6.params[j]? = some t → args[j]? = some v → Value.okWide Tryd.prog W .any base t v)
    (hW : DataW.Whole enc Tryd.prog Tryd.f6.params.toList Rows.reportSpoiledSpec.vars false W args.toList ds gs before) (hL : laidMetH Tryd.prog Rows.reportSpoiledRow.laid W) (hsh : W.ShapedOpen Tryd.prog) :
    Calls Tryd.prog 6 args W fun e W' => ∃ v, e = .returned v ∧ Rows.reportSpoiledSpec.post enc Tryd.prog Tryd.f6 false true false false W args v W' := by
  have hG := gok hL hsh
  have hval : ∀ (j : Nat) t v, Tryd.f6.params[j]? = some t → args[j]? = some v → Value.okWide Tryd.prog W .any base t v := hval0
  have hW' := hW
  obtain ⟨p, q, hA0, hV, rfl, hfz, hnd⟩ := hW
  have hA : DataW.TrodAll enc Tryd.prog W 0 (fun _ => true) true Tryd.f6.params.toList args.toList ds p := hA0
  rw [Tryd.params6] at hA hval
  obtain ⟨v0, vs0, d0, ds0, p0, q0, hargs, rfl, rfl, h0, r0⟩ := trodAll_cons hA
  obtain ⟨v1, vs1, d1, ds1, p1, q1, rfl, rfl, rfl, h1, r1⟩ := trodAll_cons r0
  obtain ⟨v2, vs2, d2, ds2, p2, q2, rfl, rfl, rfl, h2, r2⟩ := trodAll_cons r1
  obtain ⟨v3, vs3, d3, ds3, p3, q3, rfl, rfl, rfl, h3, r3⟩ := trodAll_cons r2
  obtain ⟨rfl, rfl, rfl⟩ := trodAll_nil r3
  obtain rfl : args = #[v0, v1, v2, v3] := by cases args; simp_all
  obtain ⟨rfl, rfl⟩ := trodVars_none hV
  obtain ⟨a0, len0, cap0, rfl⟩ := okWide_slice Tryd.underlying22 (hval 0 22 v0 rfl rfl)
  have k0 := h0
  have lt0 : ∀ x ∈ p0, x.block < W.heap.size := by obtain ⟨m, hm⟩ := k0; exact DataW.trod_lt m _ _ _ hm
  have w0 : Go.Stx.StepsIn W a0 len0 cap0 := by
    obtain ⟨fuel, hf⟩ := h0
    exact Go.Stx.open_steps hf rfl
  obtain ⟨a1, rfl, rfl, rfl, w1⟩ := open_int Tryd.underlying3 (hval 1 3 v1 rfl rfl) h1
  obtain ⟨a2, rfl, rfl, rfl, w2⟩ := open_int Tryd.underlying5 (hval 2 5 v2 rfl rfl) h2
  obtain ⟨a3, rfl, rfl, rfl, w3⟩ := open_int Tryd.underlying3 (hval 3 3 v3 rfl rfl) h3
  clear hA0 hval0
  refine (walk W hG a0 len0 cap0 w0 a1 w1 a2 w2 a3 w3).mono fun e W' ⟨he, bel⟩ => ?_
  subst he
  exact ⟨_, rfl, _, _, _, [], _, [], hW', trodAll_mk1 (shut_bool Tryd.underlying4 _), (trodAll_cons_mk (Below.trod laidOut (by kernel_rfl) (of_decide_eq_true (by kernel_rfl)) k0 bel lt0) (trodAll_cons_mk (shut_int Tryd.underlying3 w1) (trodAll_cons_mk (shut_int Tryd.underlying5 w2) (trodAll_cons_mk (shut_int Tryd.underlying3 w3) trodAll_mk0)))), rfl, bel.frame _, fun h => by cases h⟩
theorem laid_met (os : Os) (args : Array Value) : laidMetH Tryd.prog Rows.reportSpoiledRow.laid ((World.laidAll Tryd.prog os Rows.reportSpoiledRow.laid).forCall (fun _ _ => 0) ⟨#[], args, []⟩).memory := by
  rw [MakeChecks.laidMetH_plain _ _ _ (by kernel_rfl)]
  exact laidMet_laidAll _ (by kernel_rfl) (by kernel_rfl)
set_option maxRecDepth 100000 in
theorem lifted (os : Os) (started : os.Started) (H : Type) (enc : TypeId × Value → H) (F : Stop.Interp) :
    ReturnsInHanded {} Tryd.checked os 6 .any ((OpenSpec.ofChange Rows.reportSpoiledSpec).preRow enc Tryd.prog Tryd.f6 Rows.reportSpoiledRow.domain false Rows.reportSpoiledRow.laid) (((OpenSpec.ofChange Rows.reportSpoiledSpec).at F).post enc Tryd.prog Tryd.f6 false true false false) := by
  refine returnsInHanded_of_row (C := Tryd.checked) (s := OpenSpec.ofChange Rows.reportSpoiledSpec) own started (by kernel_rfl) Tryd.func6
    (ChangeSpec.witness_shaped (enc := enc) (C := Tryd.checked) (os := os) (X := fun w _ => laidMetH Tryd.prog Rows.reportSpoiledRow.laid w) false (World.laidAll Tryd.prog os Rows.reportSpoiledRow.laid) #[.slice none 0 0, .int .i64 0, .int .u8 0, .int .i64 0] 8 rfl (World.shaped_of_ZipB (by kernel_rfl) (by kernel_rfl)) (by kernel_rfl) (by kernel_rfl) (by kernel_rfl) (laid_met os _)) ?_
  intro W base args ds gs before hval hW _ _ _ hL hsh _
  exact contract H enc W base args ds gs before hval hW hL hsh
theorem over : Rows.reportSpoiledRow.holds Tryd.pinned (OpenSpec.ofChange Rows.reportSpoiledSpec) :=
  OpenClaim.holds_of_cond 6 Tryd.f6 rfl rfl rfl rfl rfl rfl rfl ⟨rfl, rfl, rfl, rfl, rfl⟩ rfl rfl rfl rfl rfl (by kernel_rfl) Tryd.func6 (by kernel_rfl)
    (of_decide_eq_true (by kernel_rfl)) (by unfold Func.isWrapper; first | (rw [if_pos (by decide +kernel)]; kernel_rfl) | (rw [if_neg (by decide +kernel)]; exact ⟨rfl, rfl⟩))
    (fun os started H enc _ F => by rw [OpenClaim.pre_eq_preRow]; exact lifted os started H enc F)
theorem plain (f : FuncId) (fn : Func) (hf : Tryd.pinned.checked.prog.funcNamed "strongtx/strongtxlaw32.ReportSpoiled" = some f) (hfn : Tryd.pinned.checked.prog.funcs[f]? = some fn) :
    true = Tryd.pinned.checked.prog.looks [] ∧ ∀ (j : Nat) t, fn.params[j]? = some t → Tryd.pinned.checked.prog.wantsStandIn t = false := by
  obtain rfl : f = 6 := Option.some.inj ((show Tryd.prog.funcNamed "strongtx/strongtxlaw32.ReportSpoiled" = some 6 by kernel_rfl).symm.trans hf) |>.symm
  obtain rfl : fn = Tryd.f6 := (Option.some.inj (Tryd.func6.symm.trans hfn)).symm
  refine ⟨by kernel_rfl, fun j t ht => ?_⟩
  rw [Tryd.params6] at ht
  have hm : t ∈ [22, 3, 5, 3] := by have := Array.mem_toList_iff.2 (Array.mem_of_getElem? ht); simpa using this
  simp only [List.mem_cons, List.not_mem_nil, or_false] at hm
  rcases hm with rfl | rfl | rfl | rfl
  · exact (show Tryd.prog.wantsStandIn 22 = false by kernel_rfl)
  · exact (show Tryd.prog.wantsStandIn 3 = false by kernel_rfl)
  · exact (show Tryd.prog.wantsStandIn 5 = false by kernel_rfl)
  · exact (show Tryd.prog.wantsStandIn 3 = false by kernel_rfl)
theorem proved : Rows.ReportSpoiledCardSaid :=
  Claim7.holds_tied_plain_at .later [] _ _ _ _ over (fun _ h => by cases h) (by kernel_rfl) (fun _ h => by cases h) reportSpoiled_row_tie rfl ⟨rfl, rfl⟩ (by kernel_rfl) rfl plain (by kernel_rfl)
#print axioms proved
end Go.Proofs.YtbacpfealpblkaaDoor.reportSpoiled
