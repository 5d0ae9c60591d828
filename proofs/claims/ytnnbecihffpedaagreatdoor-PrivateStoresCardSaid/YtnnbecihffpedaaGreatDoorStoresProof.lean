/-
  strongtxlaw30.PrivateStores returns true for every input, and its arguments read afterwards as they read before; its condition: the listed package-level variables read as listed.
-/
import Derived.Test.YtnnbecihffpedaaGreatDoorCards
import Derived.Test.YtnnbecihffpedaaGreatDoorTie
import Derived.Test.YtnnbecihffpedaaGreatDoorStoresU
import Derived.Test.YtnnbecihffpedaaGreatDoorStoresV
import Derived.WalkKit
import Derived.ProofKit
import Derived.OpenShut
import Derived.ShutString
import Derived.ChangeOld
import Derived.Below
import Derived.Lay
import Derived.Deep.DeepHandedRow
import Derived.Deep.Matrix
import Derived.SizedLaws
import Derived.Test.YtnnbecihffpedaaGreatDoorG21
namespace Go.Proofs.YtnnbecihffpedaaGreatDoor.privateStores
open Go.ChangeShapes Go.WideShapes Go.ChangeAt Go.RowKit
open Go.ChangeMaps (open_string shut_string)
set_option linter.unusedVariables false
set_option linter.unusedSimpArgs false
theorem own : ownKnob Tryz.prog.godebug = none := by kernel_rfl
theorem laidOut : laidOutB Tryz.prog = true := by kernel_rfl
theorem gok {W : World} (hL : laidMetH Tryz.prog Rows.privateStoresRow.laid W) : @Go.Stx.FOK (Go.Stx.glOf W) := by
  have hM : laidMet Tryz.prog Rows.privateStoresRow.laid W := by
    rw [MakeChecks.laidMetH_plain _ _ _ (by kernel_rfl)] at hL
    exact hL
  exact Go.Stx.fok_of (Lib.laidMet.reads hM (.head _))
theorem walk (W : World) (hG : @Go.Stx.FOK (Go.Stx.glOf W)) (b0_0 b0_1 b0_2 b0_3 b0_4 : Int) (a1 : Option Addr) (len1 cap1 : Nat) (w1 : Go.Stx.RowsZ W a1 len1 cap1) (a2 : Option Addr) (len2 cap2 : Nat) (z2 : List Int) (w2 : Go.Stx.IntsIn .i64 W a2 len2 cap2 z2) (lz2 : len2 ≤ 17592186044415) (a3 : Bool) :
    Calls Tryz.prog 5 #[.agg #[.int .i64 b0_0, .int .i64 b0_1, .int .i64 b0_2, .int .i64 b0_3, .int .i64 b0_4], .slice a1 len1 cap1, .slice a2 len2 cap2, .bool a3] W fun e w' => e = .returned (.bool true) ∧ Below W.heap.size W w' :=
  @Go.Stx.pt_world (Go.Stx.glOf W) hG W (Go.Stx.laid_self W) b0_0 b0_1 b0_2 b0_3 b0_4 a1 len1 cap1 w1 a2 len2 cap2 z2 w2 lz2 a3
set_option maxRecDepth 100000 in
theorem contract (H : Type) (enc : TypeId × Value → H) (W : World) (base : Nat) (args : Array Value) (ds gs : List (DataW H)) (before : List MemPlace)
    (hval0 : ∀ (j : Nat) t v, Tryz.f5.params[j]? = some t → args[j]? = some v → Value.okWide Tryz.prog W .any base t v)
    (hW : DataW.Whole enc Tryz.prog Tryz.f5.params.toList Rows.privateStoresSpec.vars false W args.toList ds gs before) (hL : laidMetH Tryz.prog Rows.privateStoresRow.laid W) (hsh : W.ShapedOpen Tryz.prog)
    (hz : (DataW.weightsEach Tryz.prog (Tryz.f5.params.toList ++ (OpenSpec.ofChange Rows.privateStoresSpec).bare.plain.varTypes Tryz.prog) (ds ++ gs)).all (· ≤ reachBytes) = true) :
    Calls Tryz.prog 5 args W fun e W' => ∃ v, e = .returned v ∧ Rows.privateStoresSpec.post enc Tryz.prog Tryz.f5 false true false false W args v W' := by
  have hG := gok hL
  have hval : ∀ (j : Nat) t v, Tryz.f5.params[j]? = some t → args[j]? = some v → Value.okWide Tryz.prog W .any base t v := hval0
  have hW' := hW
  obtain ⟨p, q, hA0, hV, rfl, hfz, hnd⟩ := hW
  have hA : DataW.TrodAll enc Tryz.prog W 0 (fun _ => true) true Tryz.f5.params.toList args.toList ds p := hA0
  rw [Tryz.params5] at hA hval
  obtain ⟨v0, vs0, d0, ds0, p0, q0, hargs, rfl, rfl, h0, r0⟩ := trodAll_cons hA
  obtain ⟨v1, vs1, d1, ds1, p1, q1, rfl, rfl, rfl, h1, r1⟩ := trodAll_cons r0
  obtain ⟨v2, vs2, d2, ds2, p2, q2, rfl, rfl, rfl, h2, r2⟩ := trodAll_cons r1
  obtain ⟨v3, vs3, d3, ds3, p3, q3, rfl, rfl, rfl, h3, r3⟩ := trodAll_cons r2
  obtain ⟨rfl, rfl, rfl⟩ := trodAll_nil r3
  obtain rfl : args = #[v0, v1, v2, v3] := by cases args; simp_all
  obtain ⟨rfl, rfl⟩ := trodVars_none hV
  obtain ⟨xs0, rfl, sz0⟩ := Go.Stx.okWide_arr5 Tryz.underlying22 (by kernel_rfl) (hval 0 22 v0 rfl rfl)
  have k0 := h0
  have lt0 : ∀ x ∈ p0, x.block < W.heap.size := by obtain ⟨m, hm⟩ := k0; exact DataW.trod_lt m _ _ _ hm
  obtain ⟨b0_0, b0_1, b0_2, b0_3, b0_4, ex0⟩ := Go.Stx.open_arr5 Tryz.underlying22 Tryz.underlying3 (by kernel_rfl) (by kernel_rfl) sz0 h0
  subst ex0
  obtain ⟨a1, len1, cap1, rfl⟩ := okWide_slice Tryz.underlying58 (hval 1 58 v1 rfl rfl)
  have k1 := h1
  have lt1 : ∀ x ∈ p1, x.block < W.heap.size := by obtain ⟨m, hm⟩ := k1; exact DataW.trod_lt m _ _ _ hm
  have w1 : Go.Stx.RowsZ W a1 len1 cap1 := by
    obtain ⟨fuel, hf⟩ := h1
    exact Go.Stx.open_rowsZ Tryz.underlying58 Tryz.underlying23 Tryz.underlying3 (by kernel_rfl) (by kernel_rfl) (by kernel_rfl) hf hz (j := 1) (by kernel_rfl) rfl
  obtain ⟨a2, len2, cap2, rfl⟩ := okWide_slice Tryz.underlying23 (hval 2 23 v2 rfl rfl)
  have k2 := h2
  have lt2 : ∀ x ∈ p2, x.block < W.heap.size := by obtain ⟨m, hm⟩ := k2; exact DataW.trod_lt m _ _ _ hm
  obtain ⟨z2, w2, lz2⟩ : ∃ z : List Int, Go.Stx.IntsIn .i64 W a2 len2 cap2 z ∧ len2 ≤ 17592186044415 := by
    obtain ⟨fuel, hf⟩ := h2
    rcases open_ints Tryz.underlying23 Tryz.underlying3 (by kernel_rfl) hf with ⟨hcs, _⟩ | ⟨x, l, c, zs, hcs, _, hl, hm, hzl, hx, hcell, hwz⟩
    · simp [Value.cells] at hcs
      obtain ⟨rfl, rfl, rfl⟩ := hcs
      exact ⟨[], .inl ⟨rfl, rfl, rfl, rfl⟩, Nat.zero_le _⟩
    · simp [Value.cells] at hcs
      obtain ⟨rfl, rfl, rfl⟩ := hcs
      have hzl : zs.length = cap2 := by simpa using hzl
      refine ⟨zs, .inr ⟨_, rfl, hl, hm, hzl, hcell, hwz⟩, ?_⟩
      injection hx with hx _
      have hs := sized_slice hz (j := 2) (t := 23) (e := 3) (elems := lits .i64 (zs.take len2)) (spare := lits .i64 (zs.drop len2)) (by kernel_rfl) (by rw [← hx]; rfl) Tryz.underlying23
      have hb : Tryz.prog.bytesOf 3 = 8 := by kernel_rfl
      rw [hb] at hs
      have h47 := reachBytes_lt
      have hll : (lits (H := H) .i64 (zs.take len2)).length + (lits (H := H) .i64 (zs.drop len2)).length = cap2 := by
        simp [lits]
        omega
      omega
  obtain ⟨a3, rfl, rfl, rfl⟩ := open_bool Tryz.underlying4 (hval 3 4 v3 rfl rfl) h3
  clear hA0 hval0
  refine (walk W hG b0_0 b0_1 b0_2 b0_3 b0_4 a1 len1 cap1 w1 a2 len2 cap2 z2 w2 lz2 a3).mono fun e W' ⟨he, bel⟩ => ?_
  subst he
  exact ⟨_, rfl, _, _, _, [], _, [], hW', trodAll_mk1 (shut_bool Tryz.underlying4 _), (trodAll_cons_mk (Below.trod laidOut (by kernel_rfl) (of_decide_eq_true (by kernel_rfl)) k0 bel lt0) (trodAll_cons_mk (Below.trod laidOut (by kernel_rfl) (of_decide_eq_true (by kernel_rfl)) k1 bel lt1) (trodAll_cons_mk (Below.trod laidOut (by kernel_rfl) (of_decide_eq_true (by kernel_rfl)) k2 bel lt2) (trodAll_cons_mk (shut_bool Tryz.underlying4 _) trodAll_mk0)))), rfl, bel.frame _, fun h => by cases h⟩
theorem laid_met (os : Os) (args : Array Value) : laidMetH Tryz.prog Rows.privateStoresRow.laid ((World.laidAll Tryz.prog os Rows.privateStoresRow.laid).forCall (fun _ _ => 0) ⟨#[], args, []⟩).memory := by
  rw [MakeChecks.laidMetH_plain _ _ _ (by kernel_rfl)]
  exact laidMet_laidAll _ (by kernel_rfl) (by kernel_rfl)
set_option maxRecDepth 100000 in
theorem lifted (os : Os) (started : os.Started) (H : Type) (enc : TypeId × Value → H) (F : Stop.Interp) :
    ReturnsInHanded {} Tryz.checked os 5 .any ((OpenSpec.ofChange Rows.privateStoresSpec).preRow enc Tryz.prog Tryz.f5 Rows.privateStoresRow.domain false Rows.privateStoresRow.laid) (((OpenSpec.ofChange Rows.privateStoresSpec).at F).post enc Tryz.prog Tryz.f5 false true false false) := by
  refine returnsInHanded_of_row (C := Tryz.checked) (s := OpenSpec.ofChange Rows.privateStoresSpec) own started (by kernel_rfl) Tryz.func5
    (ChangeSpec.witness_shaped (enc := enc) (C := Tryz.checked) (os := os) (X := fun w _ => laidMetH Tryz.prog Rows.privateStoresRow.laid w) false (World.laidAll Tryz.prog os Rows.privateStoresRow.laid) #[.agg #[.int .i64 0, .int .i64 0, .int .i64 0, .int .i64 0, .int .i64 0], .slice none 0 0, .slice none 0 0, .bool false] 8 rfl (World.shaped_of_ZipB (by kernel_rfl) (by kernel_rfl)) (by kernel_rfl) (by kernel_rfl) (by kernel_rfl) (laid_met os _)) ?_
  intro W base args ds gs before hval hW _ _ hz hL hsh _
  exact contract H enc W base args ds gs before hval hW hL hsh hz
theorem over : Rows.privateStoresRow.holds Tryz.pinned (OpenSpec.ofChange Rows.privateStoresSpec) :=
  OpenClaim.holds_of_cond 5 Tryz.f5 rfl rfl rfl rfl rfl rfl rfl ⟨rfl, rfl, rfl, rfl, rfl⟩ rfl rfl rfl rfl rfl o1 Tryz.func5 o2
    (of_decide_eq_true o3) o4
    (fun os started H enc _ F => by rw [OpenClaim.pre_eq_preRow]; exact lifted os started H enc F)
theorem plain (f : FuncId) (fn : Func) (hf : Tryz.pinned.checked.prog.funcNamed "strongtx/strongtxlaw30.PrivateStores" = some f) (hfn : Tryz.pinned.checked.prog.funcs[f]? = some fn) :
    false = Tryz.pinned.checked.prog.looks [] ∧ ∀ (j : Nat) t, fn.params[j]? = some t → Tryz.pinned.checked.prog.wantsStandIn t = false := by
  obtain rfl : f = 5 := Option.some.inj ((show Tryz.prog.funcNamed "strongtx/strongtxlaw30.PrivateStores" = some 5 by kernel_rfl).symm.trans hf) |>.symm
  obtain rfl : fn = Tryz.f5 := (Option.some.inj (Tryz.func5.symm.trans hfn)).symm
  refine ⟨by kernel_rfl, fun j t ht => ?_⟩
  rw [Tryz.params5] at ht
  have hm : t ∈ [22, 58, 23, 4] := by have := Array.mem_toList_iff.2 (Array.mem_of_getElem? ht); simpa using this
  simp only [List.mem_cons, List.not_mem_nil, or_false] at hm
  rcases hm with rfl | rfl | rfl | rfl
  · exact (show Tryz.prog.wantsStandIn 22 = false by kernel_rfl)
  · exact (show Tryz.prog.wantsStandIn 58 = false by kernel_rfl)
  · exact (show Tryz.prog.wantsStandIn 23 = false by kernel_rfl)
  · exact (show Tryz.prog.wantsStandIn 4 = false by kernel_rfl)
theorem proved : Rows.PrivateStoresCardSaid :=
  Claim7.holds_tied_plain_at .later [] _ _ _ _ over (fun _ h => by cases h) q1 (fun _ h => by cases h) privateStores_row_tie rfl ⟨rfl, rfl⟩ q2 rfl plain q3
#print axioms proved
end Go.Proofs.YtnnbecihffpedaaGreatDoor.privateStores
