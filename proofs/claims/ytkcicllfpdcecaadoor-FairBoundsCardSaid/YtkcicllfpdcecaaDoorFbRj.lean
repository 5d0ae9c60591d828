/-
  The program's Longest.
-/
import Derived.Test.YtkcicllfpdcecaaDoorFbRi
namespace Go.Stx
open Go Go.Proofs
attribute [local irreducible] AWP LWalk ACall ARounds lops nops

open Go.RowKit
set_option linter.unusedVariables false
set_option linter.unusedSimpArgs false
set_option linter.unusedSectionVars false
set_option maxRecDepth 20000
variable [Gl]

/-- Operations that leave the world as it is, whatever calls are deferred. -/
theorem quiet_frontD {fuel : Nat} {P : Program} {ops : Array Oper} {n : Nat} (hops : ops.all (operOk n) = true) {K : Fr → Prop} {Q : Exit → Act → World → Prop} {l2 : List Oper} {A : AW} {m : Mp} {w : World} (hs : Sim m A w) (ds : List Deferred) : ∀ (l : List Oper) (a : Fr) (ca : Act),
    (∀ o ∈ l, operOk n o = true) → QL P ops A K l a → FRel m n a { ca with defers := [] } → ca.defers = ds →
    (∀ a' ca', K a' → FRel m n a' { ca' with defers := [] } → ca'.defers = ds → wpListIn Fence.wide fuel P ops Q l2 ca' w) → wpListIn Fence.wide fuel P ops Q (l ++ l2) ca w
  | [], a, ca, _, h, hf, hd, hK => hK a ca h hf hd
  | o :: rest, a, ca, hl, h, hf, hdd, hK => by
    obtain ⟨hg, v, hv, h⟩ := h
    rw [List.cons_append]
    unfold wpListIn
    have hgc := gval_conc hf hops o
    simp only at hgc
    rw [hgc, if_pos hg]
    have ho := hl o (by simp)
    simp only [operOk, Bool.and_eq_true] at ho
    have hd : ∀ i, o.dst = some i → i < n := fun i e => by have := ho.2; rw [e] at this; simpa using this
    have hr : ∀ x ∈ o.op.operands, VRel m (evF a x) (ca.eval x) := fun x hx => hf.eval (Array.all_eq_true_iff_forall_mem.1 ho.1 x hx)
    obtain ⟨v', h1, h2⟩ := aq_sound hs hr hv
    refine ⟨fun _ _ => trivial, ?_⟩
    rw [Fence.wide_round, Oper.semAt_none, h2 w (Ext.refl w)]
    refine quiet_frontD hops hs ds rest _ _ (fun x hx => hl x (by simp [hx])) h ?_ ?_ hK
    · have := hf.put hd h1
      cases ho : o.dst <;> (rw [ho] at this; exact this)
    · cases ho : o.dst <;> exact hdd

set_option maxHeartbeats 4000000 in
theorem longest_pure (hF : FOK) (v : Value) (p : List InsV) (A : AW) (h : IsIns A v p) : APure Tryd.prog 28 [v] A (.int .i64 (longF p)) := by
  refine ⟨by kernel_rfl, rfl, fun m w cargs hs hl => ?_⟩
  have hs0 := hs.ro
  have h0 : IsIns A.ro v p := IsSl.ro h
  have hwf : A.ro.Wf := hs0.low
  obtain ⟨o, c, hvf, _⟩ := h.form
  refine (callsIn_wide (n := 4)).1 ?_
  refine callsIn_of_wp_marks Tryd.func28 rfl trivial ?_ rfl
  have hf0 := frel_init (n := 43) hs0 hl (by simp)
  refine wpIn_seq (wpIn_mono (pre0 v o p.length c A.ro hvf _ _ rfl (by kernel_rfl) 4 m w _ hs0 hf0) ?_)
  rintro e ca1 w1 ⟨m1, a1, A1, ev1, hf1, rfl, f1, rfl⟩
  refine wpIn_seq (wpIn_mono (pre1 hF v p A.ro hwf h0 a1 f1 _ _ _ rfl (by kernel_rfl) 4 m1 w1 _ ev1.sim hf1) ?_)
  rintro e ca2 w2 ⟨m2, a2, A2, ev2, hf2, rfl, hq⟩
  have ev12 := ev1.trans ev2
  by_cases hv : progOk p = true
  rotate_left
  · rw [if_neg hv] at hq
    obtain ⟨rfl, f2⟩ := hq
    show bodyPostM _ _ _ _ _ .ret ca2 w2
    unfold bodyPostM
    simp only
    rw [hf2.defers]
    refine ⟨_, results_tmp rfl _ _ _, ?_, ev12.keptRo⟩
    have h1 := hf2.rel 2 (by decide)
    rw [f2] at h1
    rw [h1.eq_of_scalar rfl]
    unfold longF
    rw [if_neg hv]
  rw [if_pos hv] at hq
  obtain ⟨rfl, f12⟩ := hq
  have hl64 : p.length ≤ 64 := (progCheck_ok (p := p) (by simpa [progOk] using hv)).1
  refine wpIn_seq (wpIn_mono (pre3 v p A.ro hwf h0 hl64 a2 f12 _ _ _ _ rfl (by kernel_rfl) 4 m2 w2 _ ev2.sim hf2) ?_)
  rintro e ca3 w3 ⟨m3, a3, A3, ev3, hf3, rfl, f31, f33, rfl⟩
  have ev13 := ev12.trans ev3
  refine wpIn_seq (wpIn_seq (wpIn_mono (pre4 v o p.length c _ _ hvf a3 f31 _ f33 true (by simp [AW.get_set, AW.get_alloc]; try omega) _ _ _ _ _ _ rfl (by kernel_rfl) 4 m3 w3 _ ev3.sim hf3) ?_))
  rintro e ca4 w4 ⟨m4, a4, A4, ev4, hf4, rfl, f41, f43, f415, hA4⟩
  have ev14 := ev13.trans ev4
  obtain ⟨tm4, df4⟩ := ca4
  have hdf := hf4.defers
  simp only at hdf
  subst hdf
  obtain ⟨n0, hn0⟩ : ∃ n0, A.ro.next = n0 := ⟨_, rfl⟩
  have e1 : ¬ n0 = n0 + 1 + 1 := by omega
  have e2 : ¬ n0 = n0 + 1 := by omega
  have e3 : ¬ n0 + 1 = n0 := by omega
  have e4 : ¬ n0 + 1 + 1 = n0 := by omega
  have e5 : ¬ n0 = n0 + 1 + 1 + 1 := by omega
  have hb15 : a4 15 = .func (.func 51) #[] #[.pointer (some ⟨n0 + 3, 0, none⟩)] := by rw [f415]; simp [hn0]
  have gb0 : A4.get n0 = some (.cells [v] true 1) := by rw [hA4]; simp [AW.get_set, AW.get_alloc, hn0, e1, e2, e3, e4, e5]
  have gb1 : A4.get (n0 + 1) = some (.cells ((List.replicate (p.length + 1) (0 : Int)).map (Value.int .i64)) true 1) := by rw [hA4]; simp [AW.get_set, AW.get_alloc, hn0, e1, e2, e3, e4, e5]
  have gb2 : A4.get (n0 + 2) = some (.cells [.slice (some ⟨n0 + 1, 0, none⟩) (p.length + 1) (p.length + 1)] true 1) := by rw [hA4]; simp [AW.get_set, AW.get_alloc, hn0, e1, e2, e3, e4, e5]
  have gb3 : A4.get (n0 + 3) = some (.cells [v] true 1) := by rw [hA4]; simp [AW.get_set, AW.get_alloc, hn0, e1, e2, e3, e4, e5]
  have hle4 : A.ro.le A4 := by
    rw [hA4]
    exact ((((AW.le.alloc A.ro _).trans (AW.le.alloc _ _)).trans (AW.le.alloc _ _)).set (by omega) _).trans (AW.le.alloc _ _)
  clear f415 hA4
  rw [hn0] at f41 f43
  have hs4 := ev4.sim
  obtain ⟨p1, hm1, _⟩ := hs4.obj _ _ gb1
  have hrbB := hs4.blk gb1 hm1
  have hrbw : w.heap.size ≤ p1.block := by
    rcases ev14.grow p1.block ⟨_, _, p1, gb1, rfl, hm1, rfl⟩ with ⟨i, oi, pi, hi, how, _⟩ | h
    · obtain ⟨o', _, rfl⟩ := AW.ro_inv hi
      rw [AObj.ro_own] at how
      cases how
    · exact h
  have hlaid : ∀ b x, Gl.B b = some x → b ≠ p1.block := fun b x hb e => by
    have := hs4.lown _ _ p1 gb1 rfl hm1
    rw [← e, hb] at this
    cases this
  have hlaidB : ∀ b x, Gl.B b = some x → b < w4.heap.size := fun b x hb => (Array.getElem?_eq_some_iff.1 (hs4.laid b x hb)).1
  have h4 : IsIns A4 v p := h0.le hle4 hwf
  have hMI : IsIns (A4.ro.set (n0 + 1) none) v p := by
    rcases h0 with h0 | ⟨q, c', row, own, u, q1, q2, q3, q4, q5, q6⟩
    · exact .inl h0
    · have q7 := hwf.lt q3
      refine .inr ⟨q, c', row, false, u, q1, q2, ?_, q4, q5, q6⟩
      rw [AW.set_get_ne (by omega)]
      exact AW.ro_get (hle4.keep hwf q3)
  have hcb : (A4.ro.set (n0 + 1) none).get (n0 + 3) = some (.cells [v] false 1) := by
    rw [AW.set_get_ne (by omega)]
    exact AW.ro_get gb3
  have hx15 := hf4.eval (x := .tmp 15) rfl
  rw [evF_tmp, hb15] at hx15
  obtain ⟨pb, hg, hpb⟩ : ∃ pb, (Act.mk tm4 []).eval (.tmp 15) = .func (.func 51) #[] #[.pointer (some pb)] ∧ VRel m4 (.pointer (some ⟨n0 + 3, 0, none⟩)) (.pointer (some pb)) := by
    generalize (Act.mk tm4 []).eval (.tmp 15) = z at hx15
    cases hx15 with
    | func _ h1 h2 h3 h4 =>
      rename_i xs ys
      have q1 : xs = #[] := Array.eq_empty_of_size_eq_zero h1.symm
      obtain ⟨y, q2⟩ : ∃ y, ys = #[y] := Array.size_eq_one_iff.1 h2.symm
      subst q1 q2
      have h5 := h4 0 _ y rfl rfl
      cases h5 with
      | ptr h6 => exact ⟨_, rfl, .ptr h6⟩
  have hrow0 : List.replicate (p.length + 1) (0 : Int) = runRow p [] := rfl
  rw [hrow0] at gb1
  refine wpIn_block (wpIn_rangeFunc_ownG (α := PosV p.length) (F := Fence.wide) (n := 4) (w0 := w4) (encs := posE) rfl (by omega) hg trivial (enters_of Tryd.func51 (by kernel_rfl) rfl)
    (backward_stops 3 p hl64 m4 (A4.ro.set (n0 + 1) none) w4 p1.block v (n0 + 3) hMI hcb pb hpb (fun W hW => LM.quiet hs4 gb1 rfl hm1 hW hlaid)) (fun {A B C} h k => h.trans k) ?_ (Below.refl _ _) (fun _ => rfl)
    (fun pre W => Sim m4 (LM A4 (n0 + 1) (runRow p (pre.map (·.1.1)))) W ∧ BB w4.heap.size p1.block w4 W ∧ W.os = w4.os ∧ W.tape = w4.tape ∧ W.output = w4.output) (fun _ _ _ => False) ?_ (fun _ _ _ _ _ h _ _ => h)
    ⟨LM.start hs4 gb1, BB.refl _ _ _, rfl, rfl, rfl⟩ (fun x => { tmps := ((tm4.setIfInBounds 16 (.int .i64 (x.1.1 : Int))).setIfInBounds 17 (.agg (insCells x.1.2).toArray)).setIfInBounds 4 (.int .i64 (x.1.1 : Int)), defers := [] }) ?assign ?body ?done ?stop)
  · intro W l o o' hl _ _ _
    refine ⟨(grownBy_putObj' W l o').size, fun b hb hne => World.putObj_heap_other (by omega)⟩
  · rintro s W W' row ⟨q1, q2, q3, q4, q5⟩ hg hr
    have he : ∀ b, b < w4.heap.size → W'.heap[b]? = W.heap[b]? := fun b hb => hg.block b (Nat.lt_of_lt_of_le hb q2.size) (fun e => by have := (hr b e.symm).1; omega)
    refine ⟨q1.keepB (B := w4.heap.size) (fun i o p hi hm => ?_) hlaidB he, q2.trans ⟨hg.size, fun b hb _ => he b hb⟩, hg.os.trans q3, hg.tape.trans q4, hg.output.trans q5⟩
    by_cases e : i = n0 + 1
    · subst e
      exact hs4.blk gb1 hm
    · rw [LM_ne _ e] at hi
      obtain ⟨o', hi', _⟩ := AW.ro_inv hi
      exact hs4.blk hi' hm
  case assign =>
    intro l x W K hK
    have hsz : tm4.size = 43 := hf4.size
    refine wpIn_region_list ?_
    show wpListIn _ _ _ _ _ [_] _ _
    unfold wpListIn
    rw [if_pos (by rfl)]
    refine ⟨fun _ _ => trivial, ?_⟩
    rw [Fence.inRound_round, Oper.semAt_some _ _ _ (by intro c h; cases h)]
    have hrun : ∀ (o : Oper) (ρ : Operand → Value), o.op = .assign (.tmp 16) → (execOp ρ o).run Tryd.prog W = .ok (.value (ρ (.tmp 16))) W := fun o ρ ho => by
      obtain ⟨dst, op, ty, pos, after, guard⟩ := o
      simp only at ho
      subst ho
      rfl
    rw [hrun _ _ rfl, Oper.uponIn_value]
    unfold wpListIn
    have h16 : Act.eval { tmps := ((#[16, 17] : Array Tmp).zip (posE x)).foldl (fun t (p, v) => t.setIfInBounds p v) tm4, defers := [] } (.tmp 16) = .int .i64 (x.1.1 : Int) := by
      simp [posE, Act.eval, Array.getD_eq_getD_getElem?, Array.getElem?_setIfInBounds, hsz]
    rw [h16]
    show K _ _
    simpa [posE, Act.put] using hK
  case body =>
    rintro l pre x W ⟨hS, hBB, q3, q4, q5⟩ hlen
    obtain ⟨ks, hks⟩ : ∃ ks : List Nat, pre.map (fun x : PosV p.length => x.1.1) = ks := ⟨_, rfl⟩
    rw [hks] at hS
    have hkl : ks.length = pre.length := by rw [← hks, List.length_map]
    obtain ⟨⟨k, xi⟩, hk⟩ := x
    simp only at hk ⊢
    have hRl := runRow_length p ks
    have hRb := runRow_range p ks
    rw [hkl] at hRb
    have hM : IsIns (LM A4 (n0 + 1) (runRow p ks)) v p := by
      rcases h0 with h0 | ⟨q, c', row, own, u, z1, z2, z3, z4, z5, z6⟩
      · exact .inl h0
      · have z7 := hwf.lt z3
        refine .inr ⟨q, c', row, false, u, z1, z2, ?_, z4, z5, z6⟩
        rw [LM_ne _ (by omega)]
        exact AW.ro_get (hle4.keep hwf z3)
    have hfx : FRel m4 43 (putF (putF (putF a4 (some 16) (.int .i64 (k : Int))) (some 17) (.agg (insCells xi).toArray)) (some 4) (.int .i64 (k : Int))) { tmps := ((tm4.setIfInBounds 16 (.int .i64 (k : Int))).setIfInBounds 17 (.agg (insCells xi).toArray)).setIfInBounds 4 (.int .i64 (k : Int)), defers := [] } := by
      have z1 := hf4.put (d := some 16) (fun i e => by cases e; decide) (.of_scalar (v := .int .i64 (k : Int)) rfl m4)
      have z2 := z1.put (d := some 17) (fun i e => by cases e; decide) (VRel.of_ground (v := .agg (insCells xi).toArray) (by simp [groundV, insCells]) m4)
      exact z2.put (d := some 4) (fun i e => by cases e; decide) (.of_scalar (v := .int .i64 (k : Int)) rfl m4)
    refine wpIn_mono (body_bwp (some l) hF v p (LM A4 (n0 + 1) (runRow p ks)) hS.low n0 (n0 + 1) (n0 + 2) _ k _ hM hv hk hRl (fun x hx => by have := hRb x hx; omega) ?_ (LM_b1 _ _ _) ?_ ?_ ?_ ?_ (by kernel_rfl) _ m4 W _ hS hfx) ?_
    · rw [LM_ne _ (by omega)]; exact AW.ro_get gb0
    · rw [LM_ne _ (by omega)]; exact AW.ro_get gb2
    · simp [putF, f41]
    · simp [putF, f43]
    · simp [putF]
    rintro e ca' w' ⟨m', a', A', ev, hfr, rfl, hb⟩
    have hown : ∀ b, OwnB m4 (LM A4 (n0 + 1) (runRow p ks)) b → b = p1.block := fun b ⟨i, oi, pi, hi, how, hmi, hbi⟩ => by
      have e := LM_own hi how
      subst e
      rw [hm1] at hmi
      injection hmi with hmi
      subst hmi
      exact hbi.symm
    have hBB2 : BB w4.heap.size p1.block W w' := ⟨ev.size, fun b hb hne => ev.out b (Nat.lt_of_lt_of_le hb hBB.size) (fun h => hne (hown b h))⟩
    refine ⟨⟨ev.size, fun b o hb ho _ => ?_⟩, hBB2, ?_, hBB.trans hBB2, ev.os.trans q3, ev.tape.trans q4, ev.output.trans q5⟩
    · rw [ev.out b (Array.getElem?_eq_some_iff.1 ho).1 (fun h => by have := hown b h; omega)]
      exact ho
    · rw [List.map_append, List.map_cons, List.map_nil, hks, runRow_snoc]
      exact LM.next hS ev hb
  case done =>
    rintro D xs W hD hxs ⟨hS, hBB, q3, q4, q5⟩ hK
    rw [hxs] at hS
    have hRl := runRow_length p (downTo p.length p.length)
    have hR0 := runRow_longest hv
    generalize runRow p (downTo p.length p.length) = R at hS hRl hR0
    have hR1 : R[0]? = some (longest p) := by
      rw [List.getD_eq_getElem?_getD] at hR0
      rw [List.getElem?_eq_getElem (by omega)] at hR0 ⊢
      simpa using hR0
    have hrow := AW.row_of (LM_b1 A4 (n0 + 1) R)
    have hrow2 : (LM A4 (n0 + 1) R).row (n0 + 2) = some [.slice (some ⟨n0 + 1, 0, none⟩) (p.length + 1) (p.length + 1)] := AW.row_of (by rw [LM_ne _ (by omega)]; exact AW.ro_get gb2)
    have hRm : (R.map (Value.int .i64))[0]? = some (.int .i64 (longest p)) := map_get hR1
    show (Code.seq _ _).wpIn Fence.wide 4 _ _ _ _
    refine wpIn_seq (wpIn_region_list ?_)
    rw [← List.append_nil (Array.toList _)]
    refine quiet_frontD (n := 43) (K := fun a => a 2 = .int .i64 (longest p)) (ops := Array.mk [_, _, _, _]) (by kernel_rfl) hS [{ target := .collected D, args := #[] }] _ a4 _ (fun o ho => ?_) ?_ hf4 rfl ?_
    · exact Array.all_eq_true_iff_forall_mem.1 (show (Array.all _ (operOk 43)) = true by kernel_rfl) o (Array.mem_toList_iff.1 ho)
    · simp [QL, gval, aq, f43, hrow, hrow2, hRm]
    rintro a' ca' ha hfr hd
    unfold wpListIn
    refine wpIn_ret ?_
    show bodyPostM _ _ _ _ _ .ret ca' W
    unfold bodyPostM
    simp only
    rw [hd]
    refine ⟨by simp, .inl ⟨D, _, rfl, run_takeDeferred hK, ?_⟩⟩
    refine ⟨_, results_tmp rfl _ _ _, ?_, ?_⟩
    · have h1 := hfr.rel 2 (by decide)
      rw [ha] at h1
      have h2 := h1.eq_of_scalar rfl
      simp only at h2
      rw [h2]
      unfold longF
      rw [if_pos hv]
    · have k4 := ev14.keptRo
      refine ⟨fun b hb => ?_, q3.trans k4.os, q4.trans k4.tape, q5.trans k4.output, ?_⟩
      · rw [World.putObj_heap_other (by have := k4.size; omega), hBB.same b (Nat.lt_of_lt_of_le hb k4.size) (by omega)]
        exact k4.ext b hb
      · have := (grownBy_putObj' W D (.deferred none)).size
        exact Nat.le_trans k4.size (Nat.le_trans hBB.size this)
  case stop =>
    rintro D c pre W _ _ h _
    exact h.elim
end Go.Stx
