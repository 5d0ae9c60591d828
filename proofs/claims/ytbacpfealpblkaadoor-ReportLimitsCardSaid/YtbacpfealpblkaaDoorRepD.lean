/-
  report.Steps: the text of steps.
-/
import Derived.Test.YtbacpfealpblkaaDoorRepC
namespace Go.Stx
open Go Go.Proofs
attribute [local irreducible] AWP LWalk ACall ARounds lops nops
open Go.RowKit
set_option linter.unusedVariables false
set_option linter.unusedSimpArgs false
set_option linter.unusedSectionVars false
set_option maxRecDepth 20000
variable [Gl]

/-- The beginning of a region's text by our walk, the rest by another. -/
theorem wpList_pre {P : Program} {ops : Array Oper} {n : Nat} (hops : ops.all (operOk n) = true) {K : Fr → AW → Prop} {Q : Exit → Act → World → Prop} {l2 : List Oper} : ∀ (l : List Oper) (a : Fr) (A : AW) (m : Mp) (w : World) (ca : Act),
    (∀ o ∈ l, operOk n o = true) → AOps P ops K l a A → Sim m A w → FRel m n a ca →
    (∀ a' A' m' w' ca', K a' A' → Evo m A w m' A' w' → FRel m' n a' ca' → wpList P ops Q l2 ca' w') → wpList P ops Q (l ++ l2) ca w
  | [], a, A, m, w, ca, _, h, hs, hf, hK => hK a A m w ca h (Evo.refl hs) hf
  | o :: rest, a, A, m, w, ca, hl, h, hs, hf, hK => by
    unfold AOps at h
    show (if Region.wanted o (yielded ops ca.tmps) then o.wp P ca w (wpList P ops Q (rest ++ l2)) Q ∨ (o.asks P ca w ∧ LetsOut Q) else wpList P ops Q (rest ++ l2) (ca.put o.dst undef) w)
    rw [gval_conc hf hops o]
    split at h
    · rename_i hg
      rw [if_pos hg]
      refine .inl (wp_of_AStep hs hf (hl o (by simp)) h ?_)
      intro v A' m' w' ca' hk ev hf'
      exact wpList_pre hops rest _ _ m' w' ca' (fun x hx => hl x (by simp [hx])) hk ev.sim hf' (fun a2 A2 m2 w2 ca2 h1 h2 h3 => hK a2 A2 m2 w2 ca2 h1 (ev.trans h2) h3)
    · rename_i hg
      rw [if_neg hg]
      have ho := hl o (by simp)
      simp only [operOk, Bool.and_eq_true] at ho
      have hd : ∀ i, o.dst = some i → i < n := fun i e => by have := ho.2; rw [e] at this; simpa using this
      exact wpList_pre hops rest _ _ m w _ (fun x hx => hl x (by simp [hx])) h hs (hf.put hd (VRel.undef m)) hK

def AW.at (A : AW) (nx : Nat) : AW := ⟨nx, A.ro.get⟩

theorem Sim.reset {m m' : Mp} {A : AW} {w w' : World} {nx : Nat} (hs : Sim m A w) (hm : Mp.le m m') (hf : ∀ i, nx ≤ i → m' i = none) (hn : A.next ≤ nx) (hk : Kept w w') : Sim m' (A.at nx) w' := by
  have hs' : Sim m A.ro w := hs.ro
  have hno : ∀ {i o}, (A.at nx).get i = some o → o.own = false := fun {i o} hi => by
    obtain ⟨o', _, rfl⟩ := AW.ro_inv (A := A) hi
    exact AObj.ro_own _
  refine ⟨fun i o hi => ?_, fun i j o o' p p' hi ho => ?_, hf, fun i hi => ?_, fun b x hb => ?_, fun i o p hi ho => ?_⟩
  · obtain ⟨p, h1, h2⟩ := hs'.obj i o hi
    have hb := hs'.blk hi h1
    exact ⟨p, hm _ _ h1, (h2.heap (hk.ext _ hb)).mono hm⟩
  · rw [hno hi] at ho; cases ho
  · have hi' : nx ≤ i := hi
    exact hs'.low i (Nat.le_trans hn hi')
  · have h1 := hs.laid b x hb
    rw [hk.ext b (Array.getElem?_eq_some_iff.1 h1).1]; exact h1
  · rw [hno hi] at ho; cases ho

/-- What nothing of ours has turned. -/
theorem Evo.kept {m m' : Mp} {A A' : AW} {w w' : World} {nx : Nat} (h : Evo m (A.at nx) w m' A' w') : Kept w w' := by
  refine ⟨fun b hb => h.out b hb ?_, h.os, h.tape, h.output, h.size⟩
  rintro ⟨i, o, p, hi, how, _⟩
  obtain ⟨o', _, rfl⟩ := AW.ro_inv (A := A) hi
  rw [AObj.ro_own] at how
  cases how

def noExit : Exit → Fr → AW → Prop := fun _ _ _ => False

/-- The state of report.Steps between two pieces of its code. -/
structure GS (m : Mp) (A : AW) (w0 : World) (n : Nat) (fr : Fr) (ca : Act) (w : World) : Prop where
  ex : ∃ m' nx, Mp.le m m' ∧ (∀ i, nx ≤ i → m' i = none) ∧ A.next ≤ nx ∧ FRel m' n fr ca
  kept : Kept w0 w

theorem AWP.go {P : Program} {n : Nat} {c : Code} {Q : Exit → Fr → AW → Prop} {a : Fr} {A : AW} {m : Mp} {w : World} {ca : Act} (h : AWP P n c Q a A) (hc : codeOk n c = true) (hs : Sim m A w) (hf : FRel m n a ca) :
    c.wp P (fun e ca' w' => ∃ m' a' A', Evo m A w m' A' w' ∧ FRel m' n a' ca' ∧ Q e a' A') ca w := by
  unfold AWP at h
  exact h hc m w ca hs hf

theorem AWP.norm {P : Program} {n : Nat} {c : Code} {J : Fr → AW → Prop} {Q : Exit → Act → World → Prop} {a : Fr} {A : AW} {m : Mp} {w : World} {ca : Act} (h : AWP P n c (AThen J noExit) a A) (hc : codeOk n c = true) (hs : Sim m A w) (hf : FRel m n a ca)
    (hq : ∀ m' fr' A' ca' w', Evo m A w m' A' w' → FRel m' n fr' ca' → J fr' A' → Q .normal ca' w') : c.wp P Q ca w := by
  refine wp_mono (h.go hc hs hf) ?_
  rintro e ca' w' ⟨m', fr', A', ev, hf', hJ⟩
  cases e with
  | normal => exact hq m' fr' A' ca' w' ev hf' hJ
  | exit id => exact hJ.elim
  | goto l => exact hJ.elim
  | ret => exact hJ.elim
  | panic ch => exact hJ.elim
  | outgrown => exact hJ.elim

theorem GS.run {P : Program} {m mB : Mp} {A : AW} {w0 w : World} {n : Nat} {fr : Fr} {ca : Act} {c : Code} {J : Fr → AW → Prop} {Q : Exit → Act → World → Prop} (hs : Sim m A w0) (hmB : Mp.le m mB) (g : GS mB A w0 n fr ca w) (hc : codeOk n c = true)
    (h : ∀ nx, A.next ≤ nx → AWP P n c (AThen J noExit) fr (A.at nx)) (hq : ∀ fr' A' ca' w', J fr' A' → GS mB A w0 n fr' ca' w' → Kept w w' → Q .normal ca' w') : c.wp P Q ca w := by
  obtain ⟨⟨m', nx, h1, h2, h3, h4⟩, hk⟩ := g
  refine AWP.norm (h nx h3) hc (hs.reset (Mp.le_trans hmB h1) h2 h3 hk) h4 ?_
  intro m'' fr' A' ca' w' ev hf' hJ
  exact hq fr' A' ca' w' hJ ⟨⟨m'', A'.next, Mp.le_trans h1 ev.ext, ev.sim.fresh, Nat.le_trans h3 ev.next, hf'⟩, hk.trans ev.kept⟩ ev.kept

theorem IsSteps.at_ro {A : AW} {nx : Nat} {v : Value} {l : List StepV} (h : IsSteps A v l) : IsSteps (A.at nx) v l := by
  have := IsSl.ro h
  rcases this with h | ⟨p, c, row, own, u, h1, h2, h3, h4⟩
  · exact .inl h
  · exact .inr ⟨p, c, row, own, u, h1, h2, h3, h4⟩


theorem FRel.lt {m : Mp} {n : Nat} {fr : Fr} {ca : Act} (h : FRel m n fr ca) {i : Nat} (hi : i < n) : VRel m (fr i) (ca.tmps.getD i undef) := h.rel i hi

theorem wpList_one {P : Program} {ops : Array Oper} {Q : Exit → Act → World → Prop} {o : Oper} {ca : Act} {w : World} (hg : o.guard = none) (h : o.wp P ca w (Q .normal) Q) : wpList P ops Q [o] ca w := by
  unfold wpList
  rw [if_pos (by simp [Region.wanted, hg])]
  exact .inl h

theorem wpList_next {P : Program} {ops : Array Oper} {Q : Exit → Act → World → Prop} {o : Oper} {rest : List Oper} {ca : Act} {w : World} (hg : o.guard = none) (h : o.wp P ca w (wpList P ops Q rest) Q) : wpList P ops Q (o :: rest) ca w := by
  unfold wpList
  rw [if_pos (by simp [Region.wanted, hg])]
  exact .inl h

theorem ptr_conc {m : Mp} {nb B : Nat} {x : Value} (h : VRel m (.pointer (some ⟨nb, 0, none⟩)) x) (hm : m nb = some ⟨B, 0, 1, 2⟩) : x = .pointer (some ⟨B, 0, none⟩) := by
  cases h with
  | ptr h =>
    rename_i a'
    obtain ⟨_, h1, p, h2, h3, h4⟩ := h
    rw [hm] at h2
    injection h2 with h2
    subst h2
    rw [addr_eta a' h1, h3, h4]
    simp

@[simp] theorem AW.at_next (A : AW) (nx : Nat) : (A.at nx).next = nx := rfl

theorem frel_init {m : Mp} {v v' : Value} (hv : VRel m v v') (n : Nat) : FRel m (n + 1) (initF [v]) { tmps := #[v'] ++ Array.replicate n undef, defers := [] } := by
  refine ⟨by simp; omega, rfl, fun i hi => ?_⟩
  cases i with
  | zero =>
    have e : (#[v'] ++ Array.replicate n undef : Array Value).getD 0 undef = v' := by
      rw [Array.getD_eq_getD_getElem?, Array.getElem?_append_left (by simp)]
      rfl
    simp only [e]
    exact hv
  | succ i =>
    have e1 : initF [v] (i + 1) = undef := by simp [initF]
    have e : (#[v'] ++ Array.replicate n undef : Array Value).getD (i + 1) undef = undef := by
      rw [Array.getD_eq_getD_getElem?, Array.getElem?_append_right (by simp)]
      simp only [Array.getElem?_replicate]
      split <;> rfl
    rw [e1]
    simp only [e]
    exact VRel.undef m

/-- What its loop keeps. -/
def LoopS (nb : Nat) (o : Option Addr) (c n : Nat) (j : Nat) (fr : Fr) : Prop :=
  fr 3 = .pointer (some ⟨nb, 0, none⟩) ∧ fr 6 = .slice o n c ∧ fr 7 = .int .i64 n ∧ fr 8 = .int .i64 j

theorem Kept.alloc (w : World) (o : Obj) : Kept w (w.alloc o) := ⟨fun b hb => heapAllocOld w o b hb, rfl, rfl, rfl, by show w.heap.size ≤ (w.heap.push o).size; simp⟩

theorem alloc_builder (w : World) : (Instr.alloc 43 true (.tuple #[])).run Tryd.prog w = .ok (.pointer (some ⟨w.heap.size, 0, none⟩)) (w.alloc (.cells #[.pointer none, .slice none 0 0] 43)) := by
  have hzv : (zeroValue 43).run Tryd.prog w = .ok (.agg #[.pointer none, .slice none 0 0]) w := by simp [zeroValue, typeInfo]
  simp only [Instr.alloc, Sem.run_bind, hzv, Result.andThen_ok]
  simp only [newVar, newRow, Sem.run_bind, run_newObj, Result.andThen_ok, Sem.run_pure]
  rfl

set_option maxHeartbeats 4000000 in
theorem steps_world (hG : GOK) {m : Mp} {A : AW} {w : World} {v v' : Value} {l : List StepV} (hs : Sim m A w) (hv : VRel m v v') (h : IsSteps A v l) (hl : l.length < 2^30) (hr : ∀ s ∈ l, s.Ok) :
    Calls Tryd.prog 9 #[v'] w fun e w' => e = .returned (.string (bs (textF l))) ∧ Kept w w' := by
  obtain ⟨o, c, rfl, hc⟩ := h.form
  refine calls_of_wp (fn := Tryd.f9) rfl rfl ?_
  have g0 : GS m A w 18 (initF [.slice o l.length c]) { tmps := #[v'] ++ Array.replicate 17 undef, defers := [] } w :=
    ⟨⟨m, A.next, Mp.le_refl m, hs.fresh, Nat.le_refl _, frel_init hv 17⟩, Kept.refl w⟩
  refine wp_seq ?_
  refine g0.run hs (Mp.le_refl m) (by decide +kernel) (J := fun fr _ => fr 0 = .slice o l.length c) (fun nx hnx => ?_) ?_
  · refine wn fun K hK => ?_
    repeat' (first
    | (refine lwc fun R hR => ?_; simp [wrap_i64, wrap_u64]; try simp (disch := omega) only [if_pos, if_neg, wrap_i64, wrap_u64])
    | (refine hR _ _ ?_; clear hR R) | refine lwn ?_ | refine lr ?_ | refine la ?_
    | simp only [wS]
    | (refine ib (fun hc => ?_) (fun hc => ?_) <;> (try omega) <;> (try simp (disch := omega) only [if_pos, if_neg])))
    refine hK _ _ ?_
    simp [AThen, initF]
  intro fr A' ca w1 f0 g1 k1
  -- the builder
  refine wp_seq ?_
  refine wp_region_list ?_
  refine wpList_one rfl ?_
  unfold Oper.wp
  simp only [execOp, Sem.run_bind, alloc_builder, Result.andThen_ok, Sem.run_pure, Oper.upon_value]
  obtain ⟨⟨m1, nb, hm1, hfr1, hib, hf1⟩, hk1⟩ := g1
  generalize hw2 : w1.alloc (.cells #[.pointer none, .slice none 0 0] 43) = w2
  have hbld : Lib.IsBuilder 43 5 w1.heap.size w1.heap.size (Lib.byteCells []) w2 := by rw [← hw2]; exact Lib.fresh_isBuilder _ _ w1
  have hk2 : Kept w w2 := hk1.trans (by rw [← hw2]; exact Kept.alloc _ _)
  have hsz2 : w1.heap.size ≤ w2.heap.size := by rw [← hw2]; exact (Kept.alloc w1 _).size
  have hBw : w.heap.size ≤ w1.heap.size := hk1.size
  generalize w1.heap.size = B at hbld hsz2 hBw ⊢
  have hmB : Mp.le m1 (m1.ext nb ⟨B, 0, 1, 2⟩) := fun i x hx => by
    by_cases e : i = nb
    · subst e; rw [hfr1 i (Nat.le_refl _)] at hx; cases hx
    · simp [Mp.ext, e, hx]
  have g2 : GS (m1.ext nb ⟨B, 0, 1, 2⟩) A w 18 (upd fr 3 (.pointer (some ⟨nb, 0, none⟩))) (ca.put (some 3) (.pointer (some ⟨B, 0, none⟩))) w2 := by
    refine ⟨⟨_, nb + 1, Mp.le_refl _, fun i hi => ?_, by omega, ?_⟩, hk2⟩
    · have : i ≠ nb := by omega
      simp [Mp.ext, this, hfr1 i (by omega)]
    · exact (hf1.mono hmB).put (d := some 3) (fun i hi => by cases hi; decide) (.ptr (ARel.new m1 nb ⟨B, 0, 1, 2⟩ 0))
  generalize hMB : m1.ext nb ⟨B, 0, 1, 2⟩ = mB at hmB g2
  have hmm : Mp.le m mB := Mp.le_trans hm1 hmB
  have hmb : mB nb = some ⟨B, 0, 1, 2⟩ := by rw [← hMB]; simp [Mp.ext]
  have hfr0 : upd fr 3 (.pointer (some ⟨nb, 0, none⟩)) 0 = .slice o l.length c := by simpa [upd] using f0
  have hfr3 : upd fr 3 (.pointer (some ⟨nb, 0, none⟩)) 3 = .pointer (some ⟨nb, 0, none⟩) := by simp [upd]
  generalize upd fr 3 (.pointer (some ⟨nb, 0, none⟩)) = fr2 at g2 hfr0 hfr3
  generalize ca.put (some 3) (.pointer (some ⟨B, 0, none⟩)) = ca2 at g2 ⊢
  clear hMB hfr1 hf1 hm1 hmB k1 f0 g0 hw2 hk1 hk2
  -- what is looked at
  refine wp_seq ?_
  refine wp_seq ?_
  refine g2.run hs hmm (by decide +kernel) (J := fun fr _ => LoopS nb o c l.length 0 fr) (fun nx hnx => ?_) ?_
  · refine wn fun K hK => ?_
    repeat' (first
    | (refine lwc fun R hR => ?_; simp [wrap_i64, wrap_u64, hfr0, hfr3]; try simp (disch := omega) only [if_pos, if_neg, wrap_i64, wrap_u64])
    | (refine hR _ _ ?_; clear hR R) | refine lwn ?_ | refine lr ?_ | refine la ?_
    | simp only [wS]
    | (refine ib (fun hc => ?_) (fun hc => ?_) <;> (try omega) <;> (try simp (disch := omega) only [if_pos, if_neg])))
    refine hK _ _ ?_
    simp [AThen, LoopS, hfr0, hfr3]
  intro fr3 A3 ca3 w3 f3 g3 k3
  have hb3 := IsB.keep hbld k3
  have hsz3 := Nat.le_trans hsz2 k3.size
  clear hbld k3 g2 hfr0 hfr3 hsz2
  refine wp_block ?_
  refine wp_loop_ghost (fun k ca' w' => ∃ j fr, k = l.length - j ∧ j ≤ l.length ∧ LoopS nb o c l.length j fr ∧ GS mB A w 18 fr ca' w' ∧ Lib.IsBuilder 43 5 B B (Lib.byteCells (textF (l.take j))) w' ∧ B ≤ w'.heap.size) l.length ?_ ?_
  · exact ⟨0, fr3, by simp, by simp, f3, g3, hb3, hsz3⟩
  clear g3 hb3 f3 hsz3
  rintro k ca4 w4 ⟨j, fr4, rfl, hj, f4, g4, hb4, hsz4⟩
  obtain ⟨e3, e6, e7, e8⟩ := f4
  refine wp_seq ?_
  refine g4.run hs hmm (by decide +kernel) (J := fun fr _ => LoopS nb o c l.length j fr ∧ fr 9 = .bool (decide (j < l.length))) (fun nx hnx => ?_) ?_
  · refine wn fun K hK => ?_
    repeat' (first
    | (refine lwc fun R hR => ?_; simp [wrap_i64, wrap_u64, e3, e6, e7, e8]; try simp (disch := omega) only [if_pos, if_neg, wrap_i64, wrap_u64])
    | (refine hR _ _ ?_; clear hR R) | refine lwn ?_ | refine lr ?_ | refine la ?_
    | simp only [wS]
    | (refine ib (fun hc => ?_) (fun hc => ?_) <;> (try omega) <;> (try simp (disch := omega) only [if_pos, if_neg])))
    refine hK _ _ ?_
    simp [AThen, LoopS, e3, e6, e7, e8]
  intro fr5 A5 ca5 w5 f5 g5 k5
  have hb5 := IsB.keep hb4 k5
  have hsz5 := Nat.le_trans hsz4 k5.size
  clear hb4 hsz4 k5 g4 e3 e6 e7 e8
  obtain ⟨f5, f59⟩ := f5
  -- the condition
  have hc9 : ca5.eval (.tmp 9) = .bool (decide (j < l.length)) := by
    obtain ⟨⟨m', nx, _, _, _, h4⟩, _⟩ := g5
    have h9 := h4.rel 9 (by decide)
    rw [f59] at h9
    show ca5.tmps.getD 9 undef = _
    generalize ca5.tmps.getD 9 undef = y at h9
    cases h9
    rfl
  refine wp_seq ?_
  refine wp_cond_split hc9 (fun hlt => ?_) (fun hge => ?_)
  case refine_2 =>
    have hjl : j = l.length := by
      have := of_decide_eq_false hge
      omega
    rw [hjl, List.take_length] at hb5
    refine wp_exit ?_
    show Code.wp _ _ _ _ _
    refine wp_seq ?_
    refine wp_region_list ?_
    obtain ⟨⟨m', nx, hm', _, _, h4⟩, hk5⟩ := g5
    have hp3 : ca5.tmps.getD 3 undef = .pointer (some ⟨B, 0, none⟩) := by
      have := h4.rel 3 (by decide)
      rw [f5.1] at this
      exact ptr_conc this (hm' _ _ hmb)
    refine wpList_next rfl ?_
    unfold Oper.wp
    simp only [execOp, resolve, Act.eval, Deferred.ofValue, invoke, Sem.run_bind, Sem.run_pure, Result.andThen_ok]
    rw [run_callFunc (by kernel_rfl), Oper.upon_enter]
    simp only [List.map_toArray, List.map_cons, List.map_nil, Act.eval, hp3, Array.append_empty, Array.empty_append]
    refine (Tryd.Builder_String_any B B (textF l) w5 hb5 hsz5).mono ?_
    rintro e w6 ⟨rfl, hb6⟩
    refine wpList_one rfl ?_
    unfold Oper.wp
    simp only [execOp, Act.eval, put_get h4.size (show 17 < 18 by decide), if_true, Sem.run_pure, Oper.upon_value]
    refine wp_ret ?_
    have hp2 : ((ca5.put (some 17) (.string ⟨(textF l).toArray⟩)).put (some 2) (.string ⟨(textF l).toArray⟩)).tmps.getD 2 undef = .string (bs (textF l)) := by
      rw [put_get (n := 18) (by rw [put_size]; exact h4.size) (by decide), if_pos rfl]
      rfl
    refine ⟨by rw [put_defers, put_defers]; exact h4.defers, .string (bs (textF l)), ?_, rfl, ?_⟩
    · rw [results_eq]
      simp [resSem]
      simpa [Array.getD_eq_getD_getElem?] using hp2
    · exact ⟨fun b hb => (hb6.block b (Nat.lt_of_lt_of_le hb hBw)).trans (hk5.ext b hb), hb6.os.trans hk5.os, hb6.tape.trans hk5.tape, hb6.output.trans hk5.output, Nat.le_trans hk5.size hb6.size⟩
  have hlt := of_decide_eq_true hlt
  refine wp_skip ?_
  show Code.wp _ _ _ _ _
  refine wp_seq ?_
  refine wp_block ?_
  refine wp_seq ?_
  have hok := hr _ (List.getElem_mem hlt)
  obtain ⟨⟨m5, nx5, hm5, hfr5, hnx5, hf5⟩, hk5⟩ := g5
  have hs5 := hs.reset (Mp.le_trans hmm hm5) hfr5 hnx5 hk5
  obtain ⟨p, row, rfl, hrow, hle, hcell⟩ := (h.at_ro (nx := nx5)).at hlt
  obtain ⟨e3, e6, e7, e8⟩ := f5
  refine AWP.norm (A := A.at nx5) (J := fun fr A' => LoopS nb (some p) c l.length j fr ∧ fr 5 = .pointer (some ⟨nx5, 0, none⟩) ∧ A'.get nx5 = some (.cells (stepCells l[j]) true 1)) ?_ (by decide +kernel) hs5 hf5 ?_
  · refine wn fun K hK => ?_
    simp only [stepCells] at hcell
    repeat' (first
    | (refine lwc fun R hR => ?_; simp [wrap_i64, wrap_u64, e3, e6, e7, e8, hrow, hle, hcell, hlt, AW.row_get, astore]; try simp (disch := omega) only [if_pos, if_neg, wrap_i64, wrap_u64])
    | (refine hR _ _ ?_; clear hR R) | refine lwn ?_ | refine lr ?_ | refine la ?_
    | simp only [wS]
    | (refine ib (fun hc => ?_) (fun hc => ?_) <;> (try omega) <;> (try simp (disch := omega) only [if_pos, if_neg])))
    refine hK _ _ ?_
    simp [AThen, LoopS, e3, e6, e7, e8, stepCells]
  intro m6 fr6 A6 ca6 w6 ev6 hf6 ⟨f6, f65, hg6⟩
  obtain ⟨e3, e6, e7, e8⟩ := f6
  refine wp_region_list ?_
  refine wpList_pre (n := 18) (K := fun fr A' => LoopS nb (some p) c l.length j fr ∧ fr 12 = .iface 41 (.pointer (some ⟨nb, 0, none⟩)) ∧ ∃ u, fr 14 = u ∧ IsSl A' 1 u (stepW l[j]).length (strs (stepW l[j]))) (l2 := [_]) (by decide +kernel) [_, _, _] fr6 A6 m6 w6 ca6 (by decide +kernel) ?_ ev6.sim hf6 ?_
  · refine lwalk_of_aops _ _ _ ?_
    have hstep := step_call hG l[j] hok A6
    simp only [stepVal, stepCells] at hstep hg6
    simp only [wS]
    repeat' (first
    | (refine lwc fun R hR => ?_; simp [wrap_i64, wrap_u64, e3, e6, e7, e8, f65, hg6, AW.row_get]; try simp (disch := omega) only [if_pos, if_neg, wrap_i64, wrap_u64])
    | (refine hR _ _ ?_; clear hR R) | refine lwn ?_ | refine lr ?_ | refine la ?_
    | simp only [wS]
    | (refine ib (fun hc => ?_) (fun hc => ?_) <;> (try omega) <;> (try simp (disch := omega) only [if_pos, if_neg])))
    refine callK hstep ?_
    rintro u A7 ⟨hu, lu⟩ w7 n7
    repeat' (first
    | (refine lwc fun R hR => ?_; simp [wrap_i64, wrap_u64]; try simp (disch := omega) only [if_pos, if_neg, wrap_i64, wrap_u64])
    | (refine hR _ _ ?_; clear hR R) | refine lwn ?_ | refine lr ?_ | refine la ?_
    | simp only [wS]
    | (refine ib (fun hc => ?_) (fun hc => ?_) <;> (try omega) <;> (try simp (disch := omega) only [if_pos, if_neg])))
    exact ⟨⟨by simp [e3], by simp [e6], by simp [e7], by simp [e8]⟩, by simp, u, by simp, hu.is⟩
  · rintro fr7 A7 m7 w7 ca7 ⟨⟨e3, e6, e7, e8⟩, e12, u, e14, hu⟩ ev7 hf7
    have hmb7 : m7 nb = some ⟨B, 0, 1, 2⟩ := ev7.ext _ _ (ev6.ext _ _ (hm5 _ _ hmb))
    have h12 : ca7.tmps.getD 12 undef = .iface 41 (.pointer (some ⟨B, 0, none⟩)) := by
      have h1 := hf7.rel 12 (by decide)
      rw [e12] at h1
      generalize ca7.tmps.getD 12 undef = y at h1
      cases h1 with
      | iface _ h2 => rw [ptr_conc h2 hmb7]
    have h14 : VRel m7 u (ca7.tmps.getD 14 undef) := by
      have h1 := hf7.rel 14 (by decide)
      rwa [e14] at h1
    have k57 : Kept w5 w7 := (ev6.trans ev7).kept
    have hsz7 := Nat.le_trans hsz5 k57.size
    have hlen1 := line_len _ hok
    have hlen2 := text_len (l.take j) fun s hs => hr s (List.mem_of_mem_take hs)
    rw [List.length_take] at hlen2
    have hlen3 : min j l.length * 199 ≤ 2 ^ 40 := by
      have : min j l.length ≤ l.length := Nat.min_le_right _ _
      omega
    have hlen4 : (stepW l[j]).length ≤ 9 := by rw [stepW_length]; split <;> omega
    refine wpList_one rfl ?_
    unfold Oper.wp
    simp only [execOp, resolve, Act.eval, Deferred.ofValue, invoke, Sem.run_bind, Sem.run_pure, Result.andThen_ok]
    rw [run_callFunc (by kernel_rfl), Oper.upon_enter]
    simp only [List.map_toArray, List.map_cons, List.map_nil, Act.eval, h12, Array.append_empty, Array.empty_append]
    refine (line_world (xs := stepW l[j]) ev7.sim (IsB.keep hb5 k57) hsz7 h14 hu (by omega) (by
      have : (Lib.join (stepW l[j]) [32]).length ≤ 198 := hlen1
      omega)).mono ?_
    rintro e w8 ⟨rfl, hb8, hbel⟩
    have kw8 : Kept w w8 := by
      have k7 := hk5.trans k57
      exact ⟨fun b hb => (hbel.block b (Nat.lt_of_lt_of_le hb hBw)).trans (k7.ext b hb), hbel.os.trans k7.os, hbel.tape.trans k7.tape, hbel.output.trans k7.output, Nat.le_trans k7.size hbel.size⟩
    have g8 : GS mB A w 18 (upd fr7 15 undef) (ca7.put (some 15) (.tuple #[])) w8 :=
      ⟨⟨m7, A7.next, Mp.le_trans hm5 (Mp.le_trans ev6.ext ev7.ext), ev7.sim.fresh, Nat.le_trans hnx5 (Nat.le_trans ev6.next ev7.next), hf7.put (d := some 15) (fun i hi => by cases hi; decide) (VRel.undef m7)⟩, kw8⟩
    show Code.wp _ _ _ _ _
    have hj1 : IntKind.i64.wrap ((j : Int) + 1) = ((j + 1 : Nat) : Int) := wrap_i64 (by omega) (by omega)
    refine g8.run hs hmm (by decide +kernel) (J := fun fr _ => LoopS nb (some p) c l.length (j + 1) fr) (fun nx hnx => ?_) ?_
    · refine wn fun K hK => ?_
      repeat' (first
      | (refine lwc fun R hR => ?_; simp [wrap_i64, wrap_u64, e3, e6, e7, e8, hj1]; try simp (disch := omega) only [if_pos, if_neg, wrap_i64, wrap_u64])
      | (refine hR _ _ ?_; clear hR R) | refine lwn ?_ | refine lr ?_ | refine la ?_
      | simp only [wS]
      | (refine ib (fun hc => ?_) (fun hc => ?_) <;> (try omega) <;> (try simp (disch := omega) only [if_pos, if_neg])))
      refine hK _ _ ?_
      simp [AThen, LoopS, e3, e6, e7, e8]
    intro fr9 A9 ca9 w9 f9 g9 k9
    have e9 : textF (l.take (j + 1)) = textF (l.take j) ++ (lineF l[j] ++ [10]) := by
      rw [List.take_add_one, List.getElem?_eq_getElem hlt]
      exact textF_app _ _
    refine ⟨l.length - (j + 1), by omega, j + 1, fr9, rfl, by omega, f9, g9, ?_, Nat.le_trans (Nat.le_trans hsz7 hbel.size) k9.size⟩
    rw [e9]
    exact IsB.keep hb8 k9

theorem steps_pure (hG : GOK) {A : AW} {v : Value} {l : List StepV} (h : IsSteps A v l) (hl : l.length < 2^30) (hr : ∀ s ∈ l, s.Ok) : APure Tryd.prog 9 [v] A (.string (bs (textF l))) := by
  refine ⟨by kernel_rfl, rfl, fun m w cargs hs hlr => ?_⟩
  obtain ⟨v', t', e1, hv, ht⟩ := hlr.inv_cons
  have e2 := ht.inv_nil
  subst e2
  have ec : cargs = #[v'] := by apply Array.ext'; exact e1
  subst ec
  exact steps_world hG hs hv h hl hr

theorem steps_call (hG : GOK) {A : AW} {v : Value} {l : List StepV} (h : IsSteps A v l) (hl : l.length < 2^30) (hr : ∀ s ∈ l, s.Ok) :
    ACall Tryd.prog 9 [v] A (fun v A' => v = .string (bs (textF l)) ∧ A = A') := (steps_pure hG h hl hr).call ⟨rfl, rfl⟩

end Go.Stx
