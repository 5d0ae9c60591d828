/-
  slices.Backward over a slice of instructions: its contract.
-/
import Derived.Test.YtkcicllfpdcecaaDoorFbRf
namespace Go.Stx
open Go Go.Proofs
attribute [local irreducible] AWP LWalk ACall ARounds lops nops

open Go.RowKit
set_option linter.unusedVariables false
set_option linter.unusedSimpArgs false
set_option linter.unusedSectionVars false
set_option maxRecDepth 20000
variable [Gl]

theorem backward_call (o : Option Addr) (n c : Nat) (A : AW) : ACall Tryd.prog 39 [.slice o n c] A (fun u A' => u = .func (.func 51) #[] #[.pointer (some ⟨A.next, 0, none⟩)] ∧ A.alloc (.cells [.slice o n c] true 1) = A') := by
  refine acall_intro Tryd.func39 rfl (by kernel_rfl) fun hw => ?_
  repeat' (first
  | (refine lwc fun R hR => ?_; simp [wrap_i64, wrap_u64, AW.row_get]; try simp (disch := omega) only [if_pos, if_neg, wrap_i64, wrap_u64])
  | (refine hR _ _ ?_; clear hR R) | (refine hK _ _ ?_; clear hK K) | refine lwn ?_ | refine lr ?_ | refine la ?_
  | refine wn fun K hK => ?_
  | simp only [wS]
  | refine wb ?_ | refine wr ?_ | refine wk ?_ | refine we ?_ | refine ws ?_ | refine wq ?_
  | (refine wc rfl (fun hc => ?_) (fun hc => ?_) <;> (try simp at hc) <;> (try omega))
  | (refine ib (fun hc => ?_) (fun hc => ?_) <;> (try omega) <;> (try simp (disch := omega) only [if_pos, if_neg])))
  all_goals simp [AThen, APost, ares, aresL, ares1]

/-- Operations that leave the world as it is. -/
def QL (P : Program) (ops : Array Oper) (A : AW) (K : Fr → Prop) : List Oper → Fr → Prop
  | [], a => K a
  | o :: rest, a => gval ops a o = true ∧ ∃ v, aq P A (evF a) o.op = some v ∧ QL P ops A K rest (putF a o.dst v)

theorem quiet_front {fuel : Nat} {P : Program} {ops : Array Oper} {n : Nat} (hops : ops.all (operOk n) = true) {K : Fr → Prop} {Q : Exit → Act → World → Prop} {l2 : List Oper} {A : AW} {m : Mp} {w : World} (hs : Sim m A w) : ∀ (l : List Oper) (a : Fr) (ca : Act),
    (∀ o ∈ l, operOk n o = true) → QL P ops A K l a → FRel m n a ca →
    (∀ a' ca', K a' → FRel m n a' ca' → wpListIn Fence.wide fuel P ops Q l2 ca' w) → wpListIn Fence.wide fuel P ops Q (l ++ l2) ca w
  | [], a, ca, _, h, hf, hK => hK a ca h hf
  | o :: rest, a, ca, hl, h, hf, hK => by
    obtain ⟨hg, v, hv, h⟩ := h
    rw [List.cons_append]
    unfold wpListIn
    rw [gval_conc hf hops o, if_pos hg]
    have ho := hl o (by simp)
    simp only [operOk, Bool.and_eq_true] at ho
    have hd : ∀ i, o.dst = some i → i < n := fun i e => by have := ho.2; rw [e] at this; simpa using this
    have hr : ∀ x ∈ o.op.operands, VRel m (evF a x) (ca.eval x) := fun x hx => hf.eval (Array.all_eq_true_iff_forall_mem.1 ho.1 x hx)
    obtain ⟨v', h1, h2⟩ := aq_sound hs hr hv
    refine ⟨fun _ _ => trivial, ?_⟩
    rw [Fence.wide_round, Oper.semAt_none, h2 w (Ext.refl w)]
    exact quiet_front hops hs rest _ _ (fun x hx => hl x (by simp [hx])) h (hf.put hd h1) hK

theorem quiet_region {fuel : Nat} {P : Program} {ops : Array Oper} {n id : Nat} (hops : ops.all (operOk n) = true) {K : Fr → Prop} {Q : Exit → Act → World → Prop} {A : AW} {m : Mp} {w : World} (hs : Sim m A w) {a : Fr} {ca : Act}
    (h : QL P ops A K ops.toList a) (hf : FRel m n a ca) (hK : ∀ a' ca', K a' → FRel m n a' ca' → Q .normal ca' w) : (Code.region id ops false).wpIn Fence.wide fuel P Q ca w := by
  refine wpIn_region_list ?_
  have := quiet_front (fuel := fuel) (Q := Q) (l2 := []) hops hs ops.toList a ca (fun o ho => Array.all_eq_true_iff_forall_mem.1 hops o (Array.mem_toList_iff.1 ho)) h hf (fun a' ca' h1 h2 => hK a' ca' h1 h2)
  rwa [List.append_nil] at this

theorem frel_init {m : Mp} {A : AW} {w : World} (hs : Sim m A w) {args : List Value} {cargs : Array Value} {n : Nat} (hl : LRel m args cargs.toList) (hn : args.length ≤ n) :
    FRel m n (initF args) { tmps := cargs ++ Array.replicate (n - cargs.size) undef, defers := [] } := by
  have hsz : cargs.size = args.length := by have := hl.1; simp at this; omega
  refine ⟨by simp [hsz]; omega, rfl, fun i hi => ?_, hs.glob⟩
  simp only [initF, List.getD_eq_getElem?_getD, Array.getD_eq_getD_getElem?]
  by_cases hlt : i < args.length
  · have e1 := List.getElem?_eq_getElem hlt
    have hlt' : i < cargs.size := by omega
    have e2 : cargs.toList[i]? = some cargs[i] := by simp [hlt']
    rw [e1, Array.getElem?_append_left hlt', Array.getElem?_eq_getElem hlt']
    exact hl.2 i _ _ e1 e2
  · rw [List.getElem?_eq_none (by omega), Array.getElem?_append_right (by omega)]
    simp only [Option.getD_none]
    rw [Array.getElem?_replicate]
    split
    · exact VRel.undef m
    · exact VRel.undef m

/-- Blocks below B, but one, are as they were. -/
structure BB (B rb : Nat) (w W : World) : Prop where
  size : w.heap.size ≤ W.heap.size
  same : ∀ b, b < B → b ≠ rb → W.heap[b]? = w.heap[b]?
theorem BB.refl (B rb : Nat) (w : World) : BB B rb w w := ⟨Nat.le_refl _, fun _ _ _ => rfl⟩
theorem BB.trans {B rb : Nat} {a b c : World} (h : BB B rb a b) (k : BB B rb b c) : BB B rb a c := ⟨Nat.le_trans h.size k.size, fun b hb hne => (k.same b hb hne).trans (h.same b hb hne)⟩

abbrev PosV (n : Nat) := { x : Nat × InsV // x.1 < n }
def posE {n : Nat} (x : PosV n) : Array Value := #[.int .i64 (x.1.1 : Int), .agg (insCells x.1.2).toArray]
theorem ins_eq {m : Mp} {x : InsV} {v : Value} (h : VRel m (.agg (insCells x).toArray) v) : v = .agg (insCells x).toArray := by
  cases h with
  | agg hx hr =>
    rename_i ys
    congr 1
    apply Array.ext
    · exact hx.symm
    · intro i h1 h2
      have h3 := hr i (insCells x).toArray[i] ys[i] (by rw [Array.getElem?_eq_getElem h2]) (by rw [Array.getElem?_eq_getElem h1])
      refine h3.eq_of_scalar ?_
      have hi : i < 5 := by simpa [insCells] using h2
      have : i = 0 ∨ i = 1 ∨ i = 2 ∨ i = 3 ∨ i = 4 := by omega
      rcases this with rfl | rfl | rfl | rfl | rfl <;> rfl

set_option maxHeartbeats 4000000 in
theorem backward_stops (nn : Nat) (p : List InsV) (hl : p.length ≤ 64) (m : Mp) (MI : AW) (w : World) (rb : Nat) (v : Value) (b3 : Nat) (h : IsIns MI v p) (hcb : MI.get b3 = some (.cells [v] false 1)) (pb : Addr)
    (hpb : VRel m (.pointer (some ⟨b3, 0, none⟩)) (.pointer (some pb))) (hsim : ∀ W, BB w.heap.size rb w W → Sim m MI W) :
    SeqStopsK Fence.wide nn Tryd.prog 51 #[.pointer (some pb)] (posE (n := p.length)) (BB w.heap.size rb) (fun xs => xs.map (·.1.1) = downTo p.length p.length) (fun _ => True) p.length w := by
  intro l J Jx W hW hJ hJx hY h0
  have hW' : BB w.heap.size rb w W := ⟨hW.size, fun b hb _ => hW.block b hb⟩
  have hs0 := hsim W hW'
  have hok : codeOk 19 (Tryd.f51.body.getD .skip) = true := by kernel_rfl
  refine callsIn_of_wp Tryd.func51 rfl trivial ?_ rfl
  have hf0 := frel_init (n := 19) hs0 (args := [.func (.yield l) #[] #[], .pointer (some ⟨b3, 0, none⟩)]) (cargs := #[.func (.yield l) #[] #[], .pointer (some pb)]) (.cons (.func _ rfl rfl (fun i x y h _ => by simp at h) (fun i x y h _ => by simp at h)) (.cons hpb .nil)) (by simp)
  obtain ⟨o, c, rfl, _⟩ := h.form
  have hrb := AW.row_of hcb
  have hw1 : IntKind.i64.wrap ((p.length : Int) - 1) = (p.length : Int) - 1 := wrap_i64 (by omega) (by omega)
  refine wpIn_seq (quiet_region (K := fun a => a 0 = .func (.yield l) #[] #[] ∧ a 1 = .pointer (some ⟨b3, 0, none⟩) ∧ a 3 = .int .i64 ((p.length : Int) - 1)) (by kernel_rfl) hs0 ?_ hf0 ?_)
  · simp [QL, gval, aq, initF, AW.row_get, hcb, hrb, hw1]
  rintro a ca ⟨a0, a1, a3⟩ hf
  refine wpIn_block ?_
  refine wpIn_loop_ghost (fun k ca' W' => ∃ (a' : Fr) (pre : List (PosV p.length)), k ≤ p.length ∧ FRel m 19 a' ca' ∧ a' 0 = .func (.yield l) #[] #[] ∧ a' 1 = .pointer (some ⟨b3, 0, none⟩) ∧ a' 3 = .int .i64 ((k : Int) - 1) ∧ pre.map (·.1.1) = downTo p.length (p.length - k) ∧ J pre W' ∧ BB w.heap.size rb w W') p.length ⟨a, [], Nat.le_refl _, hf, a0, a1, a3, by simp [downTo], h0, hW'⟩ ?_
  clear h0 hW' hs0 hf0 hf a0 a1 a3
  rintro k ca' W' ⟨a, pre, hk, hf, a0, a1, a3, hpre, hJp, hWp⟩
  have hs := hsim W' hWp
  have hev : ∀ {a : Fr} {ca : Act} {t : Nat} {b : Bool}, FRel m 19 a ca → t < 19 → a t = .bool b → ca.eval (.tmp t) = .bool b := fun {a ca t b} hf ht hb => by
    have h1 := hf.eval (x := .tmp t) (by simpa [opndOk] using ht)
    rw [evF_tmp, hb] at h1
    exact h1.eq_of_scalar rfl
  have fin : ∀ (e : Exit) (ca : Act) (W' : World), (e = .normal ∨ e = .ret) → ca.defers = [] → (((∃ xs : List (PosV p.length), xs.map (·.1.1) = downTo p.length p.length ∧ J xs W') ∨ (∃ pre, True ∧ Jx pre W'))) →
      bodyPost Tryd.prog Tryd.f51 (fun e W' => (∃ v, e = .returned v) ∧ ((∃ xs : List (PosV p.length), xs.map (·.1.1) = downTo p.length p.length ∧ J xs W') ∨ (∃ pre, True ∧ Jx pre W'))) e ca W' := fun e ca W' he hd hJ => by
    rcases he with rfl | rfl
    · exact bodyPost_end (results_none rfl _ _ _) hd ⟨⟨_, rfl⟩, hJ⟩
    · exact bodyPost_ret (results_none rfl _ _ _) hd ⟨⟨_, rfl⟩, hJ⟩
  cases k with
  | zero =>
    refine wpIn_seq (wpIn_seq (quiet_region (K := fun a => a 8 = .bool false) (by kernel_rfl) hs ?_ hf ?_))
    · simp [QL, gval, aq, a0, a1, a3]
    rintro a2 ca2 b8 hf2
    refine wpIn_cond_false (hev hf2 (by omega) b8) (wpIn_exit ?_)
    exact fin _ _ _ (.inl rfl) hf2.defers (.inl ⟨pre, hpre, hJp⟩)
  | succ j =>
    have hj : j < p.length := by omega
    have hjc : ((j + 1 : Nat) : Int) - 1 = (j : Int) := by omega
    rw [hjc] at a3
    have hge : (0 : Int) ≤ j := by omega
    refine wpIn_seq (wpIn_seq (quiet_region (K := fun a => a 8 = .bool true ∧ a 0 = .func (.yield l) #[] #[] ∧ a 1 = .pointer (some ⟨b3, 0, none⟩) ∧ a 3 = .int .i64 (j : Int)) (by kernel_rfl) hs ?_ hf ?_))
    · simp [QL, gval, aq, a0, a1, a3]
    rintro a2 ca2 ⟨b8, b0, b1, b3'⟩ hf2
    refine wpIn_cond_true (hev hf2 (by omega) b8) (wpIn_skip ?_)
    refine wpIn_seq (wpIn_block (wpIn_seq (wpIn_region_list ?_)))
    obtain ⟨q, row, hq', hrow, hle, hcell⟩ := h.at hj
    subst hq'
    have hcell5 := hcell
    simp only [insCells] at hcell5
    rw [← List.take_append_drop 6 (Array.toList _)]
    refine quiet_front (K := fun a => a 11 = .func (.yield l) #[] #[] ∧ a 12 = .int .i64 (j : Int) ∧ a 1 = .pointer (some ⟨b3, 0, none⟩) ∧ a 0 = .func (.yield l) #[] #[] ∧ a 3 = .int .i64 (j : Int) ∧ a 16 = .agg (insCells p[j]).toArray) (ops := Array.mk [_, _, _, _, _, _, _, _]) (by kernel_rfl) hs _ _ _ (fun o ho => ?_) ?_ hf2 ?_
    · exact Array.all_eq_true_iff_forall_mem.1 (show (Array.all _ (operOk 19)) = true by kernel_rfl) o (Array.mem_toList_iff.1 (List.mem_of_mem_take ho))
    · simp [QL, gval, aq, b0, b1, b3', hrb, hrow, hle, hj, hcell5, insCells]
    rintro a4 ca4 ⟨c11, c12, c1, c0, c3, c16⟩ hf4
    have e11 : ca4.eval (.tmp 11) = .func (.yield l) #[] #[] := by
      have h1 := hf4.eval (x := .tmp 11) rfl
      rw [evF_tmp, c11] at h1
      generalize ca4.eval (.tmp 11) = z at h1
      cases h1 with
      | func _ h1 h2 h3 h4 =>
        rename_i xs ys
        have e1 : xs = #[] := Array.eq_empty_of_size_eq_zero h1.symm
        have e2 : ys = #[] := Array.eq_empty_of_size_eq_zero h2.symm
        rw [e1, e2]
    have e12 : ca4.eval (.tmp 12) = .int .i64 (j : Int) := by
      have h1 := hf4.eval (x := .tmp 12) rfl
      rw [evF_tmp, c12] at h1
      exact h1.eq_of_scalar rfl
    have e16 : ca4.eval (.tmp 16) = .agg (insCells p[j]).toArray := by
      have h1 := hf4.eval (x := .tmp 16) rfl
      rw [evF_tmp, c16] at h1
      exact ins_eq h1
    have hlen : pre.length < p.length := by
      have := congrArg List.length hpre
      rw [List.length_map, downTo_length] at this
      omega
    obtain ⟨fn, tmps, assign, body, hy, hRd⟩ := hY pre ⟨(j, p[j]), hj⟩ W' hJp hlen
    unfold posE at hy
    simp only at hy
    show wpListIn _ _ _ _ _ [_, _] _ _
    unfold wpListIn
    rw [if_pos (by rfl)]
    refine ⟨fun _ _ => trivial, ?_⟩
    have hrun : ∀ (o : Oper), o.op = .call { callee := .value (.tmp 11), args := #[.tmp 12, .tmp 16], argTypes := #[3, 58] } → (execOp ca4.eval o).run Tryd.prog W' = .ok (.round l fn tmps assign body) W' := fun o ho => by
      obtain ⟨dst, op, ty, pos, after, guard⟩ := o
      simp only at ho
      subst ho
      simp only [execOp, resolve, e11, e12, e16, Deferred.ofValue, invoke, Sem.run_bind, Sem.run_pure, Result.andThen_ok]
      simpa [e12, e16] using hy
    rw [Fence.wide_round, Oper.semAt_none, hrun _ rfl, Oper.uponIn_round]
    refine ⟨fun h => (by cases h), hRd.mono ?_⟩
    have hnot : ∀ (o : Oper) (b : Bool) (W3 : World), o.op = .unOp .not 4 (.tmp 17) → (execOp (ca4.put (some 17) (.bool b)).eval o).run Tryd.prog W3 = .ok (.value (.bool (!b))) W3 := fun o b W3 ho => by
      have hf5 : FRel m 19 (putF a4 (some 17) (.bool b)) (ca4.put (some 17) (.bool b)) := hf4.put (d := some 17) (fun i e => by cases e; decide) (.of_scalar rfl m)
      have h1 := hev (t := 17) (b := b) hf5 (by omega) (by simp [putF])
      obtain ⟨dst, op, ty, pos, after, guard⟩ := o
      simp only at ho
      subst ho
      simp [execOp, h1, Op.unary, Sem.run, Result.andThen]
    rintro e W3 (⟨rfl, hJ3, hk3⟩ | ⟨rfl, hJx3⟩)
    · have hf5 : FRel m 19 (putF a4 (some 17) (.bool true)) (ca4.put (some 17) (.bool true)) := hf4.put (d := some 17) (fun i e => by cases e; decide) (.of_scalar rfl m)
      have hf6 := hf5.put (d := some 18) (fun i e => by cases e; decide) (.of_scalar (v := .bool false) rfl m)
      show wpListIn _ _ _ _ _ [_] _ _
      unfold wpListIn
      rw [if_pos (by rfl)]
      refine ⟨fun _ _ => trivial, ?_⟩
      rw [Fence.wide_round, Oper.semAt_none]
      rw [hnot _ true W3 rfl, Oper.uponIn_value]
      unfold wpListIn
      refine wpIn_cond_false (hev (t := 18) (b := false) hf6 (by omega) (by simp [putF])) (wpIn_skip ?_)
      have hW3 := hWp.trans hk3
      have hwj : IntKind.i64.wrap ((j : Int) - 1) = (j : Int) - 1 := wrap_i64 (by omega) (by omega)
      refine quiet_region (K := fun a => a 0 = .func (.yield l) #[] #[] ∧ a 1 = .pointer (some ⟨b3, 0, none⟩) ∧ a 3 = .int .i64 ((j : Int) - 1)) (by kernel_rfl) (hsim W3 hW3) ?_ hf6 ?_
      · simp [QL, gval, aq, c0, c1, c3, putF, hwj]
      rintro a7 ca7 ⟨d0, d1, d3⟩ hf7
      refine ⟨j, Nat.lt_succ_self j, a7, _, by omega, hf7, d0, d1, d3, ?_, hJ3, hW3⟩
      rw [List.map_append, hpre, show p.length - j = (p.length - (j + 1)) + 1 by omega]
      show _ = downTo p.length (p.length - (j + 1)) ++ [_]
      congr 1
      simp
      omega
    · have hf5 : FRel m 19 (putF a4 (some 17) (.bool false)) (ca4.put (some 17) (.bool false)) := hf4.put (d := some 17) (fun i e => by cases e; decide) (.of_scalar rfl m)
      have hf6 := hf5.put (d := some 18) (fun i e => by cases e; decide) (.of_scalar (v := .bool true) rfl m)
      show wpListIn _ _ _ _ _ [_] _ _
      unfold wpListIn
      rw [if_pos (by rfl)]
      refine ⟨fun _ _ => trivial, ?_⟩
      rw [Fence.wide_round, Oper.semAt_none]
      rw [hnot _ false W3 rfl, Oper.uponIn_value]
      unfold wpListIn
      refine wpIn_cond_true (hev (t := 18) (b := true) hf6 (by omega) (by simp [putF])) (wpIn_ret ?_)
      exact fin _ _ _ (.inr rfl) hf6.defers (.inr ⟨_, trivial, hJx3⟩)
end Go.Stx
