/-
  The program's machine that releases: its step.
-/
import Derived.Test.YtajhaafmlnoioaaRelA
namespace Go.Stx
open Go Go.Proofs
attribute [local irreducible] AWP LWalk ACall ARounds lops nops
attribute [local irreducible] TW ltree
set_option linter.unusedVariables false
set_option linter.unusedSimpArgs false

set_option maxRecDepth 20000 in
set_option maxHeartbeats 1000000 in
theorem relStep_call (b pb : Nat) (s : RelS) (M : Nat → List Int) (hlen : s.os.length = s.ws.length) :
    SCall Try.prog 30 [.pointer (some ⟨b, 0, none⟩), .pointer (some ⟨pb, 0, none⟩)] (RelH b s * MemH pb M)
      (fun v => hpr (v = (relStep s M).1.v) * (RelH b (relStep s M).2.1 * MemH pb (relStep s M).2.2)) := by
  intro A F hw hS0
  refine acall_intro Try.func30 rfl (by kernel_rfl) fun _ => ?_
  rw [HP.mul_assoc] at hS0
  have hS1 := (hS0.alloc hw (.cells accZ true 1))
  have hS2 : Sat (A.alloc (.cells accZ true 1)) (RelH b s * (MemH pb M * (pt A.next (.cells accZ true 1) * F))) := hS1.cast (by ac_rfl)
  by_cases hdone : s.done = true
  · have hd := relDone_call b s _ _ hS2
    rw [hdone] at hd
    repeat' (first
    | (refine lwc fun R hR => ?_; simp [wrap_i64, wrap_u64, AW.row_get, astore, accZ]; try simp (disch := omega) only [if_pos, if_neg, wrap_i64, wrap_u64])
    | (refine hR _ _ ?_; clear hR R) | (refine hK _ _ ?_; clear hK K) | refine lwn ?_ | refine lr ?_ | refine la ?_
    | refine wn fun K hK => ?_
    | simp only [nops, nop, lops, lop, slimG, List.map_cons, List.map_nil, List.filterMap_cons, List.filterMap_nil, Option.map_none, Option.map_some, List.getElem?_toArray, List.getElem?_cons_zero, List.getElem?_cons_succ, Option.bind_some]
    | (refine callK (hd) ?_; rintro _ _ ⟨rfl, rfl⟩ _ _)
    | refine wb ?_ | refine wr ?_ | refine wk ?_ | refine we ?_ | refine ws ?_ | refine wq ?_
    | ((refine wc rfl (fun hc => ?_) (fun hc => ?_)) <;> (try simp at hc) <;> (try omega))
    | ((refine ib (fun hc => ?_) (fun hc => ?_)) <;> (try omega) <;> (try simp (disch := omega) only [if_pos, if_neg])))
    have hst : relStep s M = (Acc.zero, s, M) := by unfold relStep; rw [if_pos hdone]
    rw [hst]
    refine ⟨_, by simp [AW.row_get, astore]; rfl, Sat.post (by simp [Acc.v, Acc.zero]) ?_⟩
    rw [HP.mul_assoc]
    exact hS0.le hw ((AW.le.alloc A _).set (Nat.le_refl _) _)
  · have hd := relDone_call b s _ _ hS2
    rw [show s.done = false by simpa using hdone] at hd
    obtain ⟨os, ws⟩ := s
    cases os with
    | nil => simp [RelS.done] at hdone
    | cons o os =>
    cases ws with
    | nil => simp at hlen
    | cons x ws =>
    have hst : relStep ⟨o :: os, x :: ws⟩ M = (opAcc M 2 2 o (gStore x), ⟨os, ws⟩, opM M 2 o (gStore x)) := by
      unfold relStep; rw [if_neg hdone]; rfl
    obtain ⟨vo, vw, hS3⟩ := RelH.open hS0
    have hg := hS3.get
    have hSo : Sat A (IntsH .i64 vo (o :: os) * (pt b (.cells [vo, vw] true 1) * (IntsH .u64 vw (x :: ws) * (MemH pb M * F)))) := hS3.cast (by ac_rfl)
    have hSw : Sat A (IntsH .u64 vw (x :: ws) * (pt b (.cells [vo, vw] true 1) * (IntsH .i64 vo (o :: os) * (MemH pb M * F)))) := hS3.cast (by ac_rfl)
    obtain ⟨bo, off, c, row, rfl, _, hgo, hco, _, _⟩ := IntsH.at hSo (j := 0) (by simp)
    obtain ⟨bw, offw, cw, roww, rfl, _, hgw, hcw, _, _⟩ := IntsH.at hSw (j := 0) (by simp)
    obtain ⟨nb, nb'⟩ := hw.old hg
    obtain ⟨no, no'⟩ := hw.old hgo
    obtain ⟨nw, nw'⟩ := hw.old hgw
    simp at hgo hco hgw hcw
    repeat' (first
    | (refine lwc fun R hR => ?_; simp [wrap_i64, wrap_u64, AW.row_get, astore, accZ, hg, hgo, hco, hgw, hcw, nb, nb', no, no', nw, nw']; try simp (disch := omega) only [if_pos, if_neg, wrap_i64, wrap_u64])
    | (refine hR _ _ ?_; clear hR R) | (refine hK _ _ ?_; clear hK K) | refine lwn ?_ | refine lr ?_ | refine la ?_
    | (refine twc fun R hR => ?_; simp [wrap_i64, wrap_u64, AW.row_get, astore, accZ, hg, hgo, hco, hgw, hcw, nb, nb', no, no', nw, nw']; try simp (disch := omega) only [if_pos, if_neg, wrap_i64, wrap_u64])
    | ((refine tw2 (fun R hR => ?_) (fun R hR => ?_)) <;> (simp [wrap_i64, wrap_u64, AW.row_get, astore, accZ, hg, hgo, hco, hgw, hcw, nb, nb', no, no', nw, nw']; try simp (disch := omega) only [if_pos, if_neg, wrap_i64, wrap_u64]))
    | refine twn ?_
    | refine wn fun K hK => ?_
    | simp only [nops, nop, lops, lop, slimG, List.map_cons, List.map_nil, List.filterMap_cons, List.filterMap_nil, Option.map_none, Option.map_some, List.getElem?_toArray, List.getElem?_cons_zero, List.getElem?_cons_succ, Option.bind_some]
    | simp only [ltree, tlop, slimG, Option.map_none, Option.map_some, List.getElem?_toArray, List.getElem?_cons_zero, List.getElem?_cons_succ, List.getD_cons_zero, List.getD_cons_succ, Option.bind_some]
    | (refine callK (hd) ?_; rintro _ _ ⟨rfl, rfl⟩ _ _)
    | (refine wt (fun _ => True) Try.mx [0,0,0,0,0,0,0,0,0,0,0,0,0,3,0,0,0,2,3,3] (.one 0 (.one 1 (.one 2 (.one 3 (.one 4 (.one 5 (.one 6 (.one 7 (.one 8 (.one 9 (.one 10 (.one 11 (.one 12 (.two 13 (.one 14 (.one 15 (.one 16 (.one 17 (.one 18 (.one 19 .nil)))))) 17 (.one 13 (.one 14 (.one 15 (.one 16 (.one 18 (.one 19 .nil)))))))))))))))))))) (by decide +kernel) fun K hK => ?_)
    | refine wb ?_ | refine wr ?_ | refine wk ?_ | refine we ?_ | refine ws ?_ | refine wq ?_
    | ((refine wc rfl (fun hc => ?_) (fun hc => ?_)) <;> (try simp at hc) <;> (try omega))
    | ((refine ib (fun hc => ?_) (fun hc => ?_)) <;> (try omega) <;> (try simp (disch := omega) only [if_pos, if_neg])))
    · have hS4 : Sat _ (MemH pb M * (RelH b ⟨o :: os, x :: ws⟩ * (pt A.next (.cells accZ true 1) * F))) := hS2.cast (by ac_rfl)
      refine (mem_store pb M 2 o x).use (hw.alloc _) hS4 rfl ?_
      intro v A2 hS5 hw2 hn2
      obtain ⟨rfl, hS6⟩ := hS5.unpost
      clear hS5
      generalize opAcc M 2 2 o (gStore x) = a at hst hS6 ⊢
      generalize opM M 2 o (gStore x) = M' at hst hS6
      generalize opErr M 2 o = er at hS6 ⊢
      have hS7 : Sat A2 (RelH b ⟨o :: os, x :: ws⟩ * (pt A.next (.cells accZ true 1) * (MemH pb M' * F))) := hS6.cast (by ac_rfl)
      obtain ⟨vo2, vw2, hS8⟩ := RelH.open hS7
      obtain ⟨bo2, oo2, co2, rowo2, rfl, hgo2, hno2, hno3, hS9⟩ := IntsH.tl (hS8.cast (by ac_rfl) : Sat A2 (IntsH .i64 vo2 (o :: os) * (pt b (.cells [vo2, vw2] true 1) * (IntsH .u64 vw2 (x :: ws) * (pt A.next (.cells accZ true 1) * (MemH pb M' * F))))))
      obtain ⟨bw2, ow2, cw2, roww2, rfl, hgw2, hnw2, hnw3, hS10⟩ := IntsH.tl (hS9.cast (by ac_rfl) : Sat A2 (IntsH .u64 vw2 (x :: ws) * (pt b (.cells [.slice (some ⟨bo2, oo2, none⟩) (os.length + 1) co2, vw2] true 1) * (IntsH .i64 (.slice (some ⟨bo2, oo2 + 1, none⟩) os.length (co2 - 1)) os * (pt A.next (.cells accZ true 1) * (MemH pb M' * F))))))
      have hS11 := (hS10.cast (by ac_rfl) : Sat A2 (pt b (.cells [.slice (some ⟨bo2, oo2, none⟩) (os.length + 1) co2, .slice (some ⟨bw2, ow2, none⟩) (ws.length + 1) cw2] true 1) * (pt A.next (.cells accZ true 1) * (IntsH .i64 (.slice (some ⟨bo2, oo2 + 1, none⟩) os.length (co2 - 1)) os * (IntsH .u64 (.slice (some ⟨bw2, ow2 + 1, none⟩) ws.length (cw2 - 1)) ws * (MemH pb M' * F))))))
      have hgb := hS11.get
      have hg0 := hS11.right.get
      have n1 := hS11.ne
      obtain ⟨nb2, nb2'⟩ := hw2.old hgb
      obtain ⟨no2, no2'⟩ := hw2.old hgo2
      obtain ⟨nw2, nw2'⟩ := hw2.old hgw2
      obtain ⟨n02, n02'⟩ := hw2.old hg0
      have e1 : (1 : Int) ≤ (os.length : Int) + 1 := by omega
      have e2 : (1 : Int) ≤ (ws.length : Int) + 1 := by omega
      have n2 := hno2 _ _ _ rfl
      have n3 := hnw2 _ _ _ rfl
      have nbs : A2.next ≠ b := fun e => by rw [← e] at nb2; simp at nb2
      have n0s : A2.next ≠ A.next := fun e => by rw [← e] at n02; simp at n02
      repeat' (first
      | (refine lwc fun R hR => ?_; simp [wrap_i64, wrap_u64, AW.row_get, astore, accZ, hgb, hg0, hgo2, hgw2, n1, Ne.symm n1, n2, n3, Ne.symm n2, Ne.symm n3, nb2, nb2', no2, no2', nw2, nw2', n02, n02', e1, e2, nbs, n0s, Acc.v, asliceAt]; try simp (disch := omega) only [if_pos, if_neg, wrap_i64, wrap_u64])
      | (refine hR _ _ ?_; clear hR R) | (refine hK _ _ ?_; clear hK K) | refine lwn ?_ | refine lr ?_ | refine la ?_
      | (refine twc fun R hR => ?_; simp [wrap_i64, wrap_u64, AW.row_get, astore, accZ, hgb, hg0, hgo2, hgw2, n1, Ne.symm n1, n2, n3, Ne.symm n2, Ne.symm n3, nb2, nb2', no2, no2', nw2, nw2', n02, n02', e1, e2, nbs, n0s, Acc.v, asliceAt]; try simp (disch := omega) only [if_pos, if_neg, wrap_i64, wrap_u64])
      | ((refine tw2 (fun R hR => ?_) (fun R hR => ?_)) <;> (simp [wrap_i64, wrap_u64, AW.row_get, astore, accZ, hgb, hg0, hgo2, hgw2, n1, Ne.symm n1, n2, n3, Ne.symm n2, Ne.symm n3, nb2, nb2', no2, no2', nw2, nw2', n02, n02', e1, e2, nbs, n0s, Acc.v, asliceAt]; try simp (disch := omega) only [if_pos, if_neg, wrap_i64, wrap_u64]))
      | refine twn ?_
      | refine wn fun K hK => ?_
      | simp only [nops, nop, lops, lop, slimG, List.map_cons, List.map_nil, List.filterMap_cons, List.filterMap_nil, Option.map_none, Option.map_some, List.getElem?_toArray, List.getElem?_cons_zero, List.getElem?_cons_succ, Option.bind_some]
      | simp only [ltree, tlop, slimG, Option.map_none, Option.map_some, List.getElem?_toArray, List.getElem?_cons_zero, List.getElem?_cons_succ, List.getD_cons_zero, List.getD_cons_succ, Option.bind_some]
      | (refine ⟨fun A' hA' => by rw [hA'] <;> rfl, ?_⟩)
      | (refine wlS (fun A' => A'.get bw2 = some (.cells roww2 true 1)) Try.mx [(0, 0), (1, 0), (2, 0), (3, 0), (4, 0), (5, 0), (6, 0), (7, 0), (8, 0), (9, 0), (10, 0), (11, 1), (12, 0), (13, 0), (14, 3), (15, 0), (16, 0), (17, 3)] (by decide +kernel) fun K hK => ?_)
      | ((refine wt (fun _ => True) Try.mx [] .nil (by decide +kernel) ?_ <;> fail))
      | refine wb ?_ | refine wr ?_ | refine wk ?_ | refine we ?_ | refine ws ?_ | refine wq ?_
      | ((refine wc rfl (fun hc => ?_) (fun hc => ?_)) <;> (try simp at hc) <;> (try omega))
      | ((refine ib (fun hc => ?_) (fun hc => ?_)) <;> (try omega) <;> (try simp (disch := omega) only [if_pos, if_neg])))
      refine ⟨_, by simp [AW.row_get, astore, nbs, n0s]; rfl, Sat.post (by rw [hst]; simp [Acc.v]) ?_⟩
      rw [hst, HP.mul_assoc]
      refine RelH.close (vo := .slice (some ⟨bo2, oo2 + 1, none⟩) os.length (co2 - 1)) (vw := .slice (some ⟨bw2, ow2 + 1, none⟩) ws.length (cw2 - 1)) (Sat.fin11 hS11 (by simp [AW.get_set, n1, nbs]) (fun j x h1 h2 hx => ?_))
      have hj := (hw2.old hx).1
      simp [AW.get_set, h1, h2, hx, hj]
    · have hS4 : Sat _ (MemH pb M * (RelH b ⟨o :: os, x :: ws⟩ * (pt (A.next + 1) (.cells accZ true 1) * (pt A.next (.cells accZ true 1) * F)))) := ((hS2.alloc (hw.alloc _) (.cells accZ true 1)).cast (by simp only [AW.alloc_next]; ac_rfl))
      refine (mem_store pb M 2 o x).use ((hw.alloc _).alloc _) hS4 rfl ?_
      intro v A2 hS5 hw2 hn2
      obtain ⟨rfl, hS6⟩ := hS5.unpost
      clear hS5
      generalize opAcc M 2 2 o (gStore x) = a at hst hS6 ⊢
      generalize opM M 2 o (gStore x) = M' at hst hS6
      generalize opErr M 2 o = er at hS6 ⊢
      have hS7 : Sat A2 (RelH b ⟨o :: os, x :: ws⟩ * (pt (A.next + 1) (.cells accZ true 1) * (pt A.next (.cells accZ true 1) * (MemH pb M' * F)))) := hS6.cast (by ac_rfl)
      obtain ⟨vo2, vw2, hS8⟩ := RelH.open hS7
      obtain ⟨bo2, oo2, co2, rowo2, rfl, hgo2, hno2, hno3, hS9⟩ := IntsH.tl (hS8.cast (by ac_rfl) : Sat A2 (IntsH .i64 vo2 (o :: os) * (pt b (.cells [vo2, vw2] true 1) * (pt (A.next + 1) (.cells accZ true 1) * (IntsH .u64 vw2 (x :: ws) * (pt A.next (.cells accZ true 1) * (MemH pb M' * F)))))))
      obtain ⟨bw2, ow2, cw2, roww2, rfl, hgw2, hnw2, hnw3, hS10⟩ := IntsH.tl (hS9.cast (by ac_rfl) : Sat A2 (IntsH .u64 vw2 (x :: ws) * (pt b (.cells [.slice (some ⟨bo2, oo2, none⟩) (os.length + 1) co2, vw2] true 1) * (pt (A.next + 1) (.cells accZ true 1) * (IntsH .i64 (.slice (some ⟨bo2, oo2 + 1, none⟩) os.length (co2 - 1)) os * (pt A.next (.cells accZ true 1) * (MemH pb M' * F)))))))
      have hS11 := (hS10.cast (by ac_rfl) : Sat A2 (pt b (.cells [.slice (some ⟨bo2, oo2, none⟩) (os.length + 1) co2, .slice (some ⟨bw2, ow2, none⟩) (ws.length + 1) cw2] true 1) * (pt (A.next + 1) (.cells accZ true 1) * (pt A.next (.cells accZ true 1) * (IntsH .i64 (.slice (some ⟨bo2, oo2 + 1, none⟩) os.length (co2 - 1)) os * (IntsH .u64 (.slice (some ⟨bw2, ow2 + 1, none⟩) ws.length (cw2 - 1)) ws * (MemH pb M' * F)))))))
      have hgb := hS11.get
      have hg1 := hS11.right.get
      have hg0 := hS11.right.right.get
      have n1 := hS11.ne2
      have n4 := hS11.ne
      have n5 := hS11.right.ne
      obtain ⟨n12, n12'⟩ := hw2.old hg1
      obtain ⟨nb2, nb2'⟩ := hw2.old hgb
      obtain ⟨no2, no2'⟩ := hw2.old hgo2
      obtain ⟨nw2, nw2'⟩ := hw2.old hgw2
      obtain ⟨n02, n02'⟩ := hw2.old hg0
      have e1 : (1 : Int) ≤ (os.length : Int) + 1 := by omega
      have e2 : (1 : Int) ≤ (ws.length : Int) + 1 := by omega
      have n2 := hno2 _ _ _ rfl
      have n3 := hnw2 _ _ _ rfl
      have n6 := hno3 _ _ _ _ _ rfl
      have n7 := hnw3 _ _ _ _ _ rfl
      have nbs : A2.next ≠ b := fun e => by rw [← e] at nb2; simp at nb2
      have n0s : A2.next ≠ A.next := fun e => by rw [← e] at n02; simp at n02
      repeat' (first
      | (refine lwc fun R hR => ?_; simp [wrap_i64, wrap_u64, AW.row_get, astore, accZ, hgb, hg0, hg1, n6, n7, Ne.symm n6, Ne.symm n7, n4, n5, Ne.symm n4, Ne.symm n5, n12, n12', hgo2, hgw2, n1, Ne.symm n1, n2, n3, Ne.symm n2, Ne.symm n3, nb2, nb2', no2, no2', nw2, nw2', n02, n02', e1, e2, nbs, n0s, Acc.v, asliceAt]; try simp (disch := omega) only [if_pos, if_neg, wrap_i64, wrap_u64])
      | (refine hR _ _ ?_; clear hR R) | (refine hK _ _ ?_; clear hK K) | refine lwn ?_ | refine lr ?_ | refine la ?_
      | (refine twc fun R hR => ?_; simp [wrap_i64, wrap_u64, AW.row_get, astore, accZ, hgb, hg0, hg1, n6, n7, Ne.symm n6, Ne.symm n7, n4, n5, Ne.symm n4, Ne.symm n5, n12, n12', hgo2, hgw2, n1, Ne.symm n1, n2, n3, Ne.symm n2, Ne.symm n3, nb2, nb2', no2, no2', nw2, nw2', n02, n02', e1, e2, nbs, n0s, Acc.v, asliceAt]; try simp (disch := omega) only [if_pos, if_neg, wrap_i64, wrap_u64])
      | ((refine tw2 (fun R hR => ?_) (fun R hR => ?_)) <;> (simp [wrap_i64, wrap_u64, AW.row_get, astore, accZ, hgb, hg0, hg1, n6, n7, Ne.symm n6, Ne.symm n7, n4, n5, Ne.symm n4, Ne.symm n5, n12, n12', hgo2, hgw2, n1, Ne.symm n1, n2, n3, Ne.symm n2, Ne.symm n3, nb2, nb2', no2, no2', nw2, nw2', n02, n02', e1, e2, nbs, n0s, Acc.v, asliceAt]; try simp (disch := omega) only [if_pos, if_neg, wrap_i64, wrap_u64]))
      | refine twn ?_
      | refine wn fun K hK => ?_
      | simp only [nops, nop, lops, lop, slimG, List.map_cons, List.map_nil, List.filterMap_cons, List.filterMap_nil, Option.map_none, Option.map_some, List.getElem?_toArray, List.getElem?_cons_zero, List.getElem?_cons_succ, Option.bind_some]
      | simp only [ltree, tlop, slimG, Option.map_none, Option.map_some, List.getElem?_toArray, List.getElem?_cons_zero, List.getElem?_cons_succ, List.getD_cons_zero, List.getD_cons_succ, Option.bind_some]
      | (refine ⟨fun A' hA' => by rw [hA'] <;> rfl, ?_⟩)
      | (refine wlS (fun A' => A'.get bw2 = some (.cells roww2 true 1)) Try.mx [(0, 0), (1, 0), (2, 0), (3, 0), (4, 0), (5, 0), (6, 0), (7, 0), (8, 0), (9, 0), (10, 0), (11, 1), (12, 0), (13, 0), (14, 3), (15, 0), (16, 0), (17, 3)] (by decide +kernel) fun K hK => ?_)
      | ((refine wt (fun _ => True) Try.mx [] .nil (by decide +kernel) ?_ <;> fail))
      | refine wb ?_ | refine wr ?_ | refine wk ?_ | refine we ?_ | refine ws ?_ | refine wq ?_
      | ((refine wc rfl (fun hc => ?_) (fun hc => ?_)) <;> (try simp at hc) <;> (try omega))
      | ((refine ib (fun hc => ?_) (fun hc => ?_)) <;> (try omega) <;> (try simp (disch := omega) only [if_pos, if_neg])))
      refine ⟨_, by simp [AW.row_get, astore, n1, n4, n5, Ne.symm n1, Ne.symm n4, Ne.symm n5]; rfl, Sat.post (by rw [hst]; simp [Acc.v]) ?_⟩
      rw [hst, HP.mul_assoc]
      refine RelH.close (vo := .slice (some ⟨bo2, oo2 + 1, none⟩) os.length (co2 - 1)) (vw := .slice (some ⟨bw2, ow2 + 1, none⟩) ws.length (cw2 - 1)) (Sat.fin12 hS11 (by simp [AW.get_set, n1, n4]) (fun j x h1 h2 h3 hx => ?_))
      simp [AW.get_set, h1, h2, h3, hx]

end Go.Stx
