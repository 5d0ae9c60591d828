/-
  The image of the program's cells.
-/
import Derived.Test.YtajhaafmlnoioaaClone
import Derived.Test.YtajhaafmlnoioaaCellsB
namespace Go.Stx
open Go Go.Proofs
attribute [local irreducible] AWP LWalk ACall ARounds lops nops
set_option linter.unusedVariables false
set_option linter.unusedSimpArgs false

/-- What a walk is to know of the cells. -/
theorem MemH.facts {A : AW} {pb : Nat} {M : Nat → List Int} {F : HP} (h : Sat A (MemH pb M * F)) :
    ∃ (r : Nat) (rows : List (Value × Value)) (vs : Nat → Value), A.get pb = some (.cells [.map (some r)] true 1) ∧ A.get r = some (.map rows true) ∧ (∀ k : Nat, k < 8 → ∃ q, afindKey (.int .i64) (.int .i64 ((k : Int) + 1)) rows 0 = some (some (q, vs k))) ∧ ∀ k : Nat, k < 8 → IsInts A .u64 (vs k) (M k) := by
  obtain ⟨r, vs, hS⟩ := MemH.open h
  have hgp := hS.get
  obtain ⟨rows, hgr, hfind, _⟩ := MapI.facts hS.right
  refine ⟨r, rows, vs, hgp, hgr, fun k hk => hfind .i64 _ _ ?_, fun k hk => ?_⟩
  · have : (1 : Int) ≤ k + 1 ∧ (k : Int) + 1 ≤ 8 := by omega
    simp only [memF, if_pos this]
    congr 2
    omega
  · exact IntsH.is (Sat.pick (f := fun k => IntsH .u64 (vs k) (M k)) hS.right.right hk)

/-- An image of cells. -/
def IsImage (A : AW) (v : Value) (M : Nat → List Int) : Prop :=
  ∃ v0 v1 v5 v6 v7, v = .agg #[v0, v1, .int .u64 ((M 2).getD 0 0), .int .u64 ((M 3).getD 0 0), .int .u64 ((M 4).getD 0 0), v5, v6, v7] ∧
    IsInts A .u64 v0 (M 0) ∧ IsInts A .u64 v1 (M 1) ∧ IsInts A .u64 v5 (M 5) ∧ IsInts A .u64 v6 (M 6) ∧ IsInts A .u64 v7 (M 7)

def imgZ : List Value := [.slice none 0 0, .slice none 0 0, .int .u64 0, .int .u64 0, .int .u64 0, .slice none 0 0, .slice none 0 0, .slice none 0 0]

set_option maxHeartbeats 4000000 in
theorem image_call (pb : Nat) (M : Nat → List Int) (A : AW) (F : HP) (h : Sat A (MemH pb M * F)) (hlen : ∀ k, k < 8 → (M k).length < 2^39) (h2 : 0 < (M 2).length) (h3 : 0 < (M 3).length) (h4 : 0 < (M 4).length) :
    ACall Try.prog 34 [.pointer (some ⟨pb, 0, none⟩)] A (fun v A' => IsImage A' v M ∧ A.le A') := by
  refine acall_intro Try.func34 rfl (by kernel_rfl) fun hw => ?_
  obtain ⟨r, rows, vs, hgp, hgr, hfind, his⟩ := MemH.facts h
  obtain ⟨q0, f0⟩ := hfind 0 (by omega)
  have f0 : afindKey (.int .i64) (.int .i64 1) rows 0 = some (some (q0, vs 0)) := f0
  obtain ⟨q1, f1⟩ := hfind 1 (by omega)
  have f1 : afindKey (.int .i64) (.int .i64 2) rows 0 = some (some (q1, vs 1)) := f1
  obtain ⟨q2, f2⟩ := hfind 2 (by omega)
  have f2 : afindKey (.int .i64) (.int .i64 3) rows 0 = some (some (q2, vs 2)) := f2
  obtain ⟨q3, f3⟩ := hfind 3 (by omega)
  have f3 : afindKey (.int .i64) (.int .i64 4) rows 0 = some (some (q3, vs 3)) := f3
  obtain ⟨q4, f4⟩ := hfind 4 (by omega)
  have f4 : afindKey (.int .i64) (.int .i64 5) rows 0 = some (some (q4, vs 4)) := f4
  obtain ⟨q5, f5⟩ := hfind 5 (by omega)
  have f5 : afindKey (.int .i64) (.int .i64 6) rows 0 = some (some (q5, vs 5)) := f5
  obtain ⟨q6, f6⟩ := hfind 6 (by omega)
  have f6 : afindKey (.int .i64) (.int .i64 7) rows 0 = some (some (q6, vs 6)) := f6
  obtain ⟨q7, f7⟩ := hfind 7 (by omega)
  have f7 : afindKey (.int .i64) (.int .i64 8) rows 0 = some (some (q7, vs 7)) := f7
  obtain ⟨np, np'⟩ := hw.old hgp
  obtain ⟨nr, nr'⟩ := hw.old hgr
  have i2 := his 2 (by omega)
  have i3 := his 3 (by omega)
  have i4 := his 4 (by omega)
  obtain ⟨o2, c2, e2, _⟩ := i2.form
  obtain ⟨o3, c3, e3, _⟩ := i3.form
  obtain ⟨o4, c4, e4, _⟩ := i4.form
  rw [e2] at i2 f2
  rw [e3] at i3 f3
  rw [e4] at i4 f4
  obtain ⟨p2, r2, w2, rfl, g2, d2⟩ := i2.atg h2
  obtain ⟨n2, n2'⟩ := hw.old g2
  obtain ⟨p3, r3, w3, rfl, g3, d3⟩ := i3.atg h3
  obtain ⟨n3, n3'⟩ := hw.old g3
  obtain ⟨p4, r4, w4, rfl, g4, d4⟩ := i4.atg h4
  obtain ⟨n4, n4'⟩ := hw.old g4
  simp only [Nat.add_zero] at d2 d3 d4
  repeat' (first
  | (refine lwc fun R hR => ?_; simp [wrap_i64, wrap_u64, hgp, hgr, AW.row_get, np, np', nr, nr', f0, f1, f2, f3, f4, f5, f6, f7, g2, g3, g4, d2, d3, d4, n2, n3, n4, n2', n3', n4', h2, h3, h4]; try simp (disch := omega) only [if_pos, if_neg, wrap_i64, wrap_u64])
  | (refine hR _ _ ?_; clear hR R) | (refine hK _ _ ?_; clear hK K) | refine lwn ?_ | refine lr ?_ | refine la ?_
  | refine wn fun K hK => ?_
  | simp only [nops, nop, lops, lop, slimG, List.map_cons, List.map_nil, List.filterMap_cons, List.filterMap_nil, Option.map_none, Option.map_some, List.getElem?_toArray, List.getElem?_cons_zero, List.getElem?_cons_succ, Option.bind_some]
  | (refine wl Try.mx [(0,0),(1,0),(2,0),(3,0),(4,0),(6,0),(7,0),(8,0),(9,0),(10,0),(12,0),(13,0),(14,0),(15,0),(16,0),(17,0),(18,0),(19,0),(20,0),(21,0),(22,0),(23,0),(24,0),(25,0),(26,0),(27,0),(28,0),(29,0),(30,0),(31,0),(32,0),(33,0),(34,0),(35,0),(36,0),(37,0),(39,0),(40,0),(41,0),(42,0),(43,0),(45,0),(46,0),(47,0),(48,0),(49,0),(5,2),(11,2),(38,2),(44,2),(50,2),(51,0),(52,3)] (by decide +kernel) fun K hK => ?_)
  | refine wb ?_ | refine wr ?_ | refine wk ?_ | refine we ?_ | refine ws ?_ | refine wq ?_
  | ((refine wc rfl (fun hc => ?_) (fun hc => ?_)) <;> (try simp at hc) <;> (try omega))
  | ((refine ib (fun hc => ?_) (fun hc => ?_)) <;> (try omega) <;> (try simp (disch := omega) only [if_pos, if_neg])))
  have l00 : A.le (A.alloc (.cells imgZ true 1)) := AW.le.alloc A _
  have hw0 := hw.alloc (.cells imgZ true 1)
  have hgz : (A.alloc (.cells imgZ true 1)).get A.next = some (.cells imgZ true 1) := AW.alloc_get_new _ _
  refine callK (cloneU_call (vs 0) (M 0) (A.alloc (.cells imgZ true 1)) ((his 0 (by omega)).le l00 hw) (hlen 0 (by omega))) ?_
  rintro v0 B0 ⟨q0', m0⟩ w0' _
  obtain ⟨ov0, cv0, rfl, _⟩ := q0'.is.form
  have l0' := l00.trans m0
  have z0 := m0.keep hw0 hgz
  refine ⟨m0, ?_⟩
  repeat' (first
  | (refine lwc fun R hR => ?_; simp [wrap_i64, wrap_u64, AW.row_get, astore, z0, imgZ]; try simp (disch := omega) only [if_pos, if_neg, wrap_i64, wrap_u64])
  | (refine hR _ _ ?_; clear hR R) | (refine hK _ _ ?_; clear hK K) | refine lwn ?_ | refine lr ?_ | refine la ?_
  | refine wn fun K hK => ?_
  | simp only [nops, nop, lops, lop, slimG, List.map_cons, List.map_nil, List.filterMap_cons, List.filterMap_nil, Option.map_none, Option.map_some, List.getElem?_toArray, List.getElem?_cons_zero, List.getElem?_cons_succ, Option.bind_some]
  | (refine wl Try.mx [(0,0),(1,0),(2,0),(3,0),(4,0),(6,0),(7,0),(8,0),(9,0),(10,0),(12,0),(13,0),(14,0),(15,0),(16,0),(17,0),(18,0),(19,0),(20,0),(21,0),(22,0),(23,0),(24,0),(25,0),(26,0),(27,0),(28,0),(29,0),(30,0),(31,0),(32,0),(33,0),(34,0),(35,0),(36,0),(37,0),(39,0),(40,0),(41,0),(42,0),(43,0),(45,0),(46,0),(47,0),(48,0),(49,0),(5,2),(11,2),(38,2),(44,2),(50,2),(51,0),(52,3)] (by decide +kernel) fun K hK => ?_)
  | refine wb ?_ | refine wr ?_ | refine wk ?_ | refine we ?_ | refine ws ?_ | refine wq ?_
  | ((refine wc rfl (fun hc => ?_) (fun hc => ?_)) <;> (try simp at hc) <;> (try omega))
  | ((refine ib (fun hc => ?_) (fun hc => ?_)) <;> (try omega) <;> (try simp (disch := omega) only [if_pos, if_neg])))
  refine callK (cloneU_call (vs 1) (M 1) _ ((his 1 (by omega)).le l0' hw) (hlen 1 (by omega))) ?_
  rintro v1 B1 ⟨q1', m1⟩ w1' _
  obtain ⟨ov1, cv1, rfl, _⟩ := q1'.is.form
  have l1' := l0'.trans m1
  have z1 := m1.keep w0' z0
  refine ⟨m1, ?_⟩
  repeat' (first
  | (refine lwc fun R hR => ?_; simp [wrap_i64, wrap_u64, AW.row_get, astore, z1, imgZ]; try simp (disch := omega) only [if_pos, if_neg, wrap_i64, wrap_u64])
  | (refine hR _ _ ?_; clear hR R) | (refine hK _ _ ?_; clear hK K) | refine lwn ?_ | refine lr ?_ | refine la ?_
  | refine wn fun K hK => ?_
  | simp only [nops, nop, lops, lop, slimG, List.map_cons, List.map_nil, List.filterMap_cons, List.filterMap_nil, Option.map_none, Option.map_some, List.getElem?_toArray, List.getElem?_cons_zero, List.getElem?_cons_succ, Option.bind_some]
  | (refine wl Try.mx [(0,0),(1,0),(2,0),(3,0),(4,0),(6,0),(7,0),(8,0),(9,0),(10,0),(12,0),(13,0),(14,0),(15,0),(16,0),(17,0),(18,0),(19,0),(20,0),(21,0),(22,0),(23,0),(24,0),(25,0),(26,0),(27,0),(28,0),(29,0),(30,0),(31,0),(32,0),(33,0),(34,0),(35,0),(36,0),(37,0),(39,0),(40,0),(41,0),(42,0),(43,0),(45,0),(46,0),(47,0),(48,0),(49,0),(5,2),(11,2),(38,2),(44,2),(50,2),(51,0),(52,3)] (by decide +kernel) fun K hK => ?_)
  | refine wb ?_ | refine wr ?_ | refine wk ?_ | refine we ?_ | refine ws ?_ | refine wq ?_
  | ((refine wc rfl (fun hc => ?_) (fun hc => ?_)) <;> (try simp at hc) <;> (try omega))
  | ((refine ib (fun hc => ?_) (fun hc => ?_)) <;> (try omega) <;> (try simp (disch := omega) only [if_pos, if_neg])))
  refine callK (cloneU_call (vs 5) (M 5) _ ((his 5 (by omega)).le l1' hw) (hlen 5 (by omega))) ?_
  rintro v5 B2 ⟨q5', m5⟩ w5' _
  obtain ⟨ov5, cv5, rfl, _⟩ := q5'.is.form
  have l2' := l1'.trans m5
  have z2 := m5.keep w1' z1
  refine ⟨m5, ?_⟩
  repeat' (first
  | (refine lwc fun R hR => ?_; simp [wrap_i64, wrap_u64, AW.row_get, astore, z2, imgZ]; try simp (disch := omega) only [if_pos, if_neg, wrap_i64, wrap_u64])
  | (refine hR _ _ ?_; clear hR R) | (refine hK _ _ ?_; clear hK K) | refine lwn ?_ | refine lr ?_ | refine la ?_
  | refine wn fun K hK => ?_
  | simp only [nops, nop, lops, lop, slimG, List.map_cons, List.map_nil, List.filterMap_cons, List.filterMap_nil, Option.map_none, Option.map_some, List.getElem?_toArray, List.getElem?_cons_zero, List.getElem?_cons_succ, Option.bind_some]
  | (refine wl Try.mx [(0,0),(1,0),(2,0),(3,0),(4,0),(6,0),(7,0),(8,0),(9,0),(10,0),(12,0),(13,0),(14,0),(15,0),(16,0),(17,0),(18,0),(19,0),(20,0),(21,0),(22,0),(23,0),(24,0),(25,0),(26,0),(27,0),(28,0),(29,0),(30,0),(31,0),(32,0),(33,0),(34,0),(35,0),(36,0),(37,0),(39,0),(40,0),(41,0),(42,0),(43,0),(45,0),(46,0),(47,0),(48,0),(49,0),(5,2),(11,2),(38,2),(44,2),(50,2),(51,0),(52,3)] (by decide +kernel) fun K hK => ?_)
  | refine wb ?_ | refine wr ?_ | refine wk ?_ | refine we ?_ | refine ws ?_ | refine wq ?_
  | ((refine wc rfl (fun hc => ?_) (fun hc => ?_)) <;> (try simp at hc) <;> (try omega))
  | ((refine ib (fun hc => ?_) (fun hc => ?_)) <;> (try omega) <;> (try simp (disch := omega) only [if_pos, if_neg])))
  refine callK (cloneU_call (vs 6) (M 6) _ ((his 6 (by omega)).le l2' hw) (hlen 6 (by omega))) ?_
  rintro v6 B3 ⟨q6', m6⟩ w6' _
  obtain ⟨ov6, cv6, rfl, _⟩ := q6'.is.form
  have l3' := l2'.trans m6
  have z3 := m6.keep w5' z2
  refine ⟨m6, ?_⟩
  repeat' (first
  | (refine lwc fun R hR => ?_; simp [wrap_i64, wrap_u64, AW.row_get, astore, z3, imgZ]; try simp (disch := omega) only [if_pos, if_neg, wrap_i64, wrap_u64])
  | (refine hR _ _ ?_; clear hR R) | (refine hK _ _ ?_; clear hK K) | refine lwn ?_ | refine lr ?_ | refine la ?_
  | refine wn fun K hK => ?_
  | simp only [nops, nop, lops, lop, slimG, List.map_cons, List.map_nil, List.filterMap_cons, List.filterMap_nil, Option.map_none, Option.map_some, List.getElem?_toArray, List.getElem?_cons_zero, List.getElem?_cons_succ, Option.bind_some]
  | (refine wl Try.mx [(0,0),(1,0),(2,0),(3,0),(4,0),(6,0),(7,0),(8,0),(9,0),(10,0),(12,0),(13,0),(14,0),(15,0),(16,0),(17,0),(18,0),(19,0),(20,0),(21,0),(22,0),(23,0),(24,0),(25,0),(26,0),(27,0),(28,0),(29,0),(30,0),(31,0),(32,0),(33,0),(34,0),(35,0),(36,0),(37,0),(39,0),(40,0),(41,0),(42,0),(43,0),(45,0),(46,0),(47,0),(48,0),(49,0),(5,2),(11,2),(38,2),(44,2),(50,2),(51,0),(52,3)] (by decide +kernel) fun K hK => ?_)
  | refine wb ?_ | refine wr ?_ | refine wk ?_ | refine we ?_ | refine ws ?_ | refine wq ?_
  | ((refine wc rfl (fun hc => ?_) (fun hc => ?_)) <;> (try simp at hc) <;> (try omega))
  | ((refine ib (fun hc => ?_) (fun hc => ?_)) <;> (try omega) <;> (try simp (disch := omega) only [if_pos, if_neg])))
  refine callK (cloneU_call (vs 7) (M 7) _ ((his 7 (by omega)).le l3' hw) (hlen 7 (by omega))) ?_
  rintro v7 B4 ⟨q7', m7⟩ w7' _
  obtain ⟨ov7, cv7, rfl, _⟩ := q7'.is.form
  have l4' := l3'.trans m7
  have z4 := m7.keep w6' z3
  refine ⟨m7, ?_⟩
  repeat' (first
  | (refine lwc fun R hR => ?_; simp [wrap_i64, wrap_u64, AW.row_get, astore, z4, imgZ]; try simp (disch := omega) only [if_pos, if_neg, wrap_i64, wrap_u64])
  | (refine hR _ _ ?_; clear hR R) | (refine hK _ _ ?_; clear hK K) | refine lwn ?_ | refine lr ?_ | refine la ?_
  | refine wn fun K hK => ?_
  | simp only [nops, nop, lops, lop, slimG, List.map_cons, List.map_nil, List.filterMap_cons, List.filterMap_nil, Option.map_none, Option.map_some, List.getElem?_toArray, List.getElem?_cons_zero, List.getElem?_cons_succ, Option.bind_some]
  | (refine wl Try.mx [(0,0),(1,0),(2,0),(3,0),(4,0),(6,0),(7,0),(8,0),(9,0),(10,0),(12,0),(13,0),(14,0),(15,0),(16,0),(17,0),(18,0),(19,0),(20,0),(21,0),(22,0),(23,0),(24,0),(25,0),(26,0),(27,0),(28,0),(29,0),(30,0),(31,0),(32,0),(33,0),(34,0),(35,0),(36,0),(37,0),(39,0),(40,0),(41,0),(42,0),(43,0),(45,0),(46,0),(47,0),(48,0),(49,0),(5,2),(11,2),(38,2),(44,2),(50,2),(51,0),(52,3)] (by decide +kernel) fun K hK => ?_)
  | refine wb ?_ | refine wr ?_ | refine wk ?_ | refine we ?_ | refine ws ?_ | refine wq ?_
  | ((refine wc rfl (fun hc => ?_) (fun hc => ?_)) <;> (try simp at hc) <;> (try omega))
  | ((refine ib (fun hc => ?_) (fun hc => ?_)) <;> (try omega) <;> (try simp (disch := omega) only [if_pos, if_neg])))
  have gd : ∀ (l : List Int) (h : 0 < l.length), l[0] = l.getD 0 0 := fun l hl => by
    rw [List.getD_eq_getElem?_getD, List.getElem?_eq_getElem hl]; rfl
  have hB : A.next + 1 ≤ B0.next ∧ B0.next ≤ B1.next ∧ B1.next ≤ B2.next ∧ B2.next ≤ B3.next ∧ B3.next ≤ B4.next := ⟨m0.next, m1.next, m5.next, m6.next, m7.next⟩
  have keep : ∀ {v : Value} {l : List Int} {n : Nat} (x : AObj), A.next < n → OwnInts n B4 .u64 v l → IsInts (B4.set A.next (some x)) .u64 v l := by
    intro v l n x hn ho
    rcases ho with ⟨e1, e2, e3⟩ | ⟨p, c, row, e1, e2, e3, e4, e5, e6, e7⟩
    · exact .inl ⟨⟨none, e1⟩, e2, e3⟩
    · exact .inr ⟨p, c, row, true, 1, e1, e2, by rw [AW.set_get_ne (by omega)]; exact e5, rfl, e6, e7⟩
  refine ⟨_, by first | (simp [AW.get_set, AW.row_get]; done) | (simp [AW.get_set, AW.row_get]; rfl), ⟨.slice ov0 (M 0).length cv0, .slice ov1 (M 1).length cv1, .slice ov5 (M 5).length cv5, .slice ov6 (M 6).length cv6, .slice ov7 (M 7).length cv7, ?_, ?_, ?_, ?_, ?_, ?_⟩, ?_⟩
  · rw [gd _ h2, gd _ h3, gd _ h4]
  · exact keep _ (by simp) ((((q0'.le m1 w0').le m5 w1').le m6 w5').le m7 w6')
  · exact keep _ (by omega) (((q1'.le m5 w1').le m6 w5').le m7 w6')
  · exact keep _ (by omega) ((q5'.le m6 w5').le m7 w6')
  · exact keep _ (by omega) (q6'.le m7 w6')
  · exact keep _ (by omega) q7'
  · exact l4'.set (Nat.le_refl _) _

end Go.Stx
