/-
  Appending to and storing into slices that a call has made.
-/
import Derived.Test.YtcffnkgjmneaeaaGreatDoorFbH
import Derived.Test.YtcffnkgjmneaeaaGreatDoorFbW
namespace Go.Stx
open Go Go.Proofs
attribute [local irreducible] AWP LWalk ACall ARounds lops nops
set_option linter.unusedVariables false
set_option linter.unusedSimpArgs false
set_option linter.unusedSectionVars false
set_option maxRecDepth 20000
variable [Gl]

theorem OwnSl.other {B : Nat} {A A' : AW} {size : Nat} {v : Value} {n : Nat} {cs : List Value} (h : OwnSl B A size v n cs) (he : ∀ j, slBlock v = some j → A'.get j = A.get j) : OwnSl B A' size v n cs := by
  rcases h with h | ⟨p, c, row, rfl, h2, hs, h3, h4, h5⟩
  · exact .inl h
  · exact .inr ⟨p, c, row, rfl, h2, hs, h3, (he _ rfl).trans h4, h5⟩
theorem OwnSl.lt {B : Nat} {A : AW} {size : Nat} {v : Value} {n : Nat} {cs : List Value} (h : OwnSl B A size v n cs) (hw : A.Wf) {j : Nat} (hj : slBlock v = some j) : B ≤ j ∧ j < A.next := by
  rcases h with ⟨rfl, _⟩ | ⟨p, c, row, rfl, h2, hs, h3, h4, h5⟩
  · cases hj
  · injection hj with hj
    subst hj
    exact ⟨h3, hw.lt h4⟩

/-- What an append to a slice of our own keeps. -/
structure AppK (B : Nat) (A A' : AW) (v v' : Value) : Prop where
  le : ∀ A0 : AW, A0.next ≤ B → A0.le A → A0.le A'
  wf : A'.Wf
  next : A.next ≤ A'.next
  get : ∀ j, j < A.next → slBlock v ≠ some j → A'.get j = A.get j
  new : ∀ j, slBlock v' = some j → slBlock v = some j ∨ A.next ≤ j

theorem app_ins {A : AW} {B : Nat} {v : Value} {n : Nat} {cs : List Value} (x : InsV) (hown : OwnSl B A 5 v n cs) (hn : n < 2 ^ 30) (hB : B ≤ A.next) (hw : A.Wf) :
    ∃ v' A', aappend Tryz.prog (A.alloc (.cells (insCells x) true 5)) 25 25 v (.slice (some ⟨A.next, 0, none⟩) 1 1) = some (v', A') ∧ OwnSl B A' 5 v' (n + 1) (cs ++ insCells x) ∧ AppK B A A' v v' := by
  have hown' := OwnSl.le (AW.le.alloc A (.cells (insCells x) true 5)) hw hown
  have hnews : appNews (A.alloc (.cells (insCells x) true 5)) 5 (.slice (some ⟨A.next, 0, none⟩) 1 1) = some (1, insCells x) := by
    simp [appNews, AW.row, insCells]
  obtain ⟨v', A', h1, h2, h3, h4, h5, h6, h7⟩ := aappend_own (P := Tryz.prog) (size := 5) (t := 25) Tryz.underlying25 Tryz.info36 Tryz.zero36 rfl rfl (by omega) hown' hnews (by simp [insCells, Value.oneCell']) (by omega) (by show (n + 1) * 40 ≤ 140737488355328; omega) (by rw [AW.alloc_next]; omega) (hw.alloc _)
  refine ⟨v', A', h1, h2, fun A0 ha hl => h3 A0 ha (hl.trans (AW.le.alloc A _)), h4, by rw [AW.alloc_next] at h5; omega, fun j hj hne => ?_, fun j hj => ?_⟩
  · rw [h6 j (by simp; omega) hne, AW.alloc_get_old _ _ (by omega)]
  · rcases h7 with rfl | h7
    · exact .inl hj
    · rw [h7] at hj
      injection hj with hj
      simp at hj
      exact .inr (by omega)

theorem app_num {A : AW} {B : Nat} {v : Value} {l : List Int} (y : Int) (hown : OwnInts B A .i64 v l) (hn : l.length < 2 ^ 30) (hB : B ≤ A.next) (hw : A.Wf) :
    ∃ v' A', aappend Tryz.prog (A.alloc (.cells [.int .i64 y] true 1)) 40 40 v (.slice (some ⟨A.next, 0, none⟩) 1 1) = some (v', A') ∧ OwnInts B A' .i64 v' (l ++ [y]) ∧ AppK B A A' v v' := by
  have hown' := OwnSl.le (AW.le.alloc A (.cells [.int .i64 y] true 1)) hw hown
  have hnews : appNews (A.alloc (.cells [.int .i64 y] true 1)) 1 (.slice (some ⟨A.next, 0, none⟩) 1 1) = some (1, [.int .i64 y]) := by
    simp [appNews, AW.row]
  obtain ⟨v', A', h1, h2, h3, h4, h5, h6, h7⟩ := aappend_own (P := Tryz.prog) (size := 1) (t := 40) Tryz.underlying40 Tryz.info3 Tryz.zero3 rfl rfl (by omega) hown' hnews (by simp [Value.oneCell']) (by omega) (by show (l.length + 1) * 8 ≤ 140737488355328; omega) (by rw [AW.alloc_next]; omega) (hw.alloc _)
  refine ⟨v', A', h1, by unfold OwnInts; simpa using h2, fun A0 ha hl => h3 A0 ha (hl.trans (AW.le.alloc A _)), h4, by rw [AW.alloc_next] at h5; omega, fun j hj hne => ?_, fun j hj => ?_⟩
  · rw [h6 j (by simp; omega) hne, AW.alloc_get_old _ _ (by omega)]
  · rcases h7 with rfl | h7
    · exact .inl hj
    · rw [h7] at hj
      injection hj with hj
      simp at hj
      exact .inr (by omega)

theorem flat_length (l : List InsV) : (l.flatMap insCells).length = l.length * 5 := by
  induction l with
  | nil => rfl
  | cons x l ih => rw [List.flatMap_cons, List.length_append, ih]; simp [insCells]; omega
theorem flat_set (y : Int) : ∀ (l : List InsV) (j : Nat) (hj : j < l.length), (l.flatMap insCells).set (j * 5 + 4) (.int .i64 y) = (l.set j { l[j] with imm := y }).flatMap insCells
  | x :: l, 0, _ => by
    simp [insCells]
  | x :: l, j + 1, h => by
    have ih := flat_set y l j (by simpa using h)
    rw [List.flatMap_cons, List.set_cons_succ, List.flatMap_cons, List.getElem_cons_succ, ← ih]
    have e : (j + 1) * 5 + 4 = (insCells x).length + (j * 5 + 4) := by simp [insCells]; omega
    rw [e, List.set_append_right _ _ (by omega), Nat.add_sub_cancel_left]

/-- A store into the number of an instruction of our own. -/
theorem store_imm {A : AW} {B : Nat} {p : Addr} {c : Nat} {l : List InsV} (y : Int) {j : Nat} (hown : OwnSl B A 5 (.slice (some p) l.length c) l.length (l.flatMap insCells)) (hj : j < l.length) (hw : A.Wf) :
    ∃ A', astore Tryz.prog A 3 ⟨p.block, p.off + j * 5 + 4, none⟩ (.int .i64 y) = some A' ∧ OwnSl B A' 5 (.slice (some p) l.length c) l.length ((l.set j { l[j] with imm := y }).flatMap insCells) ∧ A'.Wf ∧ A'.next = A.next ∧ (∀ i, i ≠ p.block → A'.get i = A.get i) ∧ p.spot = none := by
  rcases hown with ⟨h, _⟩ | ⟨q, c', row, e, h2, hs, h3, h4, h5, h6⟩
  · cases h
  · injection e with e1 e2 e3
    injection e1 with e1
    subst e1
    refine ⟨A.set p.block (some (.cells (row.set (p.off + j * 5 + 4) (.int .i64 y)) true 5)), ?_, ?_, hw.set _ (hw.lt h4), rfl, fun i hi => AW.set_get_ne hi, hs⟩
    · have ho : p.off + j * 5 + 4 + 1 ≤ row.length := by omega
      simp [astore, h4, Tryz.info3, Value.oneCell', ho]
    · refine .inr ⟨p, c, row.set (p.off + j * 5 + 4) (.int .i64 y), rfl, by omega, hs, h3, AW.set_get_same, by simpa using h5, ?_⟩
      rw [← flat_set y l j hj, h6]
      rw [List.drop_set, if_neg (by omega), List.take_set, show p.off + j * 5 + 4 - p.off = j * 5 + 4 by omega]
end Go.Stx
