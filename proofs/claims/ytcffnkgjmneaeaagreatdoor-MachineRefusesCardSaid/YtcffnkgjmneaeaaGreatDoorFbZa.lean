/-
  Appending values of one cell; slices of programs that a call has made.
-/
import Derived.Test.YtcffnkgjmneaeaaGreatDoorFbX
import Derived.Test.YtcffnkgjmneaeaaGreatDoorFbR
namespace Go.Stx
open Go Go.Proofs
attribute [local irreducible] AWP LWalk ACall ARounds lops nops
set_option linter.unusedVariables false
set_option linter.unusedSimpArgs false
set_option linter.unusedSectionVars false
set_option maxRecDepth 20000
variable [Gl]

theorem app_one {P : Program} {t e : TypeId} {i : TypeInfo} {z : Value} {A : AW} {B : Nat} {v : Value} {n : Nat} {cs : List Value} (x : Value) (hu : P.underlying t = some (.slice e)) (hi : P.info? e = some i) (hz : i.zero = some z) (hs : i.size = 1) (hzs : z.cells.size = 1) (hby : i.bytes ≤ 24)
    (hx : x.oneCell' = true) (hown : OwnSl B A 1 v n cs) (hn : n < 2 ^ 30) (hB : B ≤ A.next) (hw : A.Wf) :
    ∃ v' A', aappend P (A.alloc (.cells [x] true 1)) t t v (.slice (some ⟨A.next, 0, none⟩) 1 1) = some (v', A') ∧ OwnSl B A' 1 v' (n + 1) (cs ++ [x]) ∧ AppK B A A' v v' := by
  have hown' := OwnSl.le (AW.le.alloc A (.cells [x] true 1)) hw hown
  have hnews : appNews (A.alloc (.cells [x] true 1)) 1 (.slice (some ⟨A.next, 0, none⟩) 1 1) = some (1, [x]) := by
    simp [appNews, AW.row]
  have hb : (n + 1) * i.bytes ≤ 140737488355328 := by
    have := Nat.mul_le_mul_left (n + 1) hby
    omega
  obtain ⟨v', A', h1, h2, h3, h4, h5, h6, h7⟩ := aappend_own (P := P) (size := 1) (t := t) hu hi hz hs hzs (by omega) hown' hnews (by rw [List.all_cons, hx]; rfl) (by omega) hb (by rw [AW.alloc_next]; omega) (hw.alloc _)
  refine ⟨v', A', h1, h2, fun A0 ha hl => h3 A0 ha (hl.trans (AW.le.alloc A _)), h4, by rw [AW.alloc_next] at h5; omega, fun j hj hne => ?_, fun j hj => ?_⟩
  · rw [h6 j (by simp; omega) hne, AW.alloc_get_old _ _ (by omega)]
  · rcases h7 with rfl | h7
    · exact .inl hj
    · rw [h7] at hj
      injection hj with hj
      simp at hj
      exact .inr (by omega)

/-- A slice of programs, all our own. -/
structure PS (B : Nat) (A : AW) (vp : Value) (us : List Value) (ps : List (List InsV)) : Prop where
  own : OwnSl B A 1 vp us.length us
  len : us.length = ps.length
  el : ∀ i (hi : i < ps.length), ∃ u, us[i]? = some u ∧ OwnSl B A 5 u ps[i].length (ps[i].flatMap insCells) ∧ ∀ j, slBlock vp = some j → slBlock u ≠ some j

theorem OwnSl.low {B C : Nat} (hc : C ≤ B) {A : AW} {size : Nat} {v : Value} {n : Nat} {cs : List Value} (h : OwnSl B A size v n cs) : OwnSl C A size v n cs := by
  rcases h with h | ⟨p, c, row, h1, h2, hs, h3, h4, h5⟩
  · exact .inl h
  · exact .inr ⟨p, c, row, h1, h2, hs, by omega, h4, h5⟩
theorem PS.le {B : Nat} {A A' : AW} {vp : Value} {us : List Value} {ps : List (List InsV)} (h : PS B A vp us ps) (hl : A.le A') (hw : A.Wf) : PS B A' vp us ps :=
  ⟨h.own.le hl hw, h.len, fun i hi => let ⟨u, h1, h2, h3⟩ := h.el i hi; ⟨u, h1, h2.le hl hw, h3⟩⟩
theorem PS.other {B : Nat} {A A' : AW} {vp : Value} {us : List Value} {ps : List (List InsV)} (h : PS B A vp us ps) (he : ∀ j, B ≤ j → j < A.next → A'.get j = A.get j) (hw : A.Wf) : PS B A' vp us ps :=
  ⟨h.own.other fun j hj => he j (h.own.lt hw hj).1 (h.own.lt hw hj).2, h.len, fun i hi => let ⟨u, h1, h2, h3⟩ := h.el i hi; ⟨u, h1, h2.other fun j hj => he j (h2.lt hw hj).1 (h2.lt hw hj).2, h3⟩⟩
theorem PS.nil (B : Nat) (A : AW) : PS B A (.slice none 0 0) [] [] := ⟨OwnSl.nil _ _ _, rfl, fun i hi => by simp at hi⟩
theorem OwnSl.one {B : Nat} {A : AW} {size : Nat} {v : Value} {n : Nat} {cs : List Value} (h : OwnSl B A size v n cs) : v.oneCell' = true := by
  rcases h with ⟨rfl, _⟩ | ⟨p, c, row, rfl, _⟩ <;> rfl
theorem PS.progs {B : Nat} {A : AW} {vp : Value} {us : List Value} {ps : List (List InsV)} (h : PS B A vp us ps) : IsProgs A vp ps := by
  refine ⟨us, ?_, fun i hi => ?_⟩
  · rw [← h.len]; exact h.own.is
  · obtain ⟨u, h1, h2, h3⟩ := h.el i hi
    exact ⟨u, h1, h2.is⟩

theorem PS.add {B : Nat} {A : AW} {vp : Value} {us : List Value} {ps : List (List InsV)} (h : PS B A vp us ps) {u : Value} {p : List InsV} (hu : OwnSl B A 5 u p.length (p.flatMap insCells)) (hne : ∀ j, slBlock vp = some j → slBlock u ≠ some j)
    (hn : us.length < 2 ^ 30) (hB : B ≤ A.next) (hw : A.Wf) :
    ∃ v' A', aappend Tryz.prog (A.alloc (.cells [u] true 1)) 39 39 vp (.slice (some ⟨A.next, 0, none⟩) 1 1) = some (v', A') ∧ PS B A' v' (us ++ [u]) (ps ++ [p]) ∧ AppK B A A' vp v' := by
  obtain ⟨v', A', e, h2, k⟩ := app_one (P := Tryz.prog) u Tryz.underlying39 Tryz.info25 Tryz.zero25 rfl rfl (by simp) hu.one h.own hn hB hw
  have hnew : ∀ {x : Value} {n cs}, OwnSl B A 5 x n cs → (∀ j, slBlock vp = some j → slBlock x ≠ some j) → OwnSl B A' 5 x n cs ∧ ∀ j, slBlock v' = some j → slBlock x ≠ some j := fun {x n cs} hx hd => by
    refine ⟨hx.other fun j hj => k.get j (hx.lt hw hj).2 fun e2 => hd j e2 hj, fun j hj hj' => ?_⟩
    rcases k.new j hj with e2 | e2
    · exact hd j e2 hj'
    · have := (hx.lt hw hj').2; omega
  refine ⟨v', A', e, ⟨by rw [List.length_append]; exact h2, by simp [h.len], fun i hi => ?_⟩, k⟩
  by_cases hlt : i < ps.length
  · obtain ⟨x, h3, h4, h5⟩ := h.el i hlt
    obtain ⟨h6, h7⟩ := hnew h4 h5
    refine ⟨x, ?_, ?_, h7⟩
    · rw [List.getElem?_append_left (by rw [h.len]; exact hlt), h3]
    · rw [List.getElem_append_left hlt]; exact h6
  · have hi2 : i = ps.length := by simp at hi; omega
    subst hi2
    obtain ⟨h6, h7⟩ := hnew hu hne
    refine ⟨u, ?_, ?_, h7⟩
    · rw [← h.len]; simp
    · simpa using h6
end Go.Stx
