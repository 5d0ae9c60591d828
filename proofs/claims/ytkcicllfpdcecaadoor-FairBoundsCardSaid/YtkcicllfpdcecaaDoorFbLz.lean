/-
  The statement FairBounds.
-/
import Derived.Test.YtkcicllfpdcecaaDoorFbLx
namespace Go.Stx
open Go Go.Proofs
attribute [local irreducible] AWP LWalk ACall ARounds lops nops
set_option linter.unusedVariables false
set_option linter.unusedSimpArgs false
set_option linter.unusedSectionVars false
set_option maxRecDepth 20000
variable [Gl]

set_option maxHeartbeats 4000000 in
theorem fairBounds_call (hF : FOK) (l0 l1 l2 l3 l4 : Int) (vl : Value) (ls : List (List Int)) (w : Int) (c : CfgS) (vp : Value) (ni ci : Nat) (oi okk : Option Addr) (nk ck : Nat) (ps : List (List InsV)) (strong : Bool) (A : AW) (hL : IsRows A vl ls) (hb0 : ls.length ≤ maxLen) (hp : IsProgs A vp ps) :
    ACall Tryd.prog 3 [.agg #[.int .i64 l0, .int .i64 l1, .int .i64 l2, .int .i64 l3, .int .i64 l4], vl, .int .i64 w, scV c (.slice oi ni ci) vp (.slice okk nk ck), .bool strong] A (fun u A' => u = .bool true) := by
  refine acall_intro Tryd.func3 rfl (by kernel_rfl) fun hw => ?_
  obtain ⟨op, cp, rfl, _⟩ := hp.form
  have hcS := fun B hB => bound_call hF c (.slice op ps.length cp) (.slice okk nk ck) ni ci oi okk nk ck ps w B hB
  have hcR := fun B hB => refBound_call hF.n c (.slice op ps.length cp) (.slice okk nk ck) ni ci oi okk nk ck ps w B hB
  generalize boundF c ni ps w = bf at hcS hcR
  obtain ⟨bf1, bf2⟩ := bf
  unfold boundV at hcS hcR
  have cA := fun B => awake31_call hF.n B
  obtain ⟨wds, ords, bas, c0, c1, c2, c3, rds, wrs, als, fre, clk, stg⟩ := c
  unfold scV scCells CfgS.cells at hcS hcR ⊢
  simp only [List.cons_append, List.nil_append] at hcS hcR ⊢
  repeat' (first
  | (refine lwc fun R hR => ?_; simp [wrap_i64, wrap_u64, AW.row_get, astore]; try simp (disch := omega) only [if_pos, if_neg, wrap_i64, wrap_u64])
  | (refine hR _ _ ?_; clear hR R) | (refine hK _ _ ?_; clear hK K) | refine lwn ?_ | refine lr ?_ | refine la ?_
  | refine wn fun K hK => ?_
  | simp only [wS]
  | refine wb ?_ | refine wr ?_ | refine wk ?_ | refine we ?_ | refine ws ?_ | refine wq ?_
  | (refine wc rfl (fun hc => ?_) (fun hc => ?_) <;> (try simp at hc) <;> (try omega))
  | (refine ib (fun hc => ?_) (fun hc => ?_) <;> (try omega) <;> (try simp (disch := omega) only [if_pos, if_neg])))
  refine (lawScript_call hF.n l0 l1 l2 l3 l4 vl ls _ (hL.keeps (Keeps.of_le ((AW.le.alloc A _).trans (AW.le.alloc _ _)) hw)) hb0).mono ?_
  rintro u A3 ⟨b, c', oi', ni', ci', vp', ok', nk', ck', ps', hu, hp', hle3, hw3⟩
  subst hu
  have hwA := (hw.alloc (.cells [.int .i64 l0, .int .i64 l1, .int .i64 l2, .int .i64 l3, .int .i64 l4] true 1)).alloc (.cells [.int .i64 wds, .int .i64 ords, .int .i64 bas, .int .i64 c0, .int .i64 c1, .int .i64 c2, .int .i64 c3, .int .i64 rds, .int .i64 wrs, .int .i64 als, .int .i64 fre, .int .i64 clk, .bool stg, .slice oi ni ci, .slice op ps.length cp, .slice okk nk ck] true 1)
  have hbS := hle3.keep hwA (i := A.next + 1) (o := .cells [.int .i64 wds, .int .i64 ords, .int .i64 bas, .int .i64 c0, .int .i64 c1, .int .i64 c2, .int .i64 c3, .int .i64 rds, .int .i64 wrs, .int .i64 als, .int .i64 fre, .int .i64 clk, .bool stg, .slice oi ni ci, .slice op ps.length cp, .slice okk nk ck] true 1) (by simp)
  have hp3 := hp.le (((AW.le.alloc A _).trans (AW.le.alloc _ _)).trans hle3) hw
  clear hle3 hwA
  have hlt3 := hw3.lt hbS
  have hne : ¬ A3.next = A.next + 1 := by omega
  have hne2 : ¬ A.next + 1 = A3.next := by omega
  obtain ⟨op', cp', hvp', _⟩ := hp'.form
  subst hvp'
  obtain ⟨wv, hwv⟩ : ∃ wv, placeF w 1010 = wv := ⟨_, rfl⟩
  have cP := fun B => place_call w 1010 B (by omega) (by omega)
  rw [hwv] at cP
  obtain ⟨d0, d1, d2, d3, d4, d5, d6, d7, d8, d9, d10, d11, d12⟩ := c'
  unfold scV scCells CfgS.cells
  simp only [List.cons_append, List.nil_append]
  have hle := fun O O' O'' => (AW.le.upd A3 O O').set (Nat.le_refl _) O''
  have gS := fun O O' O'' => bound_call hF ⟨d0, d1, d2, d3, d4, d5, d6, d7, d8, d9, d10, d11, strong⟩ (.slice op' ps'.length cp') (.slice ok' nk' ck') ni' ci' oi' ok' nk' ck' ps' wv (((A3.alloc O).set A3.next O').set A3.next O'') (hp'.le (hle O O' O'') hw3)
  have gR := fun O O' O'' => refBound_call hF.n ⟨d0, d1, d2, d3, d4, d5, d6, d7, d8, d9, d10, d11, strong⟩ (.slice op' ps'.length cp') (.slice ok' nk' ck') ni' ci' oi' ok' nk' ck' ps' wv (((A3.alloc O).set A3.next O').set A3.next O'') (hp'.le (hle O O' O'') hw3)
  have kS := fun O O' O'' => hcS (((A3.alloc O).set A3.next O').set A3.next O'') (hp3.le (hle O O' O'') hw3)
  have kR := fun O O' O'' => hcR (((A3.alloc O).set A3.next O').set A3.next O'') (hp3.le (hle O O' O'') hw3)
  generalize boundF ⟨d0, d1, d2, d3, d4, d5, d6, d7, d8, d9, d10, d11, strong⟩ ni' ps' wv = bg at gS gR
  obtain ⟨bg1, bg2⟩ := bg
  unfold boundV scV scCells CfgS.cells at gS gR
  simp only [List.cons_append, List.nil_append] at gS gR
  clear hcS hcR
  cases b with
  | false =>
    repeat' (first
    | (refine lwc fun R hR => ?_; simp [wrap_i64, wrap_u64, hbS, hne, hne2, AW.row_get, astore]; try simp (disch := omega) only [if_pos, if_neg, wrap_i64, wrap_u64])
    | (refine hR _ _ ?_; clear hR R) | (refine hK _ _ ?_; clear hK K) | refine lwn ?_ | refine lr ?_ | refine la ?_
    | refine wn fun K hK => ?_
    | simp only [wS]
    | (refine callK (cA _) ?_; rintro _ _ ⟨rfl, rfl⟩ _ _)
    | refine wb ?_ | refine wr ?_ | refine wk ?_ | refine we ?_ | refine ws ?_ | refine wq ?_
    | (refine wc rfl (fun hc => ?_) (fun hc => ?_) <;> (try simp at hc) <;> (try omega))
    | (refine ib (fun hc => ?_) (fun hc => ?_) <;> (try omega) <;> (try simp (disch := omega) only [if_pos, if_neg])))
    all_goals simp [AThen, APost, ares, aresL, ares1]
  | true =>
    by_cases h20 : 20 < ps.length
    · repeat' (first
    | (refine lwc fun R hR => ?_; simp [wrap_i64, wrap_u64, hbS, hne, hne2, AW.row_get, astore, h20]; try simp (disch := omega) only [if_pos, if_neg, wrap_i64, wrap_u64])
    | (refine hR _ _ ?_; clear hR R) | (refine hK _ _ ?_; clear hK K) | refine lwn ?_ | refine lr ?_ | refine la ?_
    | refine wn fun K hK => ?_
    | simp only [wS]
    | (refine callK (cA _) ?_; rintro _ _ ⟨rfl, rfl⟩ _ _)
    | refine wb ?_ | refine wr ?_ | refine wk ?_ | refine we ?_ | refine ws ?_ | refine wq ?_
    | (refine wc rfl (fun hc => ?_) (fun hc => ?_) <;> (try simp at hc) <;> (try omega))
    | (refine ib (fun hc => ?_) (fun hc => ?_) <;> (try omega) <;> (try simp (disch := omega) only [if_pos, if_neg])))
      all_goals simp [AThen, APost, ares, aresL, ares1]
    by_cases h80 : 80 < ni
    · repeat' (first
    | (refine lwc fun R hR => ?_; simp [wrap_i64, wrap_u64, hbS, hne, hne2, AW.row_get, astore, h20, h80]; try simp (disch := omega) only [if_pos, if_neg, wrap_i64, wrap_u64])
    | (refine hR _ _ ?_; clear hR R) | (refine hK _ _ ?_; clear hK K) | refine lwn ?_ | refine lr ?_ | refine la ?_
    | refine wn fun K hK => ?_
    | simp only [wS]
    | (refine callK (cA _) ?_; rintro _ _ ⟨rfl, rfl⟩ _ _)
    | refine wb ?_ | refine wr ?_ | refine wk ?_ | refine we ?_ | refine ws ?_ | refine wq ?_
    | (refine wc rfl (fun hc => ?_) (fun hc => ?_) <;> (try simp at hc) <;> (try omega))
    | (refine ib (fun hc => ?_) (fun hc => ?_) <;> (try omega) <;> (try simp (disch := omega) only [if_pos, if_neg])))
      all_goals simp [AThen, APost, ares, aresL, ares1]
    repeat' (first
    | (refine lwc fun R hR => ?_; simp [wrap_i64, wrap_u64, hbS, hne, hne2, AW.row_get, astore, h20, h80]; try simp (disch := omega) only [if_pos, if_neg, wrap_i64, wrap_u64])
    | (refine hR _ _ ?_; clear hR R) | (refine hK _ _ ?_; clear hK K) | refine lwn ?_ | refine lr ?_ | refine la ?_
    | refine wn fun K hK => ?_
    | simp only [wS]
    | (refine callK (cA _) ?_; rintro _ _ ⟨rfl, rfl⟩ _ _)
    | (refine callK (cP _) ?_; rintro _ _ ⟨rfl, rfl⟩ _ _)
    | (refine callK (gS _ _ _) ?_; rintro _ _ ⟨rfl, rfl⟩ _ _)
    | (refine callK (gR _ _ _) ?_; rintro _ _ ⟨rfl, rfl⟩ _ _)
    | (refine callK (kS _ _ _) ?_; rintro _ _ ⟨rfl, rfl⟩ _ _)
    | (refine callK (kR _ _ _) ?_; rintro _ _ ⟨rfl, rfl⟩ _ _)
    | refine wb ?_ | refine wr ?_ | refine wk ?_ | refine we ?_ | refine ws ?_ | refine wq ?_
    | (refine wc rfl (fun hc => ?_) (fun hc => ?_) <;> (try simp at hc) <;> (try omega))
    | (refine ib (fun hc => ?_) (fun hc => ?_) <;> (try omega) <;> (try simp (disch := omega) only [if_pos, if_neg])))
    all_goals simp [AThen, APost, ares, aresL, ares1]
end Go.Stx
