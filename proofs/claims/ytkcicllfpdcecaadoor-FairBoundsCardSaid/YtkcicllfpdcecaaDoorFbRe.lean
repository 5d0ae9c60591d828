/-
  The program's Longest: the body of its loop.
-/
import Derived.Test.YtkcicllfpdcecaaDoorFbRd
namespace Go.Stx
open Go Go.Proofs
def oFbRe_0 : List (Nat × Nat) := [(0, 0), (1, 0), (2, 0), (3, 0), (4, 0), (5, 0), (6, 0), (7, 0), (8, 0), (9, 0), (10, 0), (11, 0), (12, 0), (13, 3)]
attribute [local irreducible] BWP AWP LWalk ACall ARounds lops nops
set_option linter.unusedVariables false
set_option linter.unusedSimpArgs false
set_option linter.unusedSectionVars false
set_option maxRecDepth 20000
variable [Gl]

def stepRow (p : List InsV) (row : List Int) (k : Nat) : List Int := row.set k ((progAfter p k).foldl (fun m t => max m (row.getD t 0 + 1)) (row.getD k 0))
theorem stepRow_length (p : List InsV) (row : List Int) (k : Nat) : (stepRow p row k).length = row.length := by simp [stepRow]

/-- The code of the loop's body. -/
def isBody (c : Code) : Option Code := match c with
  | .rangeFunc _ _ _ b => some b
  | .seq a b => (isBody a).or (isBody b)
  | .block _ b => isBody b
  | .cond _ a b => (isBody a).or (isBody b)
  | _ => none
noncomputable def lbody : Code := ((Tryd.f28.body.bind isBody).getD .skip)

set_option maxHeartbeats 4000000 in
theorem body_bwp (r : Option Nat) (hF : FOK) (v : Value) (p : List InsV) (M : AW) (hw : M.Wf) (b0 b1 b2 : Nat) (R : List Int) (k : Nat) (fr : Fr) (h : IsIns M v p) (hv : progOk p = true) (hk : k < p.length)
    (hR : R.length = p.length + 1) (hRb : ∀ x ∈ R, 0 ≤ x ∧ x ≤ 64) (g0 : M.get b0 = some (.cells [v] false 1)) (g1 : M.get b1 = some (.cells (R.map (Value.int .i64)) true 1)) (g2 : M.get b2 = some (.cells [.slice (some ⟨b1, 0, none⟩) (p.length + 1) (p.length + 1)] false 1))
    (f1 : fr 1 = .pointer (some ⟨b0, 0, none⟩)) (f3 : fr 3 = .pointer (some ⟨b2, 0, none⟩)) (f4 : fr 4 = .int .i64 k) :
    BWP r Tryd.prog Tryd.f28.ntmps lbody (fun e _ A' => e = .normal ∧ A'.get b1 = some (.cells ((stepRow p R k).map (Value.int .i64)) true 1)) fr M := by
  have hl : p.length ≤ 64 := (progCheck_ok (p := p) (by simpa [progOk] using hv)).1
  have hn0 : b0 ≠ b1 := fun e => by rw [e, g1] at g0; simp at g0
  have hn2 : b2 ≠ b1 := fun e => by rw [e, g1] at g2; simp at g2
  have cN := after_call v p k M h hv hk
  have hnx := fun (t : Nat) (ht : t ∈ progAfter p k) => after_lt (p := p) (by simpa [progOk] using hv) ht
  obtain ⟨o, c, rfl, _⟩ := h.form
  -- as behind: refine acall_intro Tryd.func28 rfl
  show BWP r Tryd.prog _ (Code.block 1 (Code.seq _ _)) _ _ _
  unfold stepRow
  have hll : (progAfter p k).length ≤ 2 := by
    unfold progAfter
    split
    · split
      · simp
      · split
        · simp
        · split <;> simp
    · simp
  generalize progAfter p k = l at cN hnx hll ⊢
  repeat' (first
  | (refine lwc fun R hR => ?_; simp [wrap_i64, wrap_u64, f1, f3, f4, g0, g2, AW.row_get]; try simp (disch := omega) only [if_pos, if_neg, wrap_i64, wrap_u64])
  | (refine hR _ _ ?_; clear hR R) | (refine hK _ _ ?_; clear hK K) | refine lwn ?_ | refine lr ?_ | refine la ?_
  | refine bwn fun K hK => ?_
  | simp only [wS, oFbRe_0]
  | refine bwl Tryd.mx oFbRe_0 (by decide +kernel) fun K hK => ?_
  | (refine callK (cN) ?_; rintro _ _ ⟨rfl, rfl⟩ _ _)
  | refine bwb ?_ | refine bwr ?_ | refine bwk ?_ | refine bwe ?_ | refine ws ?_ | refine bwq ?_
  | (refine bwc rfl (fun hc => ?_) (fun hc => ?_) <;> (try simp at hc) <;> (try omega))
  | (refine ib (fun hc => ?_) (fun hc => ?_) <;> (try omega) <;> (try simp (disch := omega) only [if_pos, if_neg])))
  refine bwp_loop (fun n2 fr2 A' => ∃ i : Nat, n2 = l.length - i ∧ i ≤ l.length ∧ fr2 3 = .pointer (some ⟨b2, 0, none⟩) ∧ fr2 4 = .int .i64 k ∧ fr2 20 = .slice (some ⟨M.next, 0, none⟩) l.length l.length ∧ fr2 21 = .int .i64 l.length ∧ fr2 22 = .int .i64 i ∧ A'.Wf ∧
    A'.get b2 = some (.cells [.slice (some ⟨b1, 0, none⟩) (p.length + 1) (p.length + 1)] false 1) ∧ A'.get b1 = some (.cells ((R.set k ((l.take i).foldl (fun m t => max m (R.getD t 0 + 1)) (R.getD k 0))).map (Value.int .i64)) true 1) ∧
    A'.get M.next = some (.cells (l.map fun t => .int .i64 (t : Nat)) true 1)) l.length ?_ ?_
  · have e1 : ¬ b1 = M.next := by have := hw.lt g1; omega
    have e2 : ¬ b2 = M.next := by have := hw.lt g2; omega
    refine ⟨0, rfl, Nat.zero_le _, ?_, ?_, ?_, ?_, ?_, hw.alloc _, ?_, ?_, ?_⟩
    iterate 5 simp [f3, f4]
    · simp [AW.get_alloc, e2, g2]
    · have e3 : R.set k (R.getD k 0) = R := by
        rw [List.getD_eq_getElem?_getD, List.getElem?_eq_getElem (by omega)]
        simp
      rw [List.take_zero, List.foldl_nil, e3]
      simp [AW.get_alloc, e1, g1]
    · simp
  · rintro n2 fr2 A' ⟨i, rfl, hi, j3, j4, j20, j21, j22, hw', k2, k1, kL⟩
    have r1 := AW.row_of k1
    have r2 := AW.row_of k2
    have rL := AW.row_of kL
    by_cases hil : i < l.length
    · have hli : l[i]? = some l[i] := List.getElem?_eq_getElem hil
      obtain ⟨ht1, ht2⟩ := hnx _ (List.getElem_mem hil)
      have htk : l.take (i + 1) = l.take i ++ [l[i]] := by rw [List.take_add_one, hli]; rfl
      have hcL : (l.map fun t => Value.int .i64 (t : Nat))[i]? = some (.int .i64 (l[i] : Nat)) := by rw [List.getElem?_map, hli]; rfl
      have hfold : (l.take (i + 1)).foldl (fun m t => max m (R.getD t 0 + 1)) (R.getD k 0) = max ((l.take i).foldl (fun m t => max m (R.getD t 0 + 1)) (R.getD k 0)) (R.getD l[i] 0 + 1) := by rw [htk, List.foldl_append]; rfl
      have hes := fun y => astore_int (P := Tryd.prog) (t := 3) (b := b1) (off := k) y Tryd.info3 rfl k1 (by rw [List.length_set]; omega)
      have hes1 := hes ((l.take (i + 1)).foldl (fun m t => max m (R.getD t 0 + 1)) (R.getD k 0))
      rw [List.set_set] at hes1
      generalize hm : (l.take i).foldl (fun m t => max m (R.getD t 0 + 1)) (R.getD k 0) = m at k1 r1 hfold
      have hcK : ((R.set k m).map (Value.int .i64))[k]? = some (.int .i64 m) := map_get (by rw [List.getElem?_set, if_pos rfl, if_pos (by omega)])
      obtain ⟨x, hx⟩ : ∃ x, R[l[i]]? = some x := ⟨_, List.getElem?_eq_getElem (show l[i] < R.length by omega)⟩
      have hgx : R.getD l[i] 0 = x := by rw [List.getD_eq_getElem?_getD, hx]; rfl
      have hcT : ((R.set k m).map (Value.int .i64))[l[i]]? = some (.int .i64 x) := map_get (by rw [List.getElem?_set, if_neg (by omega), hx])
      have hxb := hRb _ (List.mem_of_getElem? hx)
      rw [hgx] at hfold
      have hlenB : ((R.set k m).map (Value.int .i64)).length = p.length + 1 := by rw [List.length_map, List.length_set, hR]
      have hlenL : (l.map fun t => Value.int .i64 (t : Nat)).length = l.length := List.length_map ..
      have hne : ¬ M.next = b1 := fun e => by have := hw.lt g1; omega
      have hne2 : ¬ b1 = M.next := fun e => hne e.symm
      have hb1 := hw'.lt k1
      generalize hF : (l.take (i + 1)).foldl (fun m t => max m (R.getD t 0 + 1)) (R.getD k 0) = F at hes1 hfold
      have hmx : max m (x + 1) = if m < x + 1 then x + 1 else m := by rw [Int.max_def]; split <;> split <;> omega
      rw [hmx] at hfold
      rw [hfold] at hes1
      clear hgx hx
      generalize hTd : l[i] = t at hcL hcT ht1 ht2
      generalize (R.set k m).map (Value.int .i64) = RB at r1 hcK hcT hlenB
      generalize (l.map fun t => Value.int .i64 (t : Nat)) = RL at rL hcL hlenL kL ⊢
      have gL : ∀ h : i < RL.length, RL[i]'h = .int .i64 (t : Nat) := fun h => (List.getElem?_eq_some_iff.1 hcL).2
      have gK : ∀ h : k < RB.length, RB[k]'h = .int .i64 m := fun h => (List.getElem?_eq_some_iff.1 hcK).2
      have gT : ∀ h : t < RB.length, RB[t]'h = .int .i64 x := fun h => (List.getElem?_eq_some_iff.1 hcT).2
      have hwx : IntKind.i64.wrap (x + 1) = x + 1 := wrap_i64 (by omega) (by omega)
      have hwi : IntKind.i64.wrap ((i : Int) + 1) = ((i + 1 : Nat) : Int) := wrap_i64 (by omega) (by omega)
      have htn : t < p.length + 1 := by omega
      have hkn : k < p.length + 1 := by omega
      have hst2 : l.length - i = (l.length - (i + 1)) + 1 := by omega
      refine bwp_seq ?_
      repeat' (first
      | (refine lwc fun R hR => ?_; simp [wrap_i64, wrap_u64, j3, j4, j20, j21, j22, hil, r1, r2, rL, hcL, hcK, hcT, gL, gK, gT, hlenB, hlenL, hwx, hwi, ht2, htn, hkn, hes1]; try simp (disch := omega) only [if_pos, if_neg, wrap_i64, wrap_u64])
      | (refine hR _ _ ?_; clear hR R) | (refine hK _ _ ?_; clear hK K) | refine lwn ?_ | refine lr ?_ | refine la ?_
      | refine bwn fun K hK => ?_
      | simp only [wS, oFbRe_0]
      | refine bwl Tryd.mx oFbRe_0 (by decide +kernel) fun K hK => ?_
      | refine bwb ?_ | refine bwr ?_ | refine bwk ?_ | refine bwe ?_ | refine ws ?_ | refine bwq ?_
      | (refine bwc rfl (fun hc => ?_) (fun hc => ?_) <;> (try simp at hc) <;> (try omega))
      | (refine ib (fun hc => ?_) (fun hc => ?_) <;> (try omega) <;> (try simp (disch := omega) only [if_pos, if_neg])))
      refine ⟨l.length - (i + 1), by omega, i + 1, rfl, by omega, ?_, ?_, ?_, ?_, ?_, hw'.set _ hb1, ?_, ?_, ?_⟩
      iterate 5 simp [j3, j4, j20, j21, j22]
      · rw [AW.set_get_ne hn2]; exact k2
      · rw [hF, hfold, List.map_set]; exact AW.set_get_same
      · rw [AW.set_get_ne hne]; exact kL
    · have hie : i = l.length := by omega
      subst hie
      rw [List.take_length] at k1
      refine bwp_seq ?_
      repeat' (first
      | (refine lwc fun R hR => ?_; simp [wrap_i64, wrap_u64, j3, j4, j20, j21, j22, hil]; try simp (disch := omega) only [if_pos, if_neg, wrap_i64, wrap_u64])
      | (refine hR _ _ ?_; clear hR R) | (refine hK _ _ ?_; clear hK K) | refine lwn ?_ | refine lr ?_ | refine la ?_
      | refine bwn fun K hK => ?_
      | simp only [wS, oFbRe_0]
      | refine bwl Tryd.mx oFbRe_0 (by decide +kernel) fun K hK => ?_
      | refine bwb ?_ | refine bwr ?_ | refine bwk ?_ | refine bwe ?_ | refine ws ?_ | refine bwq ?_
      | (refine bwc rfl (fun hc => ?_) (fun hc => ?_) <;> (try simp at hc) <;> (try omega))
      | (refine ib (fun hc => ?_) (fun hc => ?_) <;> (try omega) <;> (try simp (disch := omega) only [if_pos, if_neg])))
      exact ⟨rfl, k1⟩
end Go.Stx
