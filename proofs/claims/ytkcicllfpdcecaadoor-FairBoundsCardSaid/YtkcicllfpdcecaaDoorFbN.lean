/-
  The document's longest path.
-/
import Derived.Test.YtkcicllfpdcecaaDoorFbM
namespace Go.Stx
open Go Go.Proofs
def oFbN_0 : List (Nat × Nat) := [(0, 0), (1, 0), (2, 0), (3, 0), (4, 0), (5, 0), (6, 0), (7, 0), (8, 0), (9, 0), (10, 0), (11, 0), (12, 0), (13, 0), (14, 0), (15, 0), (16, 0), (17, 0), (18, 0), (19, 0), (20, 3)]
attribute [local irreducible] AWP LWalk ACall ARounds lops nops
set_option linter.unusedVariables false
set_option linter.unusedSimpArgs false
set_option linter.unusedSectionVars false
set_option maxRecDepth 20000
variable [Gl]

def bestRow (p : List InsV) (d : Nat) : List Int := (List.range (p.length + 1)).map (bestT p d)
theorem bestRow_get {p : List InsV} {d j : Nat} (hj : j ≤ p.length) : (bestRow p d)[j]? = some (bestT p d j) := by
  unfold bestRow
  rw [List.getElem?_map, List.getElem?_range (by omega)]
  rfl
theorem bestRow_length (p : List InsV) (d : Nat) : (bestRow p d).length = p.length + 1 := by simp [bestRow]
def bestAcc (p : List InsV) (d : Nat) (l : List Nat) : Int := l.foldl (fun m t => max m (bestT p d t + 1)) (-1)
theorem bestAcc_snoc (p : List InsV) (d : Nat) (l : List Nat) (t : Nat) : bestAcc p d (l ++ [t]) = max (bestAcc p d l) (bestT p d t + 1) := by simp [bestAcc, List.foldl_append]

theorem bestT_pos {p : List InsV} (hv : progOk p = true) {d t : Nat} (hd : d ≤ p.length) (h1 : p.length - d ≤ t) (h2 : t ≤ p.length) : 0 ≤ bestT p d t ∧ bestT p d t ≤ d := by
  have hv' : (progCheck p).2 = 0 := by simpa [progOk] using hv
  refine ⟨by rw [(best_eq hv' d hd t h1 h2).1]; exact (best_eq hv' d hd t h1 h2).2, ?_⟩
  have key : ∀ d j, bestT p d j ≤ d := by
    intro d
    induction d with
    | zero => intro j; exact Int.le_refl 0
    | succ d ih =>
      intro j
      unfold bestT
      split
      · have fold : ∀ (l : List Nat) (a : Int), a ≤ ((d + 1 : Nat) : Int) → l.foldl (fun m t => if t ≤ p.length ∧ 0 ≤ bestT p d t then max m (bestT p d t + 1) else m) a ≤ ((d + 1 : Nat) : Int) := by
          intro l
          induction l with
          | nil => intro a ha; exact ha
          | cons t l ihl =>
            intro a ha
            rw [List.foldl_cons]
            apply ihl
            have := ih t
            split <;> omega
        exact fold _ _ (by omega)
      · have := ih j; omega
  exact key d t

theorem next_ok {p : List InsV} (hv : progOk p = true) {k t : Nat} (ht : t ∈ refNext p k) : k < t ∧ t ≤ p.length := by
  have hv' : (progCheck p).2 = 0 := by simpa [progOk] using hv
  rw [next_eq hv'] at ht
  exact after_lt hv' ht

theorem bestRow_succ {p : List InsV} (hv : progOk p = true) {d k : Nat} (hk : k + (d + 1) = p.length) : bestRow p (d + 1) = (bestRow p d).set k (bestAcc p d (refNext p k)) := by
  apply List.ext_getElem?
  intro j
  by_cases hj : j ≤ p.length
  · rw [bestRow_get hj, List.getElem?_set]
    unfold bestT
    by_cases e : j = k
    · subst e
      rw [if_pos (by omega), if_pos rfl, if_pos (by rw [bestRow_length]; omega)]
      unfold bestAcc
      rw [fold_eq (f := bestT p d) (g := bestT p d) (n := p.length) _ _ fun t ht => ?_]
      obtain ⟨h1, h2⟩ := next_ok hv ht
      exact ⟨h2, rfl, (bestT_pos hv (by omega) (by omega) h2).1⟩
    · rw [if_neg (by omega), if_neg (fun h => e h.symm), bestRow_get hj]
  · rw [List.getElem?_eq_none (by rw [bestRow_length]; omega), List.getElem?_eq_none (by rw [List.length_set, bestRow_length]; omega)]

theorem refNext_len (p : List InsV) (k : Nat) : (refNext p k).length ≤ 2 := by
  unfold refNext
  split
  · split
    · simp
    · split
      · simp
      · split <;> simp
  · simp

theorem azeros_int (n : Nat) : azeros [Value.int .i64 0] n = (List.replicate n (0 : Int)).map (Value.int .i64) := by
  induction n with
  | zero => rfl
  | succ n ih => simp [azeros, ih, List.replicate_succ]
theorem bestRow_zero (p : List InsV) : bestRow p 0 = List.replicate (p.length + 1) 0 := by
  apply List.ext_getElem?
  intro j
  by_cases hj : j ≤ p.length
  · rw [bestRow_get hj, List.getElem?_replicate_of_lt (by omega)]; rfl
  · rw [List.getElem?_eq_none (by rw [bestRow_length]; omega), List.getElem?_eq_none (by rw [List.length_replicate]; omega)]

theorem store_own {A0 A : AW} {b : Nat} {l : List Int} (y : Int) {off : Nat} (hget : A.get b = some (.cells (l.map (Value.int .i64)) true 1)) (ho : off < l.length) (hle : A0.le A) (hb : A0.next ≤ b) (hw : A.Wf) :
    ∃ A1, astore Tryd.prog A 3 ⟨b, off, none⟩ (.int .i64 y) = some A1 ∧ A1.get b = some (.cells ((l.set off y).map (Value.int .i64)) true 1) ∧ A0.le A1 ∧ A1.Wf ∧ (∀ i, i ≠ b → A1.get i = A.get i) ∧ A1.next = A.next :=
  ⟨_, astore_int (P := Tryd.prog) (t := 3) y Tryd.info3 rfl hget ho, AW.set_get_same, hle.set hb _, hw.set _ (hw.lt hget), fun i hi => AW.set_get_ne hi, rfl⟩

theorem map_get {l : List Int} {j : Nat} {x : Int} (h : l[j]? = some x) : (l.map (Value.int .i64))[j]? = some (.int .i64 x) := by rw [List.getElem?_map, h]; rfl

set_option maxHeartbeats 8000000 in
theorem greatest_call (v wv : Value) (p : List InsV) (A : AW) (h : IsIns A v p) (hv : progOk p = true) (hW : IsInts A .i64 wv (List.replicate p.length 1)) :
    ACall Tryd.prog 33 [v, .int .i64 0, .int .i64 p.length, wv] A (fun u A' => u = .int .i64 (longest p) ∧ A = A') := by
  refine ACall.gc0 (V := .int .i64 (longest p)) (by simp) (fun hw => ?_) (by kernel_rfl)
  refine acall_intro Tryd.func33 rfl (by kernel_rfl) fun _ => ?_
  have hl : p.length ≤ 64 := (progCheck_ok (p := p) (by simpa [progOk] using hv)).1
  have hlong : longest p = bestT p p.length 0 := (longest_eq (by simpa [progOk] using hv)).symm
  rw [hlong]
  obtain ⟨o, c, rfl, _⟩ := h.form
  obtain ⟨ow, cw, hwv, _⟩ := hW.form
  rw [List.length_replicate] at hwv
  subst hwv
  have hw1 : IntKind.i64.wrap ((p.length : Int) + 1) = ((p.length + 1 : Nat) : Int) := wrap_i64 (by omega) (by omega)
  have hb1 : ((p.length + 1 : Nat) : Int) ≤ 140737488355328 := by omega
  have hb2 : ((p.length + 1 : Nat) : Int) * 8 ≤ 140737488355328 := by omega
  repeat' (first
  | (refine lwc fun R hR => ?_; simp [wrap_i64, wrap_u64, hw1, hb1, hb2, azeros_int]; try simp (disch := omega) only [if_pos, if_neg, wrap_i64, wrap_u64])
  | (refine hR _ _ ?_; clear hR R) | (refine hK _ _ ?_; clear hK K) | refine lwn ?_ | refine lr ?_ | refine la ?_
  | refine wn fun K hK => ?_
  | simp only [wS, oFbN_0]
  | refine wl Tryd.mx oFbN_0 (by decide +kernel) fun K hK => ?_
  | refine wb ?_ | refine wr ?_ | refine wk ?_ | refine we ?_ | refine ws ?_ | refine wq ?_
  | (refine wc rfl (fun hc => ?_) (fun hc => ?_) <;> (try simp at hc) <;> (try omega))
  | (refine ib (fun hc => ?_) (fun hc => ?_) <;> (try omega) <;> (try simp (disch := omega) only [if_pos, if_neg])))
  refine awp_loop (fun k fr A' => ∃ d : Nat, k = p.length + 1 - d ∧ d ≤ p.length + 1 ∧ fr 0 = .slice o p.length c ∧ fr 1 = .int .i64 0 ∧ fr 2 = .int .i64 p.length ∧ fr 3 = .slice ow p.length cw ∧
    fr 9 = .slice (some ⟨A.next, 0, none⟩) (p.length + 1) (p.length + 1) ∧ fr 10 = .int .i64 ((p.length : Int) - d) ∧ A'.get A.next = some (.cells ((bestRow p (d - 1)).map (Value.int .i64)) true 1) ∧ A.le A' ∧ A'.Wf) (p.length + 1) ?_ ?_
  · refine ⟨0, rfl, by omega, rfl, rfl, rfl, rfl, ?_, ?_, ?_, ?_, ?_⟩
    · simp
    · simp
    · rw [Nat.zero_sub, bestRow_zero]; simp [List.replicate_succ]
    · exact AW.le.alloc A _
    · exact hw.alloc _
  · rintro k fr A' ⟨d, rfl, hd, g0, g1, g2, g3, g9, g10, hget, hle, hw'⟩
    have hlt : A.next < A'.next := hw'.lt hget
    by_cases d0 : d = 0
    · subst d0
      have e0 : (p.length : Int) - (0 : Nat) = (p.length : Int) := by omega
      rw [e0] at g10
      obtain ⟨A1, es1, hget1, hle1, hw1', -, hn1⟩ := store_own (-1) hget (show p.length < _ by rw [bestRow_length]; omega) hle (Nat.le_refl _) hw'
      obtain ⟨A2, es2, hget2, hle2, hw2', -, hn2⟩ := store_own 0 hget1 (show p.length < _ by rw [List.length_set, bestRow_length]; omega) hle1 (Nat.le_refl _) hw1'
      have hws : IntKind.i64.wrap ((p.length : Int) - 1) = (p.length : Int) - 1 := wrap_i64 (by omega) (by omega)
      refine awp_seq ?_
      repeat' (first
      | (refine lwc fun R hR => ?_; simp [wrap_i64, wrap_u64, g0, g1, g2, g3, g9, g10, es1, es2, hws]; try simp (disch := omega) only [if_pos, if_neg, wrap_i64, wrap_u64])
      | (refine hR _ _ ?_; clear hR R) | (refine hK _ _ ?_; clear hK K) | refine lwn ?_ | refine lr ?_ | refine la ?_
      | refine wn fun K hK => ?_
      | simp only [wS, oFbN_0]
      | refine wl Tryd.mx oFbN_0 (by decide +kernel) fun K hK => ?_
      | refine wb ?_ | refine wr ?_ | refine wk ?_ | refine we ?_ | refine ws ?_ | refine wq ?_
      | (refine wc rfl (fun hc => ?_) (fun hc => ?_) <;> (try simp at hc) <;> (try omega))
      | (refine ib (fun hc => ?_) (fun hc => ?_) <;> (try omega) <;> (try simp (disch := omega) only [if_pos, if_neg])))
      refine ⟨p.length + 1 - 1, by omega, 1, rfl, by omega, ?_, ?_, ?_, ?_, ?_, ?_, ?_, hle2, hw2'⟩
      iterate 6 simp [g0, g1, g2, g3, g9, g10]
      rw [hget2, List.set_set]
      congr 3
      rw [bestRow_zero]
      apply List.ext_getElem?
      intro j
      rw [List.getElem?_set]
      by_cases e : p.length = j
      · subst e
        rw [if_pos rfl, if_pos (by simp), List.getElem?_replicate_of_lt (by omega)]
      · rw [if_neg e]
    by_cases d1 : d = p.length + 1
    · subst d1
      have e0 : (p.length : Int) - ((p.length + 1 : Nat) : Int) = -1 := by omega
      rw [e0] at g10
      have hcR := map_get (bestRow_get (p := p) (d := p.length + 1 - 1) (Nat.zero_le _))
      have hrow := AW.row_of hget
      have hlen : ((bestRow p (p.length + 1 - 1)).map (Value.int .i64)).length = p.length + 1 := by rw [List.length_map, bestRow_length]
      rw [Nat.add_sub_cancel] at hcR hlen hrow
      generalize (bestRow p p.length).map (Value.int .i64) = R at hcR hlen hrow
      refine awp_seq ?_
      repeat' (first
      | (refine lwc fun R hR => ?_; simp [wrap_i64, wrap_u64, g0, g1, g2, g3, g9, g10, hrow, hlen, hcR]; try simp (disch := omega) only [if_pos, if_neg, wrap_i64, wrap_u64])
      | (refine hR _ _ ?_; clear hR R) | (refine hK _ _ ?_; clear hK K) | refine lwn ?_ | refine lr ?_ | refine la ?_
      | refine wn fun K hK => ?_
      | simp only [wS, oFbN_0]
      | refine wl Tryd.mx oFbN_0 (by decide +kernel) fun K hK => ?_
      | refine wb ?_ | refine wr ?_ | refine wk ?_ | refine we ?_ | refine ws ?_ | refine wq ?_
      | (refine wc rfl (fun hc => ?_) (fun hc => ?_) <;> (try simp at hc) <;> (try omega))
      | (refine ib (fun hc => ?_) (fun hc => ?_) <;> (try omega) <;> (try simp (disch := omega) only [if_pos, if_neg])))
      all_goals (simp [ABlock, AThen, APost, ares, aresL, ares1, hle] <;> exact (List.getElem?_eq_some_iff.1 hcR).2)
    obtain ⟨e, rfl⟩ : ∃ e, d = e + 1 := ⟨d - 1, by omega⟩
    rw [Nat.add_sub_cancel] at hget
    obtain ⟨kk, hkk⟩ : ∃ kk, p.length = kk + (e + 1) := ⟨p.length - (e + 1), by omega⟩
    have hk : kk < p.length := by omega
    have e0 : (p.length : Int) - ((e + 1 : Nat) : Int) = (kk : Int) := by omega
    rw [e0] at g10
    obtain ⟨A1, es1, hget1, hle1, hw1', -, hn1⟩ := store_own (-1) hget (show kk < _ by rw [bestRow_length]; omega) hle (Nat.le_refl _) hw'
    have cN := next_call _ p kk A1 (h.le hle1 hw) hv hk
    have hsucc := bestRow_succ hv hkk.symm
    have hnx := fun (t : Nat) (ht : t ∈ refNext p kk) => next_ok (p := p) hv ht
    have hll := refNext_len p kk
    generalize refNext p kk = l at cN hsucc hnx hll
    have hk1 : ¬ ((kk : Int) = p.length) := by omega
    have hk2 : ¬ ((p.length : Int) < kk) := by omega
    have hk3 : (0 : Int) ≤ kk := by omega
    have hws : IntKind.i64.wrap ((kk : Int) - 1) = (p.length : Int) - ((e + 1 + 1 : Nat) : Int) := by rw [wrap_i64 (by omega) (by omega)]; omega
    have hst : p.length + 1 - (e + 1) = (p.length + 1 - (e + 1 + 1)) + 1 := by omega
    refine awp_seq ?_
    repeat' (first
    | (refine lwc fun R hR => ?_; simp [wrap_i64, wrap_u64, g0, g1, g2, g3, g9, g10, es1, hk, hk1, hk2, hk3]; try simp (disch := omega) only [if_pos, if_neg, wrap_i64, wrap_u64])
    | (refine hR _ _ ?_; clear hR R) | (refine hK _ _ ?_; clear hK K) | refine lwn ?_ | refine lr ?_ | refine la ?_
    | refine wn fun K hK => ?_
    | simp only [wS, oFbN_0]
    | refine wl Tryd.mx oFbN_0 (by decide +kernel) fun K hK => ?_
    | (refine callK (cN) ?_; rintro _ _ ⟨rfl, rfl⟩ _ _)
    | refine wb ?_ | refine wr ?_ | refine wk ?_ | refine we ?_ | refine ws ?_ | refine wq ?_
    | (refine wc rfl (fun hc => ?_) (fun hc => ?_) <;> (try simp at hc) <;> (try omega))
    | (refine ib (fun hc => ?_) (fun hc => ?_) <;> (try omega) <;> (try simp (disch := omega) only [if_pos, if_neg])))
    refine awp_loop (fun k2 fr2 A2 => ∃ i : Nat, k2 = l.length - i ∧ i ≤ l.length ∧ fr2 0 = .slice o p.length c ∧ fr2 1 = .int .i64 0 ∧ fr2 2 = .int .i64 p.length ∧ fr2 3 = .slice ow p.length cw ∧
      fr2 9 = .slice (some ⟨A.next, 0, none⟩) (p.length + 1) (p.length + 1) ∧ fr2 10 = .int .i64 kk ∧ fr2 11 = .slice (some ⟨A1.next, 0, none⟩) l.length l.length ∧ fr2 12 = .int .i64 i ∧
      A2.get A.next = some (.cells (((bestRow p e).set kk (bestAcc p e (l.take i))).map (Value.int .i64)) true 1) ∧ A2.get A1.next = some (.cells (l.map fun t => .int .i64 (t : Nat)) true 1) ∧ A.le A2 ∧ A2.Wf) l.length ?_ ?_
    · have hne : ¬ A.next = A1.next := by omega
      refine ⟨0, rfl, Nat.zero_le _, ?_, ?_, ?_, ?_, ?_, ?_, ?_, ?_, ?_, ?_, ?_, ?_⟩
      iterate 8 simp [g0, g1, g2, g3, g9, g10]
      · simp [AW.get_alloc, hne]
        rw [hget1]
        simp [bestAcc]
      · simp
      · exact hle1.trans (AW.le.alloc A1 _)
      · exact hw1'.alloc _
    · rintro k2 fr2 A2 ⟨i, rfl, hi, f0, f1, f2, f3, f9, f10, f11, f12, hgB, hgL, hle2, hw2⟩
      have hrB := AW.row_of hgB
      have hrL := AW.row_of hgL
      by_cases hil : i < l.length
      · have hli : l[i]? = some l[i] := List.getElem?_eq_getElem hil
        obtain ⟨ht1, ht2⟩ := hnx _ (List.getElem_mem hil)
        have htk : l.take (i + 1) = l.take i ++ [l[i]] := by rw [List.take_add_one, hli]; rfl
        have hcL : (l.map fun t => Value.int .i64 (t : Nat))[i]? = some (.int .i64 (l[i] : Nat)) := by rw [List.getElem?_map, hli]; rfl
        have hcK : (((bestRow p e).set kk (bestAcc p e (l.take i))).map (Value.int .i64))[kk]? = some (.int .i64 (bestAcc p e (l.take i))) := map_get (by rw [List.getElem?_set, if_pos rfl, if_pos (by rw [bestRow_length]; omega)])
        have hcT : (((bestRow p e).set kk (bestAcc p e (l.take i))).map (Value.int .i64))[l[i]]? = some (.int .i64 (bestT p e l[i])) := map_get (by rw [List.getElem?_set, if_neg (by omega), bestRow_get ht2])
        obtain ⟨hb0, hb9⟩ := bestT_pos hv (d := e) (t := l[i]) (by omega) (by omega) ht2
        have hlenB : (((bestRow p e).set kk (bestAcc p e (l.take i))).map (Value.int .i64)).length = p.length + 1 := by rw [List.length_map, List.length_set, bestRow_length]
        have hlenL : (l.map fun t => Value.int .i64 (t : Nat)).length = l.length := List.length_map ..
        obtain ⟨A3, es3, hgB3, hle3, hw3, hoth3, hn3⟩ := store_own (bestAcc p e (l.take (i + 1))) hgB (show kk < _ by rw [List.length_set, bestRow_length]; omega) hle2 (Nat.le_refl _) hw2
        rw [List.set_set] at hgB3
        rw [htk, bestAcc_snoc] at es3
        obtain ⟨qw, roww, hqw, hroww, hcw⟩ := (hW.le hle2 hw).at (i := kk) (by rw [List.length_replicate]; exact hk)
        rw [List.getElem_replicate] at hcw
        subst hqw
        have hne : ¬ A1.next = A.next := by omega
        have hgL3 := (hoth3 A1.next hne).trans hgL
        generalize hTd : l[i] = t at hcL hcT hb0 hb9 ht1 ht2 es3
        generalize ((bestRow p e).set kk (bestAcc p e (l.take i))).map (Value.int .i64) = RB at hrB hcK hcT hlenB
        generalize (l.map fun t => Value.int .i64 (t : Nat)) = RL at hrL hcL hlenL hgL3 ⊢
        generalize bestT p e t = x at hcT hb0 hb9 es3
        generalize bestAcc p e (l.take i) = m at hcK es3
        have hmx : max m (x + 1) = if m < x + 1 then x + 1 else m := by rw [Int.max_def]; split <;> split <;> omega
        rw [hmx] at es3
        have gL : ∀ h : i < RL.length, RL[i]'h = .int .i64 (t : Nat) := fun h => (List.getElem?_eq_some_iff.1 hcL).2
        have gK : ∀ h : kk < RB.length, RB[kk]'h = .int .i64 m := fun h => (List.getElem?_eq_some_iff.1 hcK).2
        have gT : ∀ h : t < RB.length, RB[t]'h = .int .i64 x := fun h => (List.getElem?_eq_some_iff.1 hcT).2
        have hwx : IntKind.i64.wrap (x + 1) = x + 1 := wrap_i64 (by omega) (by omega)
        have hwi : IntKind.i64.wrap ((i : Int) + 1) = ((i + 1 : Nat) : Int) := wrap_i64 (by omega) (by omega)
        have htn : t < p.length + 1 := by omega
        have hkn : kk < p.length + 1 := by omega
        have hst2 : l.length - i = (l.length - (i + 1)) + 1 := by omega
        refine awp_seq ?_
        repeat' (first
        | (refine lwc fun R hR => ?_; simp [wrap_i64, wrap_u64, f0, f1, f2, f3, f9, f10, f11, f12, hil, hrB, hrL, hcL, hcK, hcT, gL, gK, gT, hlenB, hlenL, hroww, hcw, hwx, hwi, ht2, htn, hkn, hk, hb0, es3]; try simp (disch := omega) only [if_pos, if_neg, wrap_i64, wrap_u64])
        | (refine hR _ _ ?_; clear hR R) | (refine hK _ _ ?_; clear hK K) | refine lwn ?_ | refine lr ?_ | refine la ?_
        | refine wn fun K hK => ?_
        | simp only [wS, oFbN_0]
        | refine wl Tryd.mx oFbN_0 (by decide +kernel) fun K hK => ?_
        | refine wb ?_ | refine wr ?_ | refine wk ?_ | refine we ?_ | refine ws ?_ | refine wq ?_
        | (refine wc rfl (fun hc => ?_) (fun hc => ?_) <;> (try simp at hc) <;> (try omega))
        | (refine ib (fun hc => ?_) (fun hc => ?_) <;> (try omega) <;> (try simp (disch := omega) only [if_pos, if_neg])))
        refine ⟨l.length - (i + 1), by omega, i + 1, rfl, by omega, ?_, ?_, ?_, ?_, ?_, ?_, ?_, ?_, hgB3, hgL3, hle3, hw3⟩ <;> simp [f0, f1, f2, f3, f9, f10, f11, f12]
      · have hie : i = l.length := by omega
        subst hie
        rw [List.take_length, ← hsucc] at hgB
        refine awp_seq ?_
        repeat' (first
        | (refine lwc fun R hR => ?_; simp [wrap_i64, wrap_u64, f0, f1, f2, f3, f9, f10, f11, f12, hil, hws]; try simp (disch := omega) only [if_pos, if_neg, wrap_i64, wrap_u64])
        | (refine hR _ _ ?_; clear hR R) | (refine hK _ _ ?_; clear hK K) | refine lwn ?_ | refine lr ?_ | refine la ?_
        | refine wn fun K hK => ?_
        | simp only [wS, oFbN_0]
        | refine wl Tryd.mx oFbN_0 (by decide +kernel) fun K hK => ?_
        | refine wb ?_ | refine wr ?_ | refine wk ?_ | refine we ?_ | refine ws ?_ | refine wq ?_
        | (refine wc rfl (fun hc => ?_) (fun hc => ?_) <;> (try simp at hc) <;> (try omega))
        | (refine ib (fun hc => ?_) (fun hc => ?_) <;> (try omega) <;> (try simp (disch := omega) only [if_pos, if_neg])))
        refine ⟨p.length + 1 - (e + 1 + 1), by omega, e + 1 + 1, rfl, by omega, ?_, ?_, ?_, ?_, ?_, ?_, hgB, hle2, hw2⟩ <;> simp [f0, f1, f2, f3, f9, f10]
end Go.Stx
