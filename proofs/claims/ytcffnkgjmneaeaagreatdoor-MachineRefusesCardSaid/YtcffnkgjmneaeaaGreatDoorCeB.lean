/-
  The cells of any valid configuration: made without fault.
-/
import Derived.Test.YtcffnkgjmneaeaaGreatDoorCeA
import Derived.Test.YtcffnkgjmneaeaaGreatDoorEvalF
namespace Go.Stx
open Go Go.Proofs
attribute [local irreducible] AWP LWalk ACall ARounds lops nops
set_option linter.unusedVariables false
set_option linter.unusedSimpArgs false
set_option linter.unusedSectionVars false
set_option maxRecDepth 20000
variable [Gl]

theorem clm_le {B : AW} : ∀ (l : List FD) (A : AW), B.le A → A.Wf → (∀ x ∈ l, B.next ≤ x.num ∧ x.num < A.next) → B.le (clm l A) ∧ (clm l A).Wf
  | [], A, h, hw, _ => ⟨h, hw⟩
  | x :: l, A, h, hw, hx => by
    rw [clm_cons]
    obtain ⟨h1, h2⟩ := hx x (by simp)
    exact clm_le l _ (h.set h1 _) (hw.set _ h2) fun y hy => hx y (by simp [hy])

theorem awp_genF {P : Program} {n : Nat} {c : Code} {Q : Exit → Fr → AW → Prop} {a : Fr} {A : AW} (J : Fr → Prop) (hJ : J a) (h : ∀ a, J a → AWP P n c Q a A) : AWP P n c Q a A := h a hJ

theorem news_nums {A : AW} {q : Addr} {n c : Nat} {zs : List Int} (h : IsInts A .u64 (.slice (some q) n c) zs) (hn : n = zs.length) : appNews A 1 (.slice (some q) n c) = some (n, zs.map (Value.int .u64)) := by
  subst hn
  rcases h with ⟨⟨o, h0⟩, h1, h2⟩ | ⟨p, c', row, own, u, e1, e2, e3, e4, e5, e6⟩
  · have hp : zs = [] := List.eq_nil_of_length_eq_zero h1
    subst hp
    simp [appNews]
  · injection e1 with e1 _ e7
    injection e1 with e1
    subst e1
    unfold appNews
    by_cases hz : zs.length = 0
    · have hp : zs = [] := List.eq_nil_of_length_eq_zero hz
      subst hp
      simp
    · simp [hz, AW.row_of e3]
      exact ⟨by omega, by rw [e6]; simp⟩

theorem cloneNums_call (q : Addr) (n c : Nat) (zs : List Int) (A : AW) (h : IsInts A .u64 (.slice (some q) n c) zs) (hn : n = zs.length) (h1 : 1 ≤ n) (hl : n ≤ 64) :
    ACall Tryz.prog 58 [.slice (some q) n c] A (fun u A' => u = .slice (some ⟨A.next + 1, 0, none⟩) n n ∧ A' = ((A.alloc (.cells [] true 1)).set A.next none).alloc (.cells (zs.map (Value.int .u64)) true 1)) := by
  refine acall_intro Tryz.func58 rfl (by kernel_rfl) fun hw => ?_
  have hnews := news_nums (IsSl.le (AW.le.alloc A (.cells [] true 1)) hw h) hn
  have hone : (zs.map (Value.int .u64)).all Value.oneCell' = true := by
    rw [List.all_eq_true]
    intro v hv
    obtain ⟨z, _, rfl⟩ := List.mem_map.1 hv
    rfl
  have e1 : aappend Tryz.prog (A.alloc (.cells [] true 1)) 38 38 (.slice (some ⟨A.next, 0, none⟩) 0 0) (.slice (some q) n c) = some (.slice (some ⟨A.next + 1, 0, none⟩) n n, ((A.alloc (.cells [] true 1)).set A.next none).alloc (.cells (zs.map (Value.int .u64)) true 1)) := by
    unfold aappend
    rw [Tryz.underlying38]
    simp only
    rw [Tryz.info59]
    simp only
    rw [Tryz.zero59]
    simp only
    rw [Tryz.size59, Tryz.bytes59, hnews]
    have ho : appOlds (A.alloc (.cells [] true 1)) 1 (.slice (some ⟨A.next, 0, none⟩) 0 0) = some (some ⟨A.next, 0, none⟩, 0, []) := by simp [appOlds]
    rw [ho]
    have hn0 : ¬ n = 0 := by omega
    rw [if_pos (by simp [Value.cells])]
    simp only
    rw [if_neg hn0, if_pos ⟨by omega, by omega, hone⟩]
    simp
  repeat' (first
  | (refine lwc fun R hR => ?_; simp [wrap_i64, wrap_u64, e1]; try simp (disch := omega) only [if_pos, if_neg, wrap_i64, wrap_u64])
  | (refine hR _ _ ?_; clear hR R) | (refine hK _ _ ?_; clear hK K) | refine lwn ?_ | refine lr ?_ | refine la ?_
  | refine wn fun K hK => ?_
  | simp only [wS]
  | refine wb ?_ | refine wr ?_ | refine wk ?_ | refine we ?_ | refine ws ?_ | refine wq ?_
  | (refine wc rfl (fun hc => ?_) (fun hc => ?_) <;> (try simp at hc) <;> (try omega))
  | (refine ib (fun hc => ?_) (fun hc => ?_) <;> (try omega) <;> (try simp (disch := omega) only [if_pos, if_neg])))
  simp

set_option maxHeartbeats 8000000 in
theorem cellsNew_call (c : CfgS) (he : cfgErr c = 0) (n : Nat) (hn1 : 1 ≤ n) (hn2 : n ≤ 16) (v : Value) (zs : List Int) (A : AW) (hv : IsInts A .u64 v zs) (hz : (zs.length : Int) = c.words) :
    ACall Tryz.prog 38 [c.v, .int .i64 n, v] A (fun u A' => ∃ b, u = .tuple #[.pointer (some ⟨b, 0, none⟩), .int .i64 0] ∧ A.le A' ∧ A'.Wf) := by
  refine acall_intro Tryz.func38 rfl (by kernel_rfl) fun hw => ?_
  obtain ⟨hwd, hor, hcnt, hnb64⟩ := cfg_ok he
  obtain ⟨nbn, hnb⟩ : ∃ m : Nat, c.nb = m := ⟨c.nb.toNat, by unfold CfgS.nb at *; unfold cntOk at hcnt; omega⟩
  obtain ⟨o, cc, rfl, _⟩ := hv.form
  have hzl : 1 ≤ zs.length ∧ zs.length ≤ 64 := by omega
  cases o with
  | none =>
    exfalso
    rcases hv with ⟨_, h1, _⟩ | ⟨q, c', row, own, u, e1, _⟩
    · omega
    · cases e1
  | some q =>
    have hc := fun B => cfgCheck_call c B
    have hL := fun B => lists_call c he nbn hnb B
    rw [he] at hc
    rw [hnb] at hnb64
    obtain ⟨wds, ords, bas, c0, c1, c2, c3, rds, wrs, als, fre, clk, stg⟩ := c
    simp only at hwd hor hz
    subst hz
    obtain ⟨on, rfl⟩ : ∃ m : Nat, ords = m := ⟨ords.toNat, by omega⟩
    simp only [CfgS.v, CfgS.cells] at hc hL ⊢
    have a1 : ¬ (n : Int) < 1 := by omega
    have a2 : ¬ 16 < (n : Int) := by omega
    repeat' (first
    | (refine lwc fun R hR => ?_; simp [wrap_i64, wrap_u64, AW.row_get, astore, a1, a2]; try simp (disch := omega) only [if_pos, if_neg, wrap_i64, wrap_u64])
    | (refine hR _ _ ?_; clear hR R) | (refine hK _ _ ?_; clear hK K) | refine lwn ?_ | refine lr ?_ | refine la ?_
    | refine wn fun K hK => ?_
    | simp only [wS]
    | (refine callK (hc _) ?_; rintro _ _ ⟨rfl, rfl⟩ _ _)
    | refine wb ?_ | refine wr ?_ | refine wk ?_ | refine we ?_ | refine ws ?_ | refine wq ?_
    | (refine wc rfl (fun hc => ?_) (fun hc => ?_) <;> (try simp at hc) <;> (try omega))
    | (refine ib (fun hc => ?_) (fun hc => ?_) <;> (try omega) <;> (try simp (disch := omega) only [if_pos, if_neg])))
    refine (hL _).mono ?_
    rintro u A1 ⟨b1, b2, rfl, hle1, hw1⟩
    first | refine ⟨hle1, ?_⟩ | skip
    have hb3 := hle1.keep (hw.alloc _) (i := A.next) (o := .cells [.int .i64 (zs.length : Int), .int .i64 (on : Int), .int .i64 bas, .int .i64 c0, .int .i64 c1, .int .i64 c2, .int .i64 c3, .int .i64 rds, .int .i64 wrs, .int .i64 als, .int .i64 fre, .int .i64 clk, .bool stg] true 1) (by simp)
    have hle := (AW.le.alloc A _).trans hle1
    repeat' (first
    | (refine lwc fun R hR => ?_; simp [wrap_i64, wrap_u64, hb3, AW.row_get, astore]; try simp (disch := omega) only [if_pos, if_neg, wrap_i64, wrap_u64])
    | (refine hR _ _ ?_; clear hR R) | (refine hK _ _ ?_; clear hK K) | refine lwn ?_ | refine lr ?_ | refine la ?_
    | refine wn fun K hK => ?_
    | simp only [wS]
    | refine wb ?_ | refine wr ?_ | refine wk ?_ | refine we ?_ | refine ws ?_ | refine wq ?_
    | (refine wc rfl (fun hc => ?_) (fun hc => ?_) <;> (try simp at hc) <;> (try omega))
    | (refine ib (fun hc => ?_) (fun hc => ?_) <;> (try omega) <;> (try simp (disch := omega) only [if_pos, if_neg])))
    have hlt := hle1.next
    simp only [AW.alloc_next] at hlt
    have hvB : IsInts (A1.bump 7) .u64 (.slice (some q) zs.length cc) zs := IsSl.le (B := A1.bump 7) (hle.trans ⟨by simp [AW.bump], fun i hi => rfl⟩) hw hv
    have hbB : (A1.bump 7).get A.next = some (.cells [.int .i64 (zs.length : Int), .int .i64 (on : Int), .int .i64 bas, .int .i64 c0, .int .i64 c1, .int .i64 c2, .int .i64 c3, .int .i64 rds, .int .i64 wrs, .int .i64 als, .int .i64 fre, .int .i64 clk, .bool stg] true 1) := hb3
    have hwB : (A1.bump 7).Wf := fun i hi => hw1 i (by simp [AW.bump] at hi; omega)
    have y0 : 0 ≤ (on : Int) := by omega
    have y1 : (on : Int) ≤ 140737488355328 := by omega
    have y2 : (on : Int) * 8 ≤ 140737488355328 := by omega
    have w0 : 0 ≤ (n : Int) := by omega
    have w1 : (n : Int) ≤ 140737488355328 := by omega
    have w2 : (n : Int) * 8 ≤ 140737488355328 := by omega
    obtain ⟨M1, hM1⟩ : ∃ M1, (((A1.bump 7).alloc (.cells [] true 1)).set (A1.bump 7).next none).alloc (.cells (zs.map (Value.int .u64)) true 1) = M1 := ⟨_, rfl⟩
    have hle7 : A1.le M1 := by
      rw [← hM1]
      refine ⟨by simp [AW.bump]; omega, fun i hi => ?_⟩
      have k1 : ¬ i = A1.next + 7 := by omega
      have k2 : ¬ i = A1.next + 7 + 1 := by omega
      simp [AW.get_alloc, AW.get_set, AW.bump, k1, k2]
    have hw7 : M1.Wf := by
      rw [← hM1]
      exact (((hwB.alloc _).set _ (by simp)).alloc _)
    have hn7 : M1.next = A1.next + 9 := by rw [← hM1]; simp [AW.bump]
    have hg7 : M1.get (A1.next + 7 + 1) = some (.cells (zs.map (Value.int .u64)) true 1) := by rw [← hM1]; simp [AW.bump]
    obtain ⟨v37, M2, e37, hle2, hw2, hn2'⟩ : ∃ v37 M2, aappendZ Tryz.prog M1 38 3 (.slice (some ⟨A1.next + 7 + 1, 0, none⟩) zs.length zs.length) (.int .i64 nbn) = some (v37, M2) ∧ A1.le M2 ∧ M2.Wf ∧ M1.next ≤ M2.next := by
      by_cases hz0 : nbn = 0
      · subst hz0
        refine ⟨.slice (some ⟨A1.next + 7 + 1, 0, none⟩) zs.length zs.length, M1, ?_, hle7, hw7, Nat.le_refl _⟩
        simp [aappendZ, appOlds, hg7]
        omega
      · refine ⟨.slice (some ⟨M1.next, 0, none⟩) (zs.length + nbn) (zs.length + nbn), (M1.set (A1.next + 7 + 1) none).alloc (.cells ((zs.map (Value.int .u64)).take zs.length ++ azeros [.int .u64 0] nbn) true 1), ?_, ?_, (hw7.set _ (by omega)).alloc _, by simp⟩
        · simp [aappendZ, appOlds, hg7, hz0]
          omega
        · refine (hle7.set (by omega) _).trans (AW.le.alloc _ _)
    refine awp_genF (fun fr => fr 1 = .int .i64 n ∧ fr 2 = .slice (some q) zs.length cc ∧ fr 3 = .pointer (some ⟨A.next, 0, none⟩) ∧ fr 9 = .slice (some ⟨b1, 0, none⟩) 4 4 ∧ fr 10 = .slice (some ⟨b2, 0, none⟩) nbn nbn) ⟨rfl, rfl, rfl, rfl, rfl⟩ ?_
    rintro fr ⟨g1, g2, g3, g9, g10⟩
    obtain ⟨fl, hfl⟩ : ∃ fl : List FD, fl = [⟨0, A1.next, .map, .map [] true, [(6, .int .i64 1, v37), (10, .int .i64 2, .slice (some ⟨A1.next + 1, 0, none⟩) on on), (12, .int .i64 3, .slice (some ⟨A1.next + 2, 0, none⟩) 1 1), (14, .int .i64 4, .slice (some ⟨A1.next + 3, 0, none⟩) 1 1), (16, .int .i64 5, .slice (some ⟨A1.next + 4, 0, none⟩) 1 1), (19, .int .i64 6, .slice (some ⟨A1.next + 5, 0, none⟩) n n), (21, .int .i64 7, .slice (some ⟨b1, 0, none⟩) 4 4), (23, .int .i64 8, .slice (some ⟨b2, 0, none⟩) nbn nbn)], 29⟩, ⟨9, A1.next + 1, .slice on on, .cells (azeros [.int .u64 0] on) true 1, [], 29⟩, ⟨11, A1.next + 2, .slice 1 1, .cells (azeros [.int .u64 0] 1) true 1, [], 29⟩, ⟨13, A1.next + 3, .slice 1 1, .cells (azeros [.int .u64 0] 1) true 1, [], 29⟩, ⟨15, A1.next + 4, .slice 1 1, .cells (azeros [.int .u64 0] 1) true 1, [], 29⟩, ⟨18, A1.next + 5, .slice n n, .cells (azeros [.int .u64 0] n) true 1, [], 29⟩, ⟨26, A1.next + 6, .ptr, .cells [.map (some A1.next)] true 1, [], 29⟩] := ⟨_, rfl⟩
    refine awp_fwalk Tryz.mx (ord := [(0, 0), (1, 0), (3, 0), (4, 0), (7, 0), (8, 1), (9, 0), (10, 0), (11, 0), (12, 0), (13, 0), (14, 0), (15, 0), (16, 0), (17, 0), (18, 0), (19, 0), (20, 0), (21, 0), (22, 0), (23, 0), (2, 3), (5, 3), (6, 0), (24, 0), (25, 0), (26, 0), (27, 0), (28, 0)])
      (fss := [⟨0, [6, 10, 12, 14, 16, 19, 21, 23], 29, 144⟩, ⟨9, [], 29, 0⟩, ⟨11, [], 29, 0⟩, ⟨13, [], 29, 0⟩, ⟨15, [], 29, 0⟩, ⟨18, [], 29, 0⟩, ⟨26, [], 29, 0⟩]) (by decide +kernel) fl (fun s x => x ∈ fl ∧ x.op = s.op ∧ x.till = s.till ∧ x.ins.map (·.1) = s.ins) (fun s x h => h.2) ?_ ?_ ?_ (nb := 7) ?_ ?_ (fun A' => A'.get A.next = some (.cells [.int .i64 (zs.length : Int), .int .i64 (on : Int), .int .i64 bas, .int .i64 c0, .int .i64 c1, .int .i64 c2, .int .i64 c3, .int .i64 rds, .int .i64 wrs, .int .i64 als, .int .i64 fre, .int .i64 clk, .bool stg] true 1)) ?_
    · rintro s x y ⟨h1, h2, _⟩ ⟨h3, h4, _⟩
      have h5 := h2.trans h4.symm
      rw [hfl] at h1 h3
      simp only [List.mem_cons, List.not_mem_nil, or_false] at h1 h3
      rcases h1 with rfl | rfl | rfl | rfl | rfl | rfl | rfl <;> rcases h3 with rfl | rfl | rfl | rfl | rfl | rfl | rfl <;> first | rfl | (simp at h5)
    · intro x hx
      have hx' := hx
      rw [hfl] at hx
      simp only [List.mem_cons, List.not_mem_nil, or_false] at hx
      rcases hx with rfl | rfl | rfl | rfl | rfl | rfl | rfl
      · exact ⟨_, (.head _), hx', rfl, rfl, rfl⟩
      · exact ⟨_, (.tail _ (.head _)), hx', rfl, rfl, rfl⟩
      · exact ⟨_, (.tail _ (.tail _ (.head _))), hx', rfl, rfl, rfl⟩
      · exact ⟨_, (.tail _ (.tail _ (.tail _ (.head _)))), hx', rfl, rfl, rfl⟩
      · exact ⟨_, (.tail _ (.tail _ (.tail _ (.tail _ (.head _))))), hx', rfl, rfl, rfl⟩
      · exact ⟨_, (.tail _ (.tail _ (.tail _ (.tail _ (.tail _ (.head _)))))), hx', rfl, rfl, rfl⟩
      · exact ⟨_, (.tail _ (.tail _ (.tail _ (.tail _ (.tail _ (.tail _ (.head _))))))), hx', rfl, rfl, rfl⟩
    · intro s hs
      simp only [List.mem_cons, List.not_mem_nil, or_false] at hs
      rcases hs with rfl | rfl | rfl | rfl | rfl | rfl | rfl <;> simp [hfl]
    · intro x hx
      rw [hfl] at hx
      simp only [List.mem_cons, List.not_mem_nil, or_false] at hx
      rcases hx with rfl | rfl | rfl | rfl | rfl | rfl | rfl <;> exact ⟨by simp, by simp⟩
    · rw [hfl]
      simp
    have hnf : ∀ i, i ∉ ([0, 9, 11, 13, 15, 18, 26, 6, 10, 12, 14, 16, 19, 21, 23] : List Nat) → ∀ x ∈ fl, x.op ≠ i ∧ ∀ q ∈ x.ins, q.1 ≠ i := by
      intro i hi x hx
      rw [hfl] at hx
      simp only [List.mem_cons, List.not_mem_nil, or_false] at hx
      rcases hx with rfl | rfl | rfl | rfl | rfl | rfl | rfl
      · refine ⟨fun e => hi (by rw [← e]; simp), fun q hq e => ?_⟩
        simp only [List.mem_cons, List.not_mem_nil, or_false] at hq
        rcases hq with rfl | rfl | rfl | rfl | rfl | rfl | rfl | rfl <;> exact hi (by rw [← e]; simp)
      all_goals exact ⟨fun e => hi (by rw [← e]; simp), fun q hq => by simp at hq⟩
    have hty : TyOk Tryz.prog 144 ⟨0, A1.next, .map, .map [] true, [(6, .int .i64 1, v37), (10, .int .i64 2, .slice (some ⟨A1.next + 1, 0, none⟩) on on), (12, .int .i64 3, .slice (some ⟨A1.next + 2, 0, none⟩) 1 1), (14, .int .i64 4, .slice (some ⟨A1.next + 3, 0, none⟩) 1 1), (16, .int .i64 5, .slice (some ⟨A1.next + 4, 0, none⟩) 1 1), (19, .int .i64 6, .slice (some ⟨A1.next + 5, 0, none⟩) n n), (21, .int .i64 7, .slice (some ⟨b1, 0, none⟩) 4 4), (23, .int .i64 8, .slice (some ⟨b2, 0, none⟩) nbn nbn)], 29⟩ := by
      refine ⟨_, _, _, Tryz.underlying144, Tryz.underlying3, rfl, ?_⟩
      intro a ha b hb hne
      simp only [List.mem_cons, List.not_mem_nil, or_false] at ha hb
      rcases ha with rfl | rfl | rfl | rfl | rfl | rfl | rfl | rfl <;> rcases hb with rfl | rfl | rfl | rfl | rfl | rfl | rfl | rfl <;> first | rfl | (simp at hne)
    refine fw1 rfl (by decide) (FK.val .map A1.next) (.inl ⟨_, by rw [hfl]; exact (.head _), rfl, by simp [mkO, aparts, evF, putF, upd, g1, g2, g3, g9, g10, FK.val], rfl⟩) (fun e => by cases e) ?_
    refine fw1 rfl (by decide) (.slice (some q) zs.length cc) (.inr (.inr ⟨hnf 1 (by decide), by simp [aq, AW.row_get, evF, putF, upd, g1, g2, g3, g9, g10, FK.val]⟩)) (fun e => by cases e) ?_
    refine fw1 rfl (by decide) (.slice (some ⟨b2, 0, none⟩) nbn nbn) (.inr (.inr ⟨hnf 3 (by decide), by simp [aq, AW.row_get, evF, putF, upd, g1, g2, g3, g9, g10, FK.val]⟩)) (fun e => by cases e) ?_
    refine fw1 rfl (by decide) (.int .i64 nbn) (.inr (.inr ⟨hnf 4 (by decide), by simp [aq, AW.row_get, evF, putF, upd, g1, g2, g3, g9, g10, FK.val]⟩)) (fun e => by cases e) ?_
    refine fw1 rfl (by decide) (.pointer (some ⟨A.next, 1, none⟩)) (.inr (.inr ⟨hnf 7 (by decide), by simp [aq, AW.row_get, evF, putF, upd, g1, g2, g3, g9, g10, FK.val]⟩)) (fun e => by cases e) ?_
    refine fw1 rfl (by decide) (.int .i64 on) (.inr (.inr ⟨hnf 8 (by decide), by simp [aq, AW.row_get, evF, putF, upd, g1, g2, g3, g9, g10, FK.val, hbB]⟩)) (fun _ A' hA' => .inr (.inr ⟨hnf 8 (by decide), by simp [aq, AW.row_get, hA', evF, putF, upd, g1, g2, g3, g9, g10, FK.val, hbB]⟩)) ?_
    refine fw1 rfl (by decide) (FK.val (.slice on on) (A1.next + 1)) (.inl ⟨_, by rw [hfl]; exact (.tail _ (.head _)), rfl, by simp [mkO, aparts, evF, putF, upd, g1, g2, g3, g9, g10, FK.val, y0, y1, y2], rfl⟩) (fun e => by cases e) ?_
    refine fw1 rfl (by decide) undef (.inr (.inl ⟨_, by rw [hfl]; exact .head _, _, (.tail _ (.head _)), rfl, ⟨144, _, _, _, rfl, hty, rfl, by simp [evF, putF, upd, g1, g2, g3, g9, g10, FK.val], by simp [evF, putF, upd, g1, g2, g3, g9, g10, FK.val], by simp [evF, putF, upd, g1, g2, g3, g9, g10, FK.val]⟩, rfl⟩)) (fun e => by cases e) ?_
    refine fw1 rfl (by decide) (FK.val (.slice 1 1) (A1.next + 2)) (.inl ⟨_, by rw [hfl]; exact (.tail _ (.tail _ (.head _))), rfl, by simp [mkO, aparts, evF, putF, upd, g1, g2, g3, g9, g10, FK.val], rfl⟩) (fun e => by cases e) ?_
    refine fw1 rfl (by decide) undef (.inr (.inl ⟨_, by rw [hfl]; exact .head _, _, (.tail _ (.tail _ (.head _))), rfl, ⟨144, _, _, _, rfl, hty, rfl, by simp [evF, putF, upd, g1, g2, g3, g9, g10, FK.val], by simp [evF, putF, upd, g1, g2, g3, g9, g10, FK.val], by simp [evF, putF, upd, g1, g2, g3, g9, g10, FK.val]⟩, rfl⟩)) (fun e => by cases e) ?_
    refine fw1 rfl (by decide) (FK.val (.slice 1 1) (A1.next + 3)) (.inl ⟨_, by rw [hfl]; exact (.tail _ (.tail _ (.tail _ (.head _)))), rfl, by simp [mkO, aparts, evF, putF, upd, g1, g2, g3, g9, g10, FK.val], rfl⟩) (fun e => by cases e) ?_
    refine fw1 rfl (by decide) undef (.inr (.inl ⟨_, by rw [hfl]; exact .head _, _, (.tail _ (.tail _ (.tail _ (.head _)))), rfl, ⟨144, _, _, _, rfl, hty, rfl, by simp [evF, putF, upd, g1, g2, g3, g9, g10, FK.val], by simp [evF, putF, upd, g1, g2, g3, g9, g10, FK.val], by simp [evF, putF, upd, g1, g2, g3, g9, g10, FK.val]⟩, rfl⟩)) (fun e => by cases e) ?_
    refine fw1 rfl (by decide) (FK.val (.slice 1 1) (A1.next + 4)) (.inl ⟨_, by rw [hfl]; exact (.tail _ (.tail _ (.tail _ (.tail _ (.head _))))), rfl, by simp [mkO, aparts, evF, putF, upd, g1, g2, g3, g9, g10, FK.val], rfl⟩) (fun e => by cases e) ?_
    refine fw1 rfl (by decide) undef (.inr (.inl ⟨_, by rw [hfl]; exact .head _, _, (.tail _ (.tail _ (.tail _ (.tail _ (.head _))))), rfl, ⟨144, _, _, _, rfl, hty, rfl, by simp [evF, putF, upd, g1, g2, g3, g9, g10, FK.val], by simp [evF, putF, upd, g1, g2, g3, g9, g10, FK.val], by simp [evF, putF, upd, g1, g2, g3, g9, g10, FK.val]⟩, rfl⟩)) (fun e => by cases e) ?_
    refine fw1 rfl (by decide) (.int .i64 n) (.inr (.inr ⟨hnf 17 (by decide), by simp [aq, AW.row_get, evF, putF, upd, g1, g2, g3, g9, g10, FK.val]⟩)) (fun e => by cases e) ?_
    refine fw1 rfl (by decide) (FK.val (.slice n n) (A1.next + 5)) (.inl ⟨_, by rw [hfl]; exact (.tail _ (.tail _ (.tail _ (.tail _ (.tail _ (.head _)))))), rfl, by simp [mkO, aparts, evF, putF, upd, g1, g2, g3, g9, g10, FK.val, w0, w1, w2], rfl⟩) (fun e => by cases e) ?_
    refine fw1 rfl (by decide) undef (.inr (.inl ⟨_, by rw [hfl]; exact .head _, _, (.tail _ (.tail _ (.tail _ (.tail _ (.tail _ (.head _)))))), rfl, ⟨144, _, _, _, rfl, hty, rfl, by simp [evF, putF, upd, g1, g2, g3, g9, g10, FK.val], by simp [evF, putF, upd, g1, g2, g3, g9, g10, FK.val], by simp [evF, putF, upd, g1, g2, g3, g9, g10, FK.val]⟩, rfl⟩)) (fun e => by cases e) ?_
    refine fw1 rfl (by decide) (.slice (some ⟨b1, 0, none⟩) 4 4) (.inr (.inr ⟨hnf 20 (by decide), by simp [aq, AW.row_get, evF, putF, upd, g1, g2, g3, g9, g10, FK.val]⟩)) (fun e => by cases e) ?_
    refine fw1 rfl (by decide) undef (.inr (.inl ⟨_, by rw [hfl]; exact .head _, _, (.tail _ (.tail _ (.tail _ (.tail _ (.tail _ (.tail _ (.head _))))))), rfl, ⟨144, _, _, _, rfl, hty, rfl, by simp [evF, putF, upd, g1, g2, g3, g9, g10, FK.val], by simp [evF, putF, upd, g1, g2, g3, g9, g10, FK.val], by simp [evF, putF, upd, g1, g2, g3, g9, g10, FK.val]⟩, rfl⟩)) (fun e => by cases e) ?_
    refine fw1 rfl (by decide) (.slice (some ⟨b2, 0, none⟩) nbn nbn) (.inr (.inr ⟨hnf 22 (by decide), by simp [aq, AW.row_get, evF, putF, upd, g1, g2, g3, g9, g10, FK.val]⟩)) (fun e => by cases e) ?_
    refine fw1 rfl (by decide) undef (.inr (.inl ⟨_, by rw [hfl]; exact .head _, _, (.tail _ (.tail _ (.tail _ (.tail _ (.tail _ (.tail _ (.tail _ (.head _)))))))), rfl, ⟨144, _, _, _, rfl, hty, rfl, by simp [evF, putF, upd, g1, g2, g3, g9, g10, FK.val], by simp [evF, putF, upd, g1, g2, g3, g9, g10, FK.val], by simp [evF, putF, upd, g1, g2, g3, g9, g10, FK.val]⟩, rfl⟩)) (fun e => by cases e) ?_
    refine fw2 rfl (by decide) ?_
    have hcl2 : clm (clOf fl 2) (A1.bump 7) = A1.bump 7 := by rw [hfl]; rfl
    rw [hcl2]
    simp only [AStep, aq, ae, ACallK, evF]
    refine (cloneNums_call q zs.length cc zs (A1.bump 7) hvB rfl hzl.1 hzl.2).mono ?_
    rintro u A2 ⟨rfl, rfl⟩
    rw [hM1]
    refine ⟨fun _ => hle7.keep hw1 hb3, ?_⟩
    refine fw2 rfl (by decide) ?_
    have hcl5 : clm (clOf fl 5) M1 = M1 := by rw [hfl]; rfl
    rw [hcl5]
    have n17 : (A1.bump 7).next + 1 = A1.next + 7 + 1 := rfl
    rw [n17]
    refine (show AStep Tryz.prog (.call { callee := .builtin .append, args := #[.tmp 34, .tmp 36], argTypes := #[38, 3] }) _ _ _ from ?_)
    unfold AStep
    simp [aq, ae, evF, putF, upd, e37]
    refine ⟨?_, ?_⟩
    · first | exact fun _ => hle2.keep hw1 hb3 | exact hle2.keep hw1 hb3
    refine fw1 rfl (by decide) undef (.inr (.inl ⟨_, by rw [hfl]; exact .head _, _, (.head _), rfl, ⟨144, _, _, _, rfl, hty, rfl, by simp [evF, putF, upd, g1, g2, g3, g9, g10, FK.val], by simp [evF, putF, upd, g1, g2, g3, g9, g10, FK.val], by simp [evF, putF, upd, g1, g2, g3, g9, g10, FK.val]⟩, rfl⟩)) (fun e => by cases e) ?_
    refine fw1 rfl (by decide) (FK.val .map A1.next) (.inr (.inr ⟨hnf 24 (by decide), by simp [aq, AW.row_get, evF, putF, upd, g1, g2, g3, g9, g10, FK.val]⟩)) (fun e => by cases e) ?_
    refine fw1 rfl (by decide) (.agg #[.map (some A1.next)]) (.inr (.inr ⟨hnf 25 (by decide), by simp [aq, AW.row_get, evF, putF, upd, g1, g2, g3, g9, g10, FK.val, abuild, aparts]⟩)) (fun e => by cases e) ?_
    refine fw1 rfl (by decide) (FK.val .ptr (A1.next + 6)) (.inl ⟨_, by rw [hfl]; exact (.tail _ (.tail _ (.tail _ (.tail _ (.tail _ (.tail _ (.head _))))))), rfl, by simp [mkO, aparts, evF, putF, upd, g1, g2, g3, g9, g10, FK.val], rfl⟩) (fun e => by cases e) ?_
    refine fw1 rfl (by decide) (FK.val .ptr (A1.next + 6)) (.inr (.inr ⟨hnf 27 (by decide), by simp [aq, AW.row_get, evF, putF, upd, g1, g2, g3, g9, g10, FK.val]⟩)) (fun e => by cases e) ?_
    refine fw1 rfl (by decide) (.int .i64 0) (.inr (.inr ⟨hnf 28 (by decide), by simp [aq, AW.row_get, evF, putF, upd, g1, g2, g3, g9, g10, FK.val]⟩)) (fun e => by cases e) ?_
    refine fw0 ?_
    have hend := clm_le (B := A1) (clOf fl 29) M2 hle2 hw2 (fun x hx => by
      have hx := (List.mem_filter.1 hx).1
      rw [hfl] at hx
      simp only [List.mem_cons, List.not_mem_nil, or_false] at hx
      rcases hx with rfl | rfl | rfl | rfl | rfl | rfl | rfl <;> exact ⟨by simp, by simp only; omega⟩)
    refine wr ?_
    exact ⟨.tuple #[.pointer (some ⟨A1.next + 6, 0, none⟩), .int .i64 0], rfl, ⟨_, rfl⟩, hle.trans hend.1, hend.2⟩
end Go.Stx
