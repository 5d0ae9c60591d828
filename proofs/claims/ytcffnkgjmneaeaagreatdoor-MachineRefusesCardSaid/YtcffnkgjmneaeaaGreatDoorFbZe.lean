/-
  Made scripts.
-/
import Derived.Test.YtcffnkgjmneaeaaGreatDoorFbY
import Derived.Test.YtcffnkgjmneaeaaGreatDoorFbZa
import Derived.Test.YtcffnkgjmneaeaaGreatDoorFbZc
namespace Go.Stx
open Go Go.Proofs
def oFbZe_0 : List (Nat × Nat) := [(0, 0), (1, 0), (2, 0), (3, 0), (4, 0), (5, 0), (6, 0), (10, 0), (7, 2), (8, 0), (9, 0), (11, 2), (12, 2), (13, 3), (14, 0), (15, 3)]
def oFbZe_1 : List (Nat × Nat) := [(0, 0), (1, 0), (2, 0), (3, 0), (4, 0), (5, 0), (6, 0), (7, 2), (8, 2), (9, 3), (10, 0), (11, 3)]
attribute [local irreducible] AWP LWalk ACall ARounds lops nops
set_option linter.unusedVariables false
set_option linter.unusedSimpArgs false
set_option linter.unusedSectionVars false
set_option maxRecDepth 20000
variable [Gl]

/-- All as it was but for one block. -/
structure SB (A : AW) (b : Nat) (A' : AW) : Prop where
  next : A.next ≤ A'.next
  get : ∀ i, i < A.next → i ≠ b → A'.get i = A.get i
theorem SB.refl (A : AW) (b : Nat) : SB A b A := ⟨Nat.le_refl _, fun _ _ _ => rfl⟩
theorem SB.trans {A B C : AW} {b : Nat} (h : SB A b B) (k : SB B b C) : SB A b C := ⟨Nat.le_trans h.next k.next, fun i hi hb => (k.get i (Nat.lt_of_lt_of_le hi h.next) hb).trans (h.get i hi hb)⟩
theorem SB.of_le {A B : AW} {b : Nat} (h : A.le B) : SB A b B := ⟨h.next, fun i hi _ => h.get i hi⟩
theorem SB.set {A B : AW} {b : Nat} (h : SB A b B) (o : Option AObj) : SB A b (B.set b o) := ⟨h.next, fun i hi hb => (AW.set_get_ne hb).trans (h.get i hi hb)⟩
theorem SB.le {A0 A B : AW} {b : Nat} (h : A0.le A) (hb : A0.next ≤ b) (k : SB A b B) : A0.le B := ⟨Nat.le_trans h.next k.next, fun i hi => (k.get i (Nat.lt_of_lt_of_le hi h.next) (by omega)).trans (h.get i hi)⟩
theorem SB.app {A1 A A' : AW} {b : Nat} {v v' : Value} (h : SB A1 b A) (hv : ∀ j, slBlock v = some j → A1.next ≤ j) (k : AppK A1.next A A' v v') : SB A1 b A' :=
  ⟨Nat.le_trans h.next k.next, fun i hi hb => (k.get i (Nat.lt_of_lt_of_le hi h.next) fun e => by have := hv i e; omega).trans (h.get i hi hb)⟩

theorem PS.low {B C : Nat} (hc : C ≤ B) {A : AW} {vp : Value} {us : List Value} {ps : List (List InsV)} (h : PS B A vp us ps) : PS C A vp us ps :=
  ⟨h.own.low hc, h.len, fun i hi => let ⟨u, h1, h2, h3⟩ := h.el i hi; ⟨u, h1, h2.low hc, h3⟩⟩

theorem app_one8 {P : Program} {t e : TypeId} {i : TypeInfo} {z : Value} {A : AW} {B : Nat} {v : Value} {n : Nat} {cs : List Value} (x : Value) (hu : P.underlying t = some (.slice e)) (hi : P.info? e = some i) (hz : i.zero = some z) (hs : i.size = 1) (hzs : z.cells.size = 1) (hby : i.bytes ≤ 8)
    (hx : x.oneCell' = true) (hown : OwnSl B A 1 v n cs) (hn : n < 17592186044415) (hB : B ≤ A.next) (hw : A.Wf) :
    ∃ v' A', aappend P (A.alloc (.cells [x] true 1)) t t v (.slice (some ⟨A.next, 0, none⟩) 1 1) = some (v', A') ∧ OwnSl B A' 1 v' (n + 1) (cs ++ [x]) ∧ AppK B A A' v v' := by
  have hown' := OwnSl.le (AW.le.alloc A (.cells [x] true 1)) hw hown
  have hnews : appNews (A.alloc (.cells [x] true 1)) 1 (.slice (some ⟨A.next, 0, none⟩) 1 1) = some (1, [x]) := by
    simp [appNews, AW.row]
  have hb : (n + 1) * i.bytes ≤ 140737488355328 := by
    have := Nat.mul_le_mul_left (n + 1) hby
    omega
  obtain ⟨v', A', h1, h2, h3, h4, h5, h6, h7⟩ := aappend_own (P := P) (size := 1) (t := t) hu hi hz hs hzs (by omega) hown' hnews (by rw [List.all_cons, hx]; rfl) (by omega) hb (by rw [AW.alloc_next]; omega) (hw.alloc _)
  refine ⟨v', A', h1, h2, fun A0 ha hl => h3 A0 ha (hl.trans (AW.le.alloc A _)), h4, by rw [AW.alloc_next] at h5; omega, fun j hj hne => ?_, fun j hj => ?_⟩
  · rw [h6 j (by simp; omega) hne, AW.alloc_get_old _ _ (by omega)]
  · rcases h7 with rfl | h7
    · exact .inl hj
    · rw [h7] at hj
      injection hj with hj
      simp at hj
      exact .inr (by omega)

theorem script_mk (hn : Gl.N = 4) (c : CfgS) (hcw : 0 ≤ c.words ∧ c.words ≤ 64) (n : Nat) (hn16 : n ≤ 16) (vl vk : Value) (ls : List (List Int)) (pk : List Int) (most : Int) (heap plain : Bool) (A : AW) (hL : IsRows A vl ls)
    (hm : 0 ≤ most ∧ most ≤ 1000) (hk : IsInts A .i64 vk pk) (hkl : pk.length ≤ 17592186044415) (hnp : pk = [] ∨ 1 ≤ n) :
    ACall Tryz.prog 36 [c.v, .int .i64 n, vl, .int .i64 most, .bool heap, .bool plain, vk] A (fun u A' => ∃ (oi : Option Addr) (ni ci : Nat) (vp : Value) (ok : Option Addr) (ck : Nat) (us : List Value) (ps : List (List InsV)) (kl zs : List Int) (Z : Nat),
      u = scV c (.slice oi ni ci) vp (.slice ok kl.length ck) ∧ A.next ≤ Z ∧ PS Z A' vp us ps ∧ A.le A' ∧ A'.Wf ∧ OwnSl Z A' 1 (.slice ok kl.length ck) kl.length (kl.map (Value.int .i64)) ∧ kl.length = pk.length ∧ us.length = n ∧ (∀ q ∈ ps, q.length ≤ 1001) ∧ (∀ j o, slBlock (.slice ok kl.length ck) = some j → PS Z (A'.set j o) vp us ps) ∧
      zs.length = ni ∧ OwnSl A.next A' 1 (.slice oi ni ci) ni (zs.map (Value.int .u64)) ∧ ∀ j, slBlock (.slice oi ni ci) = some j → j < Z) := by
  refine acall_intro Tryz.func36 rfl (by kernel_rfl) fun hw => ?_
  obtain ⟨ol, cl, rfl, _⟩ := hL.form
  obtain ⟨okk, ckk, rfl, _⟩ := hk.form
  have cB := fun B => refBlocks_call c B
  generalize blocksF c = bl at cB
  have hcells : c.v = .agg c.cells.toArray := rfl
  obtain ⟨wds, ords, bas, c0, c1, c2, c3, rds, wrs, als, fre, clk, stg⟩ := c
  simp only at hcw
  obtain ⟨wsz, rfl⟩ : ∃ wsz : Nat, wds = wsz := ⟨wds.toNat, by omega⟩
  have hwsz : wsz ≤ 64 := by omega
  unfold scV scCells
  simp only [CfgS.v, CfgS.cells, List.cons_append, List.nil_append] at cB ⊢
  repeat' (first
  | (refine lwc fun R hR => ?_; simp [wrap_i64, wrap_u64, AW.row_get, astore]; try simp (disch := omega) only [if_pos, if_neg, wrap_i64, wrap_u64])
  | (refine hR _ _ ?_; clear hR R) | (refine hK _ _ ?_; clear hK K) | refine lwn ?_ | refine lr ?_ | refine la ?_
  | refine wn fun K hK => ?_
  | simp only [wS, oFbZe_0, oFbZe_1]
  | refine wl Tryz.mx oFbZe_0 (by decide +kernel) fun K hK => ?_
  | refine wl Tryz.mx oFbZe_1 (by decide +kernel) fun K hK => ?_
  | refine wb ?_ | refine wr ?_ | refine wk ?_ | refine we ?_ | refine ws ?_ | refine wq ?_
  | (refine wc rfl (fun hc => ?_) (fun hc => ?_) <;> (try simp at hc) <;> (try omega))
  | (refine ib (fun hc => ?_) (fun hc => ?_) <;> (try omega) <;> (try simp (disch := omega) only [if_pos, if_neg])))
  refine awp_gen (fun A1 => A.le A1 ∧ A1.Wf ∧ A1.next = A.next + 3 ∧ A1.get A.next = some (.cells [.int .i64 (wsz : Int), .int .i64 ords, .int .i64 bas, .int .i64 c0, .int .i64 c1, .int .i64 c2, .int .i64 c3, .int .i64 rds, .int .i64 wrs, .int .i64 als, .int .i64 fre, .int .i64 clk, .bool stg] true 1) ∧
    A1.get (A.next + 1) = some (.cells scZero true 1) ∧
    A1.get (A.next + 2) = some (.cells [.int .i64 (wsz : Int), .int .i64 ords, .int .i64 bas, .int .i64 c0, .int .i64 c1, .int .i64 c2, .int .i64 c3, .int .i64 rds, .int .i64 wrs, .int .i64 als, .int .i64 fre, .int .i64 clk, .bool stg, .slice none 0 0, .slice none 0 0, .slice none 0 0] true 1)) ?_ ?_
  · have e1 : ¬ A.next = A.next + 1 + 1 := by omega
    have e2 : ¬ A.next = A.next + 1 := by omega
    have e3 : ¬ A.next + 1 = A.next := by omega
    have e4 : ¬ A.next + 1 + 1 = A.next := by omega
    refine ⟨(((AW.le.alloc A _).trans (AW.le.alloc _ _)).trans (AW.le.alloc _ _)).set (by omega) _, (((hw.alloc _).alloc _).alloc _).set _ (by simp only [AW.alloc_next]; omega), by simp, ?_, ?_, ?_⟩
    · simp [AW.get_set, AW.get_alloc, e1, e2, e3, e4]
    · simp [AW.get_set, AW.get_alloc, scZero, e1, e2, e3, e4]
    · simp [AW.get_set, AW.get_alloc, e1, e2, e3, e4]
  rintro A1 ⟨hle1, hw1, hn1, hb7, hb14, hb15⟩
  refine awp_joinB (fun fr A' => ∃ (vi : Value) (ni : Nat) (zs : List Int), zs.length = ni ∧ fr 1 = .int .i64 n ∧ fr 2 = .slice ol ls.length cl ∧ fr 3 = .int .i64 most ∧ fr 4 = .bool heap ∧ fr 5 = .bool plain ∧ fr 6 = .slice okk pk.length ckk ∧ fr 7 = .pointer (some ⟨A.next, 0, none⟩) ∧ fr 14 = .pointer (some ⟨A.next + 1, 0, none⟩) ∧ fr 15 = .pointer (some ⟨A.next + 2, 0, none⟩) ∧
    SB A1 (A.next + 2) A' ∧ A'.Wf ∧ A'.get (A.next + 2) = some (.cells [.int .i64 (wsz : Int), .int .i64 ords, .int .i64 bas, .int .i64 c0, .int .i64 c1, .int .i64 c2, .int .i64 c3, .int .i64 rds, .int .i64 wrs, .int .i64 als, .int .i64 fre, .int .i64 clk, .bool stg, vi, .slice none 0 0, .slice none 0 0] true 1) ∧ OwnSl A1.next A' 1 vi ni (zs.map (Value.int .u64))) ?_ ?_
  · refine awp_loop (fun k fr A' => ∃ (i : Nat) (vi : Value) (zs : List Int), k = wsz - i ∧ i ≤ wsz ∧ zs.length = i ∧ fr 1 = .int .i64 n ∧ fr 2 = .slice ol ls.length cl ∧ fr 3 = .int .i64 most ∧ fr 4 = .bool heap ∧ fr 5 = .bool plain ∧ fr 6 = .slice okk pk.length ckk ∧ fr 7 = .pointer (some ⟨A.next, 0, none⟩) ∧ fr 14 = .pointer (some ⟨A.next + 1, 0, none⟩) ∧ fr 15 = .pointer (some ⟨A.next + 2, 0, none⟩) ∧ fr 16 = .int .i64 i ∧
      SB A1 (A.next + 2) A' ∧ A'.Wf ∧ A'.get (A.next + 2) = some (.cells [.int .i64 (wsz : Int), .int .i64 ords, .int .i64 bas, .int .i64 c0, .int .i64 c1, .int .i64 c2, .int .i64 c3, .int .i64 rds, .int .i64 wrs, .int .i64 als, .int .i64 fre, .int .i64 clk, .bool stg, vi, .slice none 0 0, .slice none 0 0] true 1) ∧ OwnSl A1.next A' 1 vi i (zs.map (Value.int .u64))) wsz ?_ ?_
    · exact ⟨0, _, [], rfl, Nat.zero_le _, rfl, rfl, rfl, rfl, rfl, rfl, rfl, rfl, rfl, rfl, rfl, SB.refl _ _, hw1, hb15, OwnSl.nil _ _ _⟩
    · rintro k fr A' ⟨i, vi, zs, rfl, hi, hzl, g1, g2, g3, g4, g5, g6, g7, g14, g15, g16, hS, hw', hb, hown⟩
      have hb7' := (hS.get A.next (by omega) (by omega)).trans hb7
      have hlt2 := hw'.lt hb
      by_cases hlt : i < wsz
      · obtain ⟨qv, hqv⟩ : ∃ qv, IntKind.u64.wrap ((i : Int).tmod 4) = qv := ⟨_, rfl⟩
        have hwi : IntKind.i64.wrap ((i : Int) + 1) = ((i + 1 : Nat) : Int) := wrap_i64 (by omega) (by omega)
        obtain ⟨vi', A4, e4, hown4, k4⟩ := app_one (P := Tryz.prog) (.int .u64 qv) Tryz.underlying38 Tryz.info59 Tryz.zero59 rfl rfl (by simp) rfl hown (by omega) hS.next hw'
        have hown4 : OwnSl A1.next A4 1 vi' (i + 1) ((zs ++ [qv]).map (Value.int .u64)) := by simpa using hown4
        have hne : slBlock vi ≠ some (A.next + 2) := fun e => by have := (hown.lt hw' e).1; omega
        have hb4 := (k4.get (A.next + 2) hlt2 hne).trans hb
        have hlt4 := k4.wf.lt hb4
        have hS4 := hS.app (fun j hj => (hown.lt hw' hj).1) k4
        have hst : wsz - i = (wsz - (i + 1)) + 1 := by omega
        have hv1 := hown.one
        have hv2 := hown4.one
        refine awp_seq ?_
        repeat' (first
        | (refine lwc fun R hR => ?_; simp [wrap_i64, wrap_u64, g1, g2, g3, g4, g5, g6, g7, g14, g15, g16, hlt, hwi, hqv, hb, hb7', hb4, e4, AW.row_get, astore]; try simp (disch := omega) only [if_pos, if_neg, wrap_i64, wrap_u64])
        | (refine hR _ _ ?_; clear hR R) | (refine hK _ _ ?_; clear hK K) | refine lwn ?_ | refine lr ?_ | refine la ?_
        | refine wn fun K hK => ?_
        | simp only [wS, oFbZe_0, oFbZe_1]
        | refine wl Tryz.mx oFbZe_0 (by decide +kernel) fun K hK => ?_
        | refine wl Tryz.mx oFbZe_1 (by decide +kernel) fun K hK => ?_
        | refine wb ?_ | refine wr ?_ | refine wk ?_ | refine we ?_ | refine ws ?_ | refine wq ?_
        | (refine wc rfl (fun hc => ?_) (fun hc => ?_) <;> (try simp at hc) <;> (try omega))
        | (refine ib (fun hc => ?_) (fun hc => ?_) <;> (try omega) <;> (try simp (disch := omega) only [if_pos, if_neg])))
        obtain ⟨oi', ci', rfl, _⟩ := hown4.is.form
        repeat' (first
        | (refine lwc fun R hR => ?_; simp [wrap_i64, wrap_u64, g1, g2, g3, g4, g5, g6, g7, g14, g15, g16, hlt, hwi, hqv, hb, hb7', hb4, e4, AW.row_get, astore]; try simp (disch := omega) only [if_pos, if_neg, wrap_i64, wrap_u64])
        | (refine hR _ _ ?_; clear hR R) | (refine hK _ _ ?_; clear hK K) | refine lwn ?_ | refine lr ?_ | refine la ?_
        | refine wn fun K hK => ?_
        | simp only [wS, oFbZe_0, oFbZe_1]
        | refine wl Tryz.mx oFbZe_0 (by decide +kernel) fun K hK => ?_
        | refine wl Tryz.mx oFbZe_1 (by decide +kernel) fun K hK => ?_
        | refine wb ?_ | refine wr ?_ | refine wk ?_ | refine we ?_ | refine ws ?_ | refine wq ?_
        | (refine wc rfl (fun hc => ?_) (fun hc => ?_) <;> (try simp at hc) <;> (try omega))
        | (refine ib (fun hc => ?_) (fun hc => ?_) <;> (try omega) <;> (try simp (disch := omega) only [if_pos, if_neg])))
        refine ⟨wsz - (i + 1), by omega, i + 1, _, zs ++ [qv], rfl, by omega, by simp [hzl], ?_, ?_, ?_, ?_, ?_, ?_, ?_, ?_, ?_, ?_, hS4.set _, k4.wf.set _ hlt4, AW.set_get_same, hown4.other fun j hj => AW.set_get_ne (fun e => by have := (hown4.lt k4.wf hj).1; omega)⟩ <;> simp [g1, g2, g3, g4, g5, g6, g7, g14, g15, g16]
      · refine awp_seq ?_
        repeat' (first
        | (refine lwc fun R hR => ?_; simp [wrap_i64, wrap_u64, g1, g2, g3, g4, g5, g6, g7, g14, g15, g16, hlt, hb, hb7', AW.row_get]; try simp (disch := omega) only [if_pos, if_neg, wrap_i64, wrap_u64])
        | (refine hR _ _ ?_; clear hR R) | (refine hK _ _ ?_; clear hK K) | refine lwn ?_ | refine lr ?_ | refine la ?_
        | refine wn fun K hK => ?_
        | simp only [wS, oFbZe_0, oFbZe_1]
        | refine wl Tryz.mx oFbZe_0 (by decide +kernel) fun K hK => ?_
        | refine wl Tryz.mx oFbZe_1 (by decide +kernel) fun K hK => ?_
        | refine wb ?_ | refine wr ?_ | refine wk ?_ | refine we ?_ | refine ws ?_ | refine wq ?_
        | (refine wc rfl (fun hc => ?_) (fun hc => ?_) <;> (try simp at hc) <;> (try omega))
        | (refine ib (fun hc => ?_) (fun hc => ?_) <;> (try omega) <;> (try simp (disch := omega) only [if_pos, if_neg])))
        refine ⟨vi, _, zs, hzl, ?_, ?_, ?_, ?_, ?_, ?_, ?_, ?_, ?_, hS, hw', hb, hown⟩ <;> simp [g1, g2, g3, g4, g5, g6, g7, g14, g15, g16]
  rintro fr A2 ⟨vi, ni, zs, hzl, g1, g2, g3, g4, g5, g6, g7, g14, g15, hS1, hw2, hb2, hown1⟩
  have hle2 := hS1.le hle1 (by omega)
  have hn2 : A.next + 3 ≤ A2.next := by rw [← hn1]; exact hS1.next
  have hb7 := (hS1.get A.next (by omega) (by omega)).trans hb7
  have hb14 := (hS1.get (A.next + 1) (by omega) (by omega)).trans hb14
  obtain ⟨oi, cpi, rfl, _⟩ := hown1.is.form
  have hI2 : ∀ j, slBlock (.slice oi ni cpi) = some j → A.next + 3 ≤ j ∧ j < A2.next := fun j hj => ⟨by have := (hown1.lt hw2 hj).1; omega, (hown1.lt hw2 hj).2⟩
  have hI : ∀ A', SB A2 (A.next + 2) A' → OwnSl A1.next A' 1 (.slice oi ni cpi) ni (zs.map (Value.int .u64)) := fun A' h => hown1.other fun j hj => h.get j (hI2 j hj).2 (by have := (hI2 j hj).1; omega)
  clear hb15 hown1 hS1 hw1 hle1
  refine awp_seq ?_
  repeat' (first
  | (refine lwc fun R hR => ?_; simp [wrap_i64, wrap_u64, g1, g2, g3, g4, g5, g6, g7, g14, g15]; try simp (disch := omega) only [if_pos, if_neg, wrap_i64, wrap_u64])
  | (refine hR _ _ ?_; clear hR R) | (refine hK _ _ ?_; clear hK K) | refine lwn ?_ | refine lr ?_ | refine la ?_
  | refine wn fun K hK => ?_
  | simp only [wS, oFbZe_0, oFbZe_1]
  | refine wl Tryz.mx oFbZe_0 (by decide +kernel) fun K hK => ?_
  | refine wl Tryz.mx oFbZe_1 (by decide +kernel) fun K hK => ?_
  | refine wb ?_ | refine wr ?_ | refine wk ?_ | refine we ?_ | refine ws ?_ | refine wq ?_
  | (refine wc rfl (fun hc => ?_) (fun hc => ?_) <;> (try simp at hc) <;> (try omega))
  | (refine ib (fun hc => ?_) (fun hc => ?_) <;> (try omega) <;> (try simp (disch := omega) only [if_pos, if_neg])))
  refine awp_joinB (fun fr A' => ∃ (vp : Value) (us : List Value) (ps : List (List InsV)), us.length = n ∧ (∀ q ∈ ps, q.length ≤ 1001) ∧ fr 1 = .int .i64 n ∧ fr 2 = .slice ol ls.length cl ∧ fr 3 = .int .i64 most ∧ fr 4 = .bool heap ∧ fr 5 = .bool plain ∧ fr 6 = .slice okk pk.length ckk ∧ fr 7 = .pointer (some ⟨A.next, 0, none⟩) ∧ fr 14 = .pointer (some ⟨A.next + 1, 0, none⟩) ∧ fr 15 = .pointer (some ⟨A.next + 2, 0, none⟩) ∧
    SB A2 (A.next + 2) A' ∧ A'.Wf ∧ A'.get (A.next + 2) = some (.cells [.int .i64 (wsz : Int), .int .i64 ords, .int .i64 bas, .int .i64 c0, .int .i64 c1, .int .i64 c2, .int .i64 c3, .int .i64 rds, .int .i64 wrs, .int .i64 als, .int .i64 fre, .int .i64 clk, .bool stg, .slice oi ni cpi, vp, .slice none 0 0] true 1) ∧ PS A2.next A' vp us ps) ?_ ?_
  · refine awp_loop (fun k fr A' => ∃ (t : Nat) (vp : Value) (us : List Value) (ps : List (List InsV)), k = n - t ∧ t ≤ n ∧ us.length = t ∧ (∀ q ∈ ps, q.length ≤ 1001) ∧ fr 1 = .int .i64 n ∧ fr 2 = .slice ol ls.length cl ∧ fr 3 = .int .i64 most ∧ fr 4 = .bool heap ∧ fr 5 = .bool plain ∧ fr 6 = .slice okk pk.length ckk ∧ fr 7 = .pointer (some ⟨A.next, 0, none⟩) ∧ fr 14 = .pointer (some ⟨A.next + 1, 0, none⟩) ∧ fr 15 = .pointer (some ⟨A.next + 2, 0, none⟩) ∧ fr 17 = .int .i64 t ∧
      SB A2 (A.next + 2) A' ∧ A'.Wf ∧ A'.get (A.next + 2) = some (.cells [.int .i64 (wsz : Int), .int .i64 ords, .int .i64 bas, .int .i64 c0, .int .i64 c1, .int .i64 c2, .int .i64 c3, .int .i64 rds, .int .i64 wrs, .int .i64 als, .int .i64 fre, .int .i64 clk, .bool stg, .slice oi ni cpi, vp, .slice none 0 0] true 1) ∧ PS A2.next A' vp us ps) n ?_ ?_
    · exact ⟨0, _, [], [], rfl, Nat.zero_le _, rfl, by simp, by simp [g1], by simp [g2], by simp [g3], by simp [g4], by simp [g5], by simp [g6], by simp [g7], by simp [g14], by simp [g15], rfl, SB.refl _ _, hw2, hb2, PS.nil _ _⟩
    · clear g1 g2 g3 g4 g5 g6 g7 g14 g15
      rintro k fr A' ⟨t, vp, us, ps, rfl, ht, hut, hpl, g1, g2, g3, g4, g5, g6, g7, g14, g15, g17, hS, hw', hb, hP⟩
      have hb7' := (hS.get A.next (by omega) (by omega)).trans hb7
      have hlt2 := hw'.lt hb
      have hleA := hS.le hle2 (by omega)
      have hL' := hL.keeps (Keeps.of_le hleA hw)
      obtain ⟨op', cp', hvp, _⟩ := hP.own.is.form
      subst hvp
      by_cases hlt : t < n
      · have hwi : IntKind.i64.wrap ((t : Int) + 1) = ((t + 1 : Nat) : Int) := wrap_i64 (by omega) (by omega)
        have hst : n - t = (n - (t + 1)) + 1 := by omega
        by_cases hlt3 : t < ls.length
        · obtain ⟨q, row, own, u, hq', hrow, hcell, hu⟩ := hL'.at hlt3
          subst hq'
          cases heap with
          | true =>
            refine awp_seq ?_
            repeat' (first
            | (refine lwc fun R hR => ?_; simp [wrap_i64, wrap_u64, g1, g2, g3, g4, g5, g6, g7, g14, g15, g17, hlt, hlt3, hwi, hrow, hcell, hb, hb7', AW.row_get]; try simp (disch := omega) only [if_pos, if_neg, wrap_i64, wrap_u64])
            | (refine hR _ _ ?_; clear hR R) | (refine hK _ _ ?_; clear hK K) | refine lwn ?_ | refine lr ?_ | refine la ?_
            | refine wn fun K hK => ?_
            | simp only [wS, oFbZe_0, oFbZe_1]
            | refine wl Tryz.mx oFbZe_0 (by decide +kernel) fun K hK => ?_
            | refine wl Tryz.mx oFbZe_1 (by decide +kernel) fun K hK => ?_
            | (refine callK (cB _) ?_; rintro _ _ ⟨rfl, rfl⟩ _ _)
            | refine wb ?_ | refine wr ?_ | refine wk ?_ | refine we ?_ | refine ws ?_ | refine wq ?_
            | (refine wc rfl (fun hc => ?_) (fun hc => ?_) <;> (try simp at hc) <;> (try omega))
            | (refine ib (fun hc => ?_) (fun hc => ?_) <;> (try omega) <;> (try simp (disch := omega) only [if_pos, if_neg])))
            refine (program_call hn _ _ most _ plain _ hu hm).mono ?_
            rintro u2 A4 ⟨p, hp1, hu2, hle4, hw4⟩
            first | refine ⟨hle4, ?_⟩ | skip
            obtain ⟨ou, cu, hu2f, _⟩ := hu2.is.form
            subst hu2f
            have hP4 := hP.le hle4 hw'
            obtain ⟨vp', A5, e5, hP5, k5⟩ := hP4.add (hu2.low hS.next) (fun j h1 h2 => by have := (hP.own.lt hw' h1).2; have := (hu2.lt hw4 h2).1; omega) (by omega) (Nat.le_trans hS.next hle4.next) hw4
            have hb4 := hle4.keep hw' hb
            have hb5 := (k5.get (A.next + 2) (hw4.lt hb4) (fun e => by have := (hP4.own.lt hw4 e).1; omega)).trans hb4
            have hS5 := (hS.trans (SB.of_le hle4)).app (fun j hj => (hP4.own.lt hw4 hj).1) k5
            obtain ⟨op2, cp2, hvp2, _⟩ := hP5.own.is.form
            subst hvp2
            simp only [List.length_append, List.length_cons, List.length_nil, Nat.zero_add] at hP5 e5
            have hlt5 := k5.wf.lt hb5
            repeat' (first
            | (refine lwc fun R hR => ?_; simp [wrap_i64, wrap_u64, g1, g2, g3, g4, g5, g6, g7, g14, g15, g17, hlt, hlt3, hwi, hb4, hb5, e5, AW.row_get, astore]; try simp (disch := omega) only [if_pos, if_neg, wrap_i64, wrap_u64])
            | (refine hR _ _ ?_; clear hR R) | (refine hK _ _ ?_; clear hK K) | refine lwn ?_ | refine lr ?_ | refine la ?_
            | refine wn fun K hK => ?_
            | simp only [wS, oFbZe_0, oFbZe_1]
            | refine wl Tryz.mx oFbZe_0 (by decide +kernel) fun K hK => ?_
            | refine wl Tryz.mx oFbZe_1 (by decide +kernel) fun K hK => ?_
            | refine wb ?_ | refine wr ?_ | refine wk ?_ | refine we ?_ | refine ws ?_ | refine wq ?_
            | (refine wc rfl (fun hc => ?_) (fun hc => ?_) <;> (try simp at hc) <;> (try omega))
            | (refine ib (fun hc => ?_) (fun hc => ?_) <;> (try omega) <;> (try simp (disch := omega) only [if_pos, if_neg])))
            refine ⟨n - (t + 1), by omega, t + 1, _, us ++ [.slice ou p.length cu], ps ++ [p], rfl, by omega, by rw [List.length_append, hut]; rfl, fun q hq => by
              rcases List.mem_append.1 hq with h | h
              · exact hpl q h
              · rw [List.mem_singleton.1 h]; exact hp1, ?_, ?_, ?_, ?_, ?_, ?_, ?_, ?_, ?_, ?_, hS5.set _, k5.wf.set _ hlt5, AW.set_get_same, hP5.other (fun j h1 _ => AW.set_get_ne (show j ≠ A.next + 2 by omega)) k5.wf⟩ <;> simp [g1, g2, g3, g4, g5, g6, g7, g14, g15]
          | false =>
            refine awp_seq ?_
            repeat' (first
            | (refine lwc fun R hR => ?_; simp [wrap_i64, wrap_u64, g1, g2, g3, g4, g5, g6, g7, g14, g15, g17, hlt, hlt3, hwi, hrow, hcell, hb, hb7', AW.row_get]; try simp (disch := omega) only [if_pos, if_neg, wrap_i64, wrap_u64])
            | (refine hR _ _ ?_; clear hR R) | (refine hK _ _ ?_; clear hK K) | refine lwn ?_ | refine lr ?_ | refine la ?_
            | refine wn fun K hK => ?_
            | simp only [wS, oFbZe_0, oFbZe_1]
            | refine wl Tryz.mx oFbZe_0 (by decide +kernel) fun K hK => ?_
            | refine wl Tryz.mx oFbZe_1 (by decide +kernel) fun K hK => ?_
            | (refine callK (cB _) ?_; rintro _ _ ⟨rfl, rfl⟩ _ _)
            | refine wb ?_ | refine wr ?_ | refine wk ?_ | refine we ?_ | refine ws ?_ | refine wq ?_
            | (refine wc rfl (fun hc => ?_) (fun hc => ?_) <;> (try simp at hc) <;> (try omega))
            | (refine ib (fun hc => ?_) (fun hc => ?_) <;> (try omega) <;> (try simp (disch := omega) only [if_pos, if_neg])))
            refine (program_call hn _ _ most _ plain _ hu hm).mono ?_
            rintro u2 A4 ⟨p, hp1, hu2, hle4, hw4⟩
            first | refine ⟨hle4, ?_⟩ | skip
            obtain ⟨ou, cu, hu2f, _⟩ := hu2.is.form
            subst hu2f
            have hP4 := hP.le hle4 hw'
            obtain ⟨vp', A5, e5, hP5, k5⟩ := hP4.add (hu2.low hS.next) (fun j h1 h2 => by have := (hP.own.lt hw' h1).2; have := (hu2.lt hw4 h2).1; omega) (by omega) (Nat.le_trans hS.next hle4.next) hw4
            have hb4 := hle4.keep hw' hb
            have hb5 := (k5.get (A.next + 2) (hw4.lt hb4) (fun e => by have := (hP4.own.lt hw4 e).1; omega)).trans hb4
            have hS5 := (hS.trans (SB.of_le hle4)).app (fun j hj => (hP4.own.lt hw4 hj).1) k5
            obtain ⟨op2, cp2, hvp2, _⟩ := hP5.own.is.form
            subst hvp2
            simp only [List.length_append, List.length_cons, List.length_nil, Nat.zero_add] at hP5 e5
            have hlt5 := k5.wf.lt hb5
            repeat' (first
            | (refine lwc fun R hR => ?_; simp [wrap_i64, wrap_u64, g1, g2, g3, g4, g5, g6, g7, g14, g15, g17, hlt, hlt3, hwi, hb4, hb5, e5, AW.row_get, astore]; try simp (disch := omega) only [if_pos, if_neg, wrap_i64, wrap_u64])
            | (refine hR _ _ ?_; clear hR R) | (refine hK _ _ ?_; clear hK K) | refine lwn ?_ | refine lr ?_ | refine la ?_
            | refine wn fun K hK => ?_
            | simp only [wS, oFbZe_0, oFbZe_1]
            | refine wl Tryz.mx oFbZe_0 (by decide +kernel) fun K hK => ?_
            | refine wl Tryz.mx oFbZe_1 (by decide +kernel) fun K hK => ?_
            | refine wb ?_ | refine wr ?_ | refine wk ?_ | refine we ?_ | refine ws ?_ | refine wq ?_
            | (refine wc rfl (fun hc => ?_) (fun hc => ?_) <;> (try simp at hc) <;> (try omega))
            | (refine ib (fun hc => ?_) (fun hc => ?_) <;> (try omega) <;> (try simp (disch := omega) only [if_pos, if_neg])))
            refine ⟨n - (t + 1), by omega, t + 1, _, us ++ [.slice ou p.length cu], ps ++ [p], rfl, by omega, by rw [List.length_append, hut]; rfl, fun q hq => by
              rcases List.mem_append.1 hq with h | h
              · exact hpl q h
              · rw [List.mem_singleton.1 h]; exact hp1, ?_, ?_, ?_, ?_, ?_, ?_, ?_, ?_, ?_, ?_, hS5.set _, k5.wf.set _ hlt5, AW.set_get_same, hP5.other (fun j h1 _ => AW.set_get_ne (show j ≠ A.next + 2 by omega)) k5.wf⟩ <;> simp [g1, g2, g3, g4, g5, g6, g7, g14, g15]
        · have hu : IsInts A' .i64 (.slice none 0 0) [] := IsInts.nil _ _
          cases heap with
          | true =>
            refine awp_seq ?_
            repeat' (first
            | (refine lwc fun R hR => ?_; simp [wrap_i64, wrap_u64, g1, g2, g3, g4, g5, g6, g7, g14, g15, g17, hlt, hlt3, hwi, hb, hb7', AW.row_get]; try simp (disch := omega) only [if_pos, if_neg, wrap_i64, wrap_u64])
            | (refine hR _ _ ?_; clear hR R) | (refine hK _ _ ?_; clear hK K) | refine lwn ?_ | refine lr ?_ | refine la ?_
            | refine wn fun K hK => ?_
            | simp only [wS, oFbZe_0, oFbZe_1]
            | refine wl Tryz.mx oFbZe_0 (by decide +kernel) fun K hK => ?_
            | refine wl Tryz.mx oFbZe_1 (by decide +kernel) fun K hK => ?_
            | (refine callK (cB _) ?_; rintro _ _ ⟨rfl, rfl⟩ _ _)
            | refine wb ?_ | refine wr ?_ | refine wk ?_ | refine we ?_ | refine ws ?_ | refine wq ?_
            | (refine wc rfl (fun hc => ?_) (fun hc => ?_) <;> (try simp at hc) <;> (try omega))
            | (refine ib (fun hc => ?_) (fun hc => ?_) <;> (try omega) <;> (try simp (disch := omega) only [if_pos, if_neg])))
            refine (program_call hn _ _ most _ plain _ hu hm).mono ?_
            rintro u2 A4 ⟨p, hp1, hu2, hle4, hw4⟩
            first | refine ⟨hle4, ?_⟩ | skip
            obtain ⟨ou, cu, hu2f, _⟩ := hu2.is.form
            subst hu2f
            have hP4 := hP.le hle4 hw'
            obtain ⟨vp', A5, e5, hP5, k5⟩ := hP4.add (hu2.low hS.next) (fun j h1 h2 => by have := (hP.own.lt hw' h1).2; have := (hu2.lt hw4 h2).1; omega) (by omega) (Nat.le_trans hS.next hle4.next) hw4
            have hb4 := hle4.keep hw' hb
            have hb5 := (k5.get (A.next + 2) (hw4.lt hb4) (fun e => by have := (hP4.own.lt hw4 e).1; omega)).trans hb4
            have hS5 := (hS.trans (SB.of_le hle4)).app (fun j hj => (hP4.own.lt hw4 hj).1) k5
            obtain ⟨op2, cp2, hvp2, _⟩ := hP5.own.is.form
            subst hvp2
            simp only [List.length_append, List.length_cons, List.length_nil, Nat.zero_add] at hP5 e5
            have hlt5 := k5.wf.lt hb5
            repeat' (first
            | (refine lwc fun R hR => ?_; simp [wrap_i64, wrap_u64, g1, g2, g3, g4, g5, g6, g7, g14, g15, g17, hlt, hlt3, hwi, hb4, hb5, e5, AW.row_get, astore]; try simp (disch := omega) only [if_pos, if_neg, wrap_i64, wrap_u64])
            | (refine hR _ _ ?_; clear hR R) | (refine hK _ _ ?_; clear hK K) | refine lwn ?_ | refine lr ?_ | refine la ?_
            | refine wn fun K hK => ?_
            | simp only [wS, oFbZe_0, oFbZe_1]
            | refine wl Tryz.mx oFbZe_0 (by decide +kernel) fun K hK => ?_
            | refine wl Tryz.mx oFbZe_1 (by decide +kernel) fun K hK => ?_
            | refine wb ?_ | refine wr ?_ | refine wk ?_ | refine we ?_ | refine ws ?_ | refine wq ?_
            | (refine wc rfl (fun hc => ?_) (fun hc => ?_) <;> (try simp at hc) <;> (try omega))
            | (refine ib (fun hc => ?_) (fun hc => ?_) <;> (try omega) <;> (try simp (disch := omega) only [if_pos, if_neg])))
            refine ⟨n - (t + 1), by omega, t + 1, _, us ++ [.slice ou p.length cu], ps ++ [p], rfl, by omega, by rw [List.length_append, hut]; rfl, fun q hq => by
              rcases List.mem_append.1 hq with h | h
              · exact hpl q h
              · rw [List.mem_singleton.1 h]; exact hp1, ?_, ?_, ?_, ?_, ?_, ?_, ?_, ?_, ?_, ?_, hS5.set _, k5.wf.set _ hlt5, AW.set_get_same, hP5.other (fun j h1 _ => AW.set_get_ne (show j ≠ A.next + 2 by omega)) k5.wf⟩ <;> simp [g1, g2, g3, g4, g5, g6, g7, g14, g15]
          | false =>
            refine awp_seq ?_
            repeat' (first
            | (refine lwc fun R hR => ?_; simp [wrap_i64, wrap_u64, g1, g2, g3, g4, g5, g6, g7, g14, g15, g17, hlt, hlt3, hwi, hb, hb7', AW.row_get]; try simp (disch := omega) only [if_pos, if_neg, wrap_i64, wrap_u64])
            | (refine hR _ _ ?_; clear hR R) | (refine hK _ _ ?_; clear hK K) | refine lwn ?_ | refine lr ?_ | refine la ?_
            | refine wn fun K hK => ?_
            | simp only [wS, oFbZe_0, oFbZe_1]
            | refine wl Tryz.mx oFbZe_0 (by decide +kernel) fun K hK => ?_
            | refine wl Tryz.mx oFbZe_1 (by decide +kernel) fun K hK => ?_
            | (refine callK (cB _) ?_; rintro _ _ ⟨rfl, rfl⟩ _ _)
            | refine wb ?_ | refine wr ?_ | refine wk ?_ | refine we ?_ | refine ws ?_ | refine wq ?_
            | (refine wc rfl (fun hc => ?_) (fun hc => ?_) <;> (try simp at hc) <;> (try omega))
            | (refine ib (fun hc => ?_) (fun hc => ?_) <;> (try omega) <;> (try simp (disch := omega) only [if_pos, if_neg])))
            refine (program_call hn _ _ most _ plain _ hu hm).mono ?_
            rintro u2 A4 ⟨p, hp1, hu2, hle4, hw4⟩
            first | refine ⟨hle4, ?_⟩ | skip
            obtain ⟨ou, cu, hu2f, _⟩ := hu2.is.form
            subst hu2f
            have hP4 := hP.le hle4 hw'
            obtain ⟨vp', A5, e5, hP5, k5⟩ := hP4.add (hu2.low hS.next) (fun j h1 h2 => by have := (hP.own.lt hw' h1).2; have := (hu2.lt hw4 h2).1; omega) (by omega) (Nat.le_trans hS.next hle4.next) hw4
            have hb4 := hle4.keep hw' hb
            have hb5 := (k5.get (A.next + 2) (hw4.lt hb4) (fun e => by have := (hP4.own.lt hw4 e).1; omega)).trans hb4
            have hS5 := (hS.trans (SB.of_le hle4)).app (fun j hj => (hP4.own.lt hw4 hj).1) k5
            obtain ⟨op2, cp2, hvp2, _⟩ := hP5.own.is.form
            subst hvp2
            simp only [List.length_append, List.length_cons, List.length_nil, Nat.zero_add] at hP5 e5
            have hlt5 := k5.wf.lt hb5
            repeat' (first
            | (refine lwc fun R hR => ?_; simp [wrap_i64, wrap_u64, g1, g2, g3, g4, g5, g6, g7, g14, g15, g17, hlt, hlt3, hwi, hb4, hb5, e5, AW.row_get, astore]; try simp (disch := omega) only [if_pos, if_neg, wrap_i64, wrap_u64])
            | (refine hR _ _ ?_; clear hR R) | (refine hK _ _ ?_; clear hK K) | refine lwn ?_ | refine lr ?_ | refine la ?_
            | refine wn fun K hK => ?_
            | simp only [wS, oFbZe_0, oFbZe_1]
            | refine wl Tryz.mx oFbZe_0 (by decide +kernel) fun K hK => ?_
            | refine wl Tryz.mx oFbZe_1 (by decide +kernel) fun K hK => ?_
            | refine wb ?_ | refine wr ?_ | refine wk ?_ | refine we ?_ | refine ws ?_ | refine wq ?_
            | (refine wc rfl (fun hc => ?_) (fun hc => ?_) <;> (try simp at hc) <;> (try omega))
            | (refine ib (fun hc => ?_) (fun hc => ?_) <;> (try omega) <;> (try simp (disch := omega) only [if_pos, if_neg])))
            refine ⟨n - (t + 1), by omega, t + 1, _, us ++ [.slice ou p.length cu], ps ++ [p], rfl, by omega, by rw [List.length_append, hut]; rfl, fun q hq => by
              rcases List.mem_append.1 hq with h | h
              · exact hpl q h
              · rw [List.mem_singleton.1 h]; exact hp1, ?_, ?_, ?_, ?_, ?_, ?_, ?_, ?_, ?_, ?_, hS5.set _, k5.wf.set _ hlt5, AW.set_get_same, hP5.other (fun j h1 _ => AW.set_get_ne (show j ≠ A.next + 2 by omega)) k5.wf⟩ <;> simp [g1, g2, g3, g4, g5, g6, g7, g14, g15]
      · refine awp_seq ?_
        repeat' (first
        | (refine lwc fun R hR => ?_; simp [wrap_i64, wrap_u64, g1, g2, g3, g4, g5, g6, g7, g14, g15, g17, hlt]; try simp (disch := omega) only [if_pos, if_neg, wrap_i64, wrap_u64])
        | (refine hR _ _ ?_; clear hR R) | (refine hK _ _ ?_; clear hK K) | refine lwn ?_ | refine lr ?_ | refine la ?_
        | refine wn fun K hK => ?_
        | simp only [wS, oFbZe_0, oFbZe_1]
        | refine wl Tryz.mx oFbZe_0 (by decide +kernel) fun K hK => ?_
        | refine wl Tryz.mx oFbZe_1 (by decide +kernel) fun K hK => ?_
        | refine wb ?_ | refine wr ?_ | refine wk ?_ | refine we ?_ | refine ws ?_ | refine wq ?_
        | (refine wc rfl (fun hc => ?_) (fun hc => ?_) <;> (try simp at hc) <;> (try omega))
        | (refine ib (fun hc => ?_) (fun hc => ?_) <;> (try omega) <;> (try simp (disch := omega) only [if_pos, if_neg])))
        refine ⟨_, us, ps, by omega, hpl, ?_, ?_, ?_, ?_, ?_, ?_, ?_, ?_, ?_, hS, hw', hb, hP⟩ <;> simp [g1, g2, g3, g4, g5, g6, g7, g14, g15]
  clear g1 g2 g3 g4 g5 g6 g7 g14 g15
  rintro fr A3 ⟨vp, us, ps, hun, hpl, g1, g2, g3, g4, g5, g6, g7, g14, g15, hS2, hw3, hb3, hP⟩
  have hle3 := hS2.le hle2 (by omega)
  have hn3 : A.next + 3 ≤ A3.next := Nat.le_trans hn2 hS2.next
  obtain ⟨op', cp', hvp, _⟩ := hP.own.is.form
  subst hvp
  have hb14 := (hS2.get (A.next + 1) (by omega) (by omega)).trans hb14
  have hP3 : ∀ A', SB A3 (A.next + 2) A' → PS A2.next A' (.slice op' us.length cp') us ps := fun A' h => hP.other (fun j h1 h2 => h.get j h2 (by omega)) hw3
  have hI3 : ∀ A', SB A3 (A.next + 2) A' → OwnSl A1.next A' 1 (.slice oi ni cpi) ni (zs.map (Value.int .u64)) := fun A' h => hI A' (hS2.trans h)
  have hn23 := hS2.next
  clear hS2 hP hI
  refine awp_seq ?_
  repeat' (first
  | (refine lwc fun R hR => ?_; simp [wrap_i64, wrap_u64, g1, g6, g14, g15]; try simp (disch := omega) only [if_pos, if_neg, wrap_i64, wrap_u64])
  | (refine hR _ _ ?_; clear hR R) | (refine hK _ _ ?_; clear hK K) | refine lwn ?_ | refine lr ?_ | refine la ?_
  | refine wn fun K hK => ?_
  | simp only [wS, oFbZe_0, oFbZe_1]
  | refine wl Tryz.mx oFbZe_0 (by decide +kernel) fun K hK => ?_
  | refine wl Tryz.mx oFbZe_1 (by decide +kernel) fun K hK => ?_
  | refine wb ?_ | refine wr ?_ | refine wk ?_ | refine we ?_ | refine ws ?_ | refine wq ?_
  | (refine wc rfl (fun hc => ?_) (fun hc => ?_) <;> (try simp at hc) <;> (try omega))
  | (refine ib (fun hc => ?_) (fun hc => ?_) <;> (try omega) <;> (try simp (disch := omega) only [if_pos, if_neg])))
  refine awp_joinB (fun fr A' => ∃ (vk : Value) (kl : List Int), kl.length = pk.length ∧ fr 1 = .int .i64 n ∧ fr 6 = .slice okk pk.length ckk ∧ fr 14 = .pointer (some ⟨A.next + 1, 0, none⟩) ∧ fr 15 = .pointer (some ⟨A.next + 2, 0, none⟩) ∧
    SB A3 (A.next + 2) A' ∧ A'.Wf ∧ A'.get (A.next + 2) = some (.cells [.int .i64 (wsz : Int), .int .i64 ords, .int .i64 bas, .int .i64 c0, .int .i64 c1, .int .i64 c2, .int .i64 c3, .int .i64 rds, .int .i64 wrs, .int .i64 als, .int .i64 fre, .int .i64 clk, .bool stg, .slice oi ni cpi, .slice op' us.length cp', vk] true 1) ∧ OwnSl A3.next A' 1 vk kl.length (kl.map (Value.int .i64))) ?_ ?_
  · refine awp_loop (fun k fr A' => ∃ (i : Nat) (vk : Value) (kl : List Int), k = pk.length - i ∧ i ≤ pk.length ∧ kl.length = i ∧ fr 1 = .int .i64 n ∧ fr 6 = .slice okk pk.length ckk ∧ fr 14 = .pointer (some ⟨A.next + 1, 0, none⟩) ∧ fr 15 = .pointer (some ⟨A.next + 2, 0, none⟩) ∧ fr 19 = .int .i64 i ∧
      SB A3 (A.next + 2) A' ∧ A'.Wf ∧ A'.get (A.next + 2) = some (.cells [.int .i64 (wsz : Int), .int .i64 ords, .int .i64 bas, .int .i64 c0, .int .i64 c1, .int .i64 c2, .int .i64 c3, .int .i64 rds, .int .i64 wrs, .int .i64 als, .int .i64 fre, .int .i64 clk, .bool stg, .slice oi ni cpi, .slice op' us.length cp', vk] true 1) ∧ OwnSl A3.next A' 1 vk kl.length (kl.map (Value.int .i64))) pk.length ?_ ?_
    · exact ⟨0, _, [], rfl, Nat.zero_le _, rfl, by simp [g1], by simp [g6], by simp [g14], by simp [g15], rfl, SB.refl _ _, hw3, hb3, OwnSl.nil _ _ _⟩
    · clear g1 g2 g3 g4 g5 g6 g7 g14 g15
      rintro k fr A' ⟨i, vk, kl, rfl, hi, hkli, g1, g6, g14, g15, g19, hS, hw', hb, hown⟩
      have hlt2 := hw'.lt hb
      obtain ⟨ovk, cvk, hvk, _⟩ := hown.is.form
      subst hvk
      by_cases hlt : i < pk.length
      · have hn1 : 1 ≤ n := by
          rcases hnp with rfl | h
          · simp at hlt
          · exact h
        obtain ⟨q, row, hq', hrow, hcell⟩ := (hk.le (hS.le hle3 (by omega)) hw).at hlt
        subst hq'
        have cP := fun B => place_call pk[i] (n : Int) B (by omega) (by omega)
        generalize placeF pk[i] n = pv at cP
        generalize pk[i] = px at hcell cP
        have hwi : IntKind.i64.wrap ((i : Int) + 1) = ((i + 1 : Nat) : Int) := wrap_i64 (by omega) (by omega)
        obtain ⟨vk', A4, e4, hown4, k4⟩ := app_one8 (P := Tryz.prog) (.int .i64 pv) Tryz.underlying40 Tryz.info3 Tryz.zero3 rfl rfl (by simp) rfl hown (by omega) hS.next hw'
        have hne : slBlock (.slice ovk kl.length cvk) ≠ some (A.next + 2) := fun e => by have := (hown.lt hw' e).1; omega
        have hb4 := (k4.get (A.next + 2) hlt2 hne).trans hb
        have hlt4 := k4.wf.lt hb4
        have hS4 := hS.app (fun j hj => (hown.lt hw' hj).1) k4
        have hst : pk.length - i = (pk.length - (i + 1)) + 1 := by omega
        obtain ⟨ok4, ck4, hvk4, _⟩ := hown4.is.form
        subst hvk4
        refine awp_seq ?_
        repeat' (first
        | (refine lwc fun R hR => ?_; simp [wrap_i64, wrap_u64, g1, g6, g14, g15, g19, hlt, hwi, hrow, hcell, hb, hb4, e4, AW.row_get, astore]; try simp (disch := omega) only [if_pos, if_neg, wrap_i64, wrap_u64])
        | (refine hR _ _ ?_; clear hR R) | (refine hK _ _ ?_; clear hK K) | refine lwn ?_ | refine lr ?_ | refine la ?_
        | refine wn fun K hK => ?_
        | simp only [wS, oFbZe_0, oFbZe_1]
        | refine wl Tryz.mx oFbZe_0 (by decide +kernel) fun K hK => ?_
        | refine wl Tryz.mx oFbZe_1 (by decide +kernel) fun K hK => ?_
        | (refine callK (cP _) ?_; rintro _ _ ⟨rfl, rfl⟩ _ _)
        | refine wb ?_ | refine wr ?_ | refine wk ?_ | refine we ?_ | refine ws ?_ | refine wq ?_
        | (refine wc rfl (fun hc => ?_) (fun hc => ?_) <;> (try simp at hc) <;> (try omega))
        | (refine ib (fun hc => ?_) (fun hc => ?_) <;> (try omega) <;> (try simp (disch := omega) only [if_pos, if_neg])))
        refine ⟨pk.length - (i + 1), by omega, i + 1, .slice ok4 (kl.length + 1) ck4, kl ++ [pv], rfl, by omega, by simp [hkli], ?_, ?_, ?_, ?_, ?_, hS4.set _, k4.wf.set _ hlt4, AW.set_get_same, ?_⟩
        rotate_right
        · have h := hown4.other (A' := A4.set (A.next + 2) (some (.cells [.int .i64 (wsz : Int), .int .i64 ords, .int .i64 bas, .int .i64 c0, .int .i64 c1, .int .i64 c2, .int .i64 c3, .int .i64 rds, .int .i64 wrs, .int .i64 als, .int .i64 fre, .int .i64 clk, .bool stg, .slice oi ni cpi, .slice op' us.length cp', .slice ok4 (kl.length + 1) ck4] true 1))) fun j hj => AW.set_get_ne (fun e => by have := (hown4.lt k4.wf hj).1; omega)
          simpa using h
        all_goals simp [g1, g6, g14, g15]
      · refine awp_seq ?_
        repeat' (first
        | (refine lwc fun R hR => ?_; simp [wrap_i64, wrap_u64, g1, g6, g14, g15, g19, hlt]; try simp (disch := omega) only [if_pos, if_neg, wrap_i64, wrap_u64])
        | (refine hR _ _ ?_; clear hR R) | (refine hK _ _ ?_; clear hK K) | refine lwn ?_ | refine lr ?_ | refine la ?_
        | refine wn fun K hK => ?_
        | simp only [wS, oFbZe_0, oFbZe_1]
        | refine wl Tryz.mx oFbZe_0 (by decide +kernel) fun K hK => ?_
        | refine wl Tryz.mx oFbZe_1 (by decide +kernel) fun K hK => ?_
        | refine wb ?_ | refine wr ?_ | refine wk ?_ | refine we ?_ | refine ws ?_ | refine wq ?_
        | (refine wc rfl (fun hc => ?_) (fun hc => ?_) <;> (try simp at hc) <;> (try omega))
        | (refine ib (fun hc => ?_) (fun hc => ?_) <;> (try omega) <;> (try simp (disch := omega) only [if_pos, if_neg])))
        refine ⟨_, kl, by omega, ?_, ?_, ?_, ?_, hS, hw', hb, hown⟩ <;> simp [g1, g6, g14, g15]
  clear g1 g2 g3 g4 g5 g6 g7 g14 g15
  rintro fr A4 ⟨vk, kl, hkl', g1, g6, g14, g15, hS, hw4, hb4, hown⟩
  have hb14' := (hS.get (A.next + 1) (by omega) (by omega)).trans hb14
  obtain ⟨ok4, ck4, hvk4, _⟩ := hown.is.form
  subst hvk4
  have hP4 := hP3 A4 hS
  have hlt14 := hw4.lt hb14'
  have hA4 : A3.next ≤ A4.next := hS.next
  have hle4 := hS.le hle3 (by omega)
  have hne : ¬ A.next + 2 = A.next + 1 := by omega
  have hne2 : ¬ A.next + 1 = A.next + 2 := by omega
  unfold scZero at hb14'
  repeat' (first
  | (refine lwc fun R hR => ?_; simp [wrap_i64, wrap_u64, g1, g6, g14, g15, hb14', hb4, AW.row_get, astore, hne, hne2]; try simp (disch := omega) only [if_pos, if_neg, wrap_i64, wrap_u64])
  | (refine hR _ _ ?_; clear hR R) | (refine hK _ _ ?_; clear hK K) | refine lwn ?_ | refine lr ?_ | refine la ?_
  | refine wn fun K hK => ?_
  | simp only [wS, oFbZe_0, oFbZe_1]
  | refine wl Tryz.mx oFbZe_0 (by decide +kernel) fun K hK => ?_
  | refine wl Tryz.mx oFbZe_1 (by decide +kernel) fun K hK => ?_
  | refine wb ?_ | refine wr ?_ | refine wk ?_ | refine we ?_ | refine ws ?_ | refine wq ?_
  | (refine wc rfl (fun hc => ?_) (fun hc => ?_) <;> (try simp at hc) <;> (try omega))
  | (refine ib (fun hc => ?_) (fun hc => ?_) <;> (try omega) <;> (try simp (disch := omega) only [if_pos, if_neg])))
  refine ⟨_, by first | (simp [ares, aresL, ares1, g14, aload, AW.row_get]; done) | (simp [ares, aresL, ares1, g14, aload, AW.row_get]; rfl), oi, ni, cpi, _, ok4, ck4, us, ps, kl, zs, A2.next, rfl, by omega, hP4.other (fun j h1 _ => AW.set_get_ne (show j ≠ A.next + 1 by omega)) hw4, hle4.set (by omega) _, hw4.set _ hlt14, (hown.other fun j hj => AW.set_get_ne (fun e => by have := (hown.lt hw4 hj).1; omega)).low hn23, hkl', hun, hpl, fun j o hj => ?_, hzl, ?_, fun j hj => (hI2 j hj).2⟩
  rotate_left
  · exact ((hI3 A4 hS).other fun j hj => AW.set_get_ne (fun e => by have := (hI2 j hj).1; omega)).low (by omega)
  have hj3 := (hown.lt hw4 hj).1
  refine ((hP3 (A4.set j o) ⟨hS.next, fun i h1 h2 => by rw [AW.set_get_ne (by omega)]; exact hS.get i h1 h2⟩).other (fun i h1 h2 => ?_) (hw4.set _ (hown.lt hw4 hj).2))
  by_cases e : i = j
  · subst e
    rw [AW.set_get_same, AW.set_get_same]
  · rw [AW.set_get_ne e, AW.set_get_ne (by omega), AW.set_get_ne e]
end Go.Stx
