/-
  The statement on an attempt alone.
-/
import Derived.Test.YtncmjklabcoeaaaGreatX02
import Derived.Test.YtncmjklabcoeaaaGreatXAloneP
namespace Go.Stx
open Go Go.Proofs
def oAlone_0 : List (Nat × Nat) := [(0, 0), (1, 0), (2, 0), (3, 0), (4, 0), (5, 0), (6, 0), (7, 2), (8, 0)]
def oAlone_1 : List (Nat × Nat) := [(0, 0), (1, 0), (2, 0), (3, 0), (4, 0), (5, 0), (6, 0), (7, 0), (8, 0), (9, 3), (10, 0)]
def oAlone_2 : List (Nat × Nat) := [(0, 0), (1, 0), (2, 0), (3, 0), (4, 0), (5, 2), (6, 0), (7, 0), (8, 0), (9, 0), (10, 3)]
attribute [local irreducible] fj cm aH bB dK ei
set_option linter.unusedVariables false
set_option linter.unusedSimpArgs false


def alL (c : bG) (a r pb mb n5 n6 n8 : Nat) (vw vo : Value) (W U : List Int) (M : Mm) (s : aD) (h0 : Hp) : List It :=
  [.h (bI a s), eb pb M, .at n8 (.cells [pv a, pv r] true 1), .at n5 (oK c), .at n6 (.cells [pv pb, pv mb] true 1), .h (ar .u64 vw W), .h (ar .u64 vo U), .h (LJ h0)]
theorem alL_keeps {A A' : AW} {c : bG} {a r pb mb n5 n6 n8 : Nat} {vw vo : Value} {W U : List Int} {M : Mm} {s : aD} (h : an A' (alL c a r pb mb n5 n6 n8 vw vo W U M s A.cy)) : oP A A' := h.keeps 7 rfl

def phaA (s : aD) : Prop := (∃ a v, s.aA = .jV (.fu a v)) ∨ s.aA = .ej ∨ s.aA = .bm
structure AlW (c : bG) (no i n : Nat) (D0 O W U : List Int) (S : Int → Prop) (s : aD) (M : Mm) : Prop where
  ok : oW c n s
  mok : oR c 2 n M
  wr : WrI D0 O W S i s M
  mu : n + muA s ≤ 4 + i
  ph : phaA s
  wl : W.length = D0.length
  ul : U.length = no
  us : ∀ j : Nat, S j → U.getD j 0 = 64
  un : ∀ j : Nat, ¬ S j → U.getD j 0 = 0
def AlJ (c : bG) (a r pb mb n5 n6 n8 no : Nat) (o : Option Addr) (len cp : Nat) (vw vo : Value) (D0 O : List Int) (h0 : Hp) (i n : Nat) (W U : List Int) (S : Int → Prop) (s : aD) (M : Mm) (fr : Fr) (A : AW) : Prop :=
  fr 1 = .slice o len cp ∧ fr 5 = pv n5 ∧ fr 6 = pv n6 ∧ fr 8 = pv n8 ∧ fr 10 = vw ∧ fr 11 = vo ∧ fr 12 = .int .i64 n ∧ A.Wf ∧ AlW c no i n D0 O W U S s M ∧ an A (alL c a r pb mb n5 n6 n8 vw vo W U M s h0)

set_option maxRecDepth 100000 in
set_option maxHeartbeats 8000000 in
theorem alone_call (l0 l1 l2 l3 l4 : Int) (vs : Value) (qs : List nc) (A : AW) (hs : qZ A vs qs) :
    aH Tryz.prog 3 [.agg #[.int .i64 l0, .int .i64 l1, .int .i64 l2, .int .i64 l3, .int .i64 l4], vs] A (fun v A' => v = .bool true) := by
  refine ab Tryz.func3 rfl (by kernel_rfl) fun hw => ?_
  obtain ⟨o, cp, rfl, _⟩ := hs.cL
  by_cases h8 : 8 < qs.length
  · have h8i : (8 : Int) < qs.length := by omega
    repeat' (first
    | (refine il fun R hR => ?_; simp [ak, au, h8, h8i, AW.aa]; try simp (disch := omega) only [if_pos, if_neg, ak, au])
    | (refine hR _ _ ?_; clear hR R) | (refine hK _ _ ?_; clear hK K) | refine Vt ?_ | refine lr ?_ | refine la ?_
    | refine wn fun K hK => ?_
    | simp only [wS, oAlone_0, oAlone_1, oAlone_2]
    | refine wl Tryz.mx oAlone_0 (by decide +kernel) fun K hK => ?_
    | refine wl Tryz.mx oAlone_1 (by decide +kernel) fun K hK => ?_
    | refine wl Tryz.mx oAlone_2 (by decide +kernel) fun K hK => ?_
    | refine wb ?_ | refine wr ?_ | refine wk ?_ | refine we ?_ | refine ws ?_ | refine wq ?_
    | (refine wc rfl (fun hc => ?_) (fun hc => ?_) <;> (try simp at hc) <;> (try omega) <;> (try (simp [h2] at hc; done)) <;> (try (simp [h3] at hc; done)) <;> (try (simp [h4] at hc; done)))
    | (refine ib (fun hc => ?_) (fun hc => ?_) <;> (try omega) <;> (try simp (disch := omega) only [if_pos, if_neg])))
    refine bD (vj _) ?_
    rintro _ A1 rfl w1 _
    repeat' (first
    | (refine il fun R hR => ?_; simp [ak, au, h8]; try simp (disch := omega) only [if_pos, if_neg, ak, au])
    | (refine hR _ _ ?_; clear hR R) | (refine hK _ _ ?_; clear hK K) | refine Vt ?_ | refine lr ?_ | refine la ?_
    | refine wn fun K hK => ?_
    | simp only [wS, oAlone_0, oAlone_1, oAlone_2]
    | refine wl Tryz.mx oAlone_0 (by decide +kernel) fun K hK => ?_
    | refine wl Tryz.mx oAlone_1 (by decide +kernel) fun K hK => ?_
    | refine wl Tryz.mx oAlone_2 (by decide +kernel) fun K hK => ?_
    | refine wb ?_ | refine wr ?_ | refine wk ?_ | refine we ?_ | refine ws ?_ | refine wq ?_
    | (refine wc rfl (fun hc => ?_) (fun hc => ?_) <;> (try simp at hc) <;> (try omega) <;> (try (simp [h2] at hc; done)) <;> (try (simp [h3] at hc; done)) <;> (try (simp [h4] at hc; done)))
    | (refine ib (fun hc => ?_) (fun hc => ?_) <;> (try omega) <;> (try simp (disch := omega) only [if_pos, if_neg])))
    simp
  have h8i : ¬ (8 : Int) < qs.length := by omega
  obtain ⟨c0, VR, PZ⟩ := Gs l0 l1 l2 l3 l4
  obtain ⟨c, hc⟩ : ∃ c : bG, c = { c0 with bX := 8, ao := 10 } := ⟨_, rfl⟩
  have RS : rj c := by
    subst hc
    have h := VR.YA
    exact ⟨{ h.ok with bX := by show (1 : Int) ≤ 8 ∧ (8 : Int) ≤ 32; omega, ao := by show (0 : Int) ≤ 10 ∧ (10 : Int) ≤ 1099511627776; omega }, h.c0, h.c1, h.c2, h.c3⟩
  have Co := RS.ok
  have iz : c.ao = 10 := by rw [hc]
  have hcw8 : c.bX = 8 := by rw [hc]
  have dn := fun (A : AW) F hw hS => yl c RS 2 (by decide) (by decide) A F hw hS
  have e2 : ((2 : Nat) : Int) = 2 := rfl
  rw [e2] at dn
  dsimp only [bG.v] at dn PZ
  have hS : an A [.h (LJ A.cy)] := by
    show bK A (LJ A.cy * fa)
    rw [dx]
    exact ⟨A.cy, rfl, fun i o h => h⟩
  have q0 : c0.aF = c.aF := by rw [hc]
  have q1 : c0.aj = c.aj := by rw [hc]
  have q2 : c0.base = c.base := by rw [hc]
  have q3 : c0.c0 = c.c0 := by rw [hc]
  have q4 : c0.c1 = c.c1 := by rw [hc]
  have q5 : c0.c2 = c.c2 := by rw [hc]
  have q6 : c0.c3 = c.c3 := by rw [hc]
  have q7 : c0.ah = c.ah := by rw [hc]
  have q9 : c0.ac = c.ac := by rw [hc]
  have q10 : c0.ap = c.ap := by rw [hc]
  have q12 : c0.cT = c.cT := by rw [hc]
  rw [q0, q1, q2, q3, q4, q5, q6, q7, q9, q10, q12] at PZ
  rw [iz, hcw8] at dn
  clear hc q0 q1 q2 q3 q4 q5 q6 q7 q9 q10 q12
  repeat' (first
  | (refine il fun R hR => ?_; simp [ak, au, h8, h8i, AW.aa, af]; try simp (disch := omega) only [if_pos, if_neg, ak, au])
  | (refine hR _ _ ?_; clear hR R) | (refine hK _ _ ?_; clear hK K) | refine Vt ?_ | refine lr ?_ | refine la ?_
  | refine wn fun K hK => ?_
  | simp only [wS, oAlone_0, oAlone_1, oAlone_2]
  | refine wl Tryz.mx oAlone_0 (by decide +kernel) fun K hK => ?_
  | refine wl Tryz.mx oAlone_1 (by decide +kernel) fun K hK => ?_
  | refine wl Tryz.mx oAlone_2 (by decide +kernel) fun K hK => ?_
  | (refine bD (PZ _) ?_; rintro _ _ ⟨rfl, rfl⟩ _ _)
  | refine wb ?_ | refine wr ?_ | refine wk ?_ | refine we ?_ | refine ws ?_ | refine wq ?_
  | (refine wc rfl (fun hc => ?_) (fun hc => ?_) <;> (try simp at hc) <;> (try omega) <;> (try (simp [h2] at hc; done)) <;> (try (simp [h3] at hc; done)) <;> (try (simp [h4] at hc; done)))
  | (refine ib (fun hc => ?_) (fun hc => ?_) <;> (try omega) <;> (try simp (disch := omega) only [if_pos, if_neg])))
  refine Ji (fun F h => dn _ F wA h) sA ?_
  intro pb mb A1 mg gJ
  have hM := B5 RS 2
  have hI := WrI.start RS iz
  obtain ⟨M0, hM0⟩ : ∃ M0, km c 2 (hZ c) = M0 := ⟨_, rfl⟩
  have hO : ∀ j : Nat, (M0 1).getD j 0 = 0 := by
    intro j
    rw [← hM0]
    show (List.replicate c.aj.toNat (0 : Int)).getD j 0 = 0
    rw [List.getD_eq_getElem?_getD, List.getElem?_replicate]
    split <;> rfl
  rw [hM0] at mg hM hI
  have hA := Cy (tK Co 0 1 (by decide))
  obtain ⟨n5, hn5⟩ : ∃ n5, n5 = A.next + 1 := ⟨_, rfl⟩
  have hS := an.toL [eb pb M0, fw c mb M0, .at n5 (oK c), .h (LJ A.cy)] mg (by
    rw [hn5]
    dsimp only [oK]
    rw [iz, hcw8]
    (· repeat' (first | apply aX.z | apply aX.s | apply ay.z | apply ay.ly | apply ay.qC | apply ay.s)))
  have hw := gJ
  clear mg gJ
  have hq := hS.eA hw
  dsimp only [List.cons_append, List.nil_append, bp, bY, cS, eN, eb, fw] at hq
  have tS := fun (A : AW) L hw hS => HW c Co 1 A L hw hS
  dsimp only [bG.v] at tS
  rw [← hn5]
  repeat' (first
  | (refine il fun R hR => ?_; simp [ak, au, hq, AW.aa, af]; try simp (disch := omega) only [if_pos, if_neg, ak, au])
  | (refine hR _ _ ?_; clear hR R) | (refine hK _ _ ?_; clear hK K) | refine Vt ?_ | refine lr ?_ | refine la ?_
  | refine wn fun K hK => ?_
  | simp only [wS, oAlone_0, oAlone_1, oAlone_2]
  | refine wl Tryz.mx oAlone_0 (by decide +kernel) fun K hK => ?_
  | refine wl Tryz.mx oAlone_1 (by decide +kernel) fun K hK => ?_
  | refine wl Tryz.mx oAlone_2 (by decide +kernel) fun K hK => ?_
  | refine wb ?_ | refine wr ?_ | refine wk ?_ | refine we ?_ | refine ws ?_ | refine wq ?_
  | (refine wc rfl (fun hc => ?_) (fun hc => ?_) <;> (try simp at hc) <;> (try omega) <;> (try (simp [h2] at hc; done)) <;> (try (simp [h3] at hc; done)) <;> (try (simp [h4] at hc; done)))
  | (refine ib (fun hc => ?_) (fun hc => ?_) <;> (try omega) <;> (try simp (disch := omega) only [if_pos, if_neg])))
  refine bD (tS _ _ wA sA) ?_
  rintro _ A2 ⟨⟨a, r⟩, rfl, rl⟩ IJ _
  have V8 : (jG (iD c 1)).1 = 0 := rfl
  have P4 := Ae a (iD c 1)
  rw [V8] at P4
  obtain ⟨s0, F4⟩ : ∃ s0, (jG (iD c 1)).2 = s0 := ⟨_, rfl⟩
  rw [F4] at P4 hA hI
  have Zs : s0.aA = .ej := by rw [← F4]; rfl
  have hS := rl
  have hw := IJ
  clear rl IJ hq
  have hq := hS.eA hw
  dsimp only [List.cons_append, List.nil_append, bp, bY, cS, eN, eb, fw, oK] at hq
  repeat' (first
  | (refine il fun R hR => ?_; simp [ak, au, hq, AW.aa, af]; try simp (disch := omega) only [if_pos, if_neg, ak, au])
  | (refine hR _ _ ?_; clear hR R) | (refine hK _ _ ?_; clear hK K) | refine Vt ?_ | refine lr ?_ | refine la ?_
  | refine wn fun K hK => ?_
  | simp only [wS, oAlone_0, oAlone_1, oAlone_2]
  | refine wl Tryz.mx oAlone_0 (by decide +kernel) fun K hK => ?_
  | refine wl Tryz.mx oAlone_1 (by decide +kernel) fun K hK => ?_
  | refine wl Tryz.mx oAlone_2 (by decide +kernel) fun K hK => ?_
  | refine wb ?_ | refine wr ?_ | refine wk ?_ | refine we ?_ | refine ws ?_ | refine wq ?_
  | (refine wc rfl (fun hc => ?_) (fun hc => ?_) <;> (try simp at hc) <;> (try omega) <;> (try (simp [h2] at hc; done)) <;> (try (simp [h3] at hc; done)) <;> (try (simp [h4] at hc; done)))
  | (refine ib (fun hc => ?_) (fun hc => ?_) <;> (try omega) <;> (try simp (disch := omega) only [if_pos, if_neg])))
  obtain ⟨n6, hn6⟩ : ∃ n6, n6 = A1.next := ⟨_, rfl⟩
  obtain ⟨n8, XS⟩ : ∃ n8, n8 = A2.next := ⟨_, rfl⟩
  rw [← hn6, ← XS]
  rw [← hn6] at hS
  have ta := an.jd (o' := .cells [pv a, pv r] true 1) (an.jn (o := .cells [.pointer none, .pointer none] true 1) hS hw) .z
  have s7 := (hw.alloc (.cells [.pointer none, .pointer none] true 1)).set (i := A2.next) (some (.cells [pv a, pv r] true 1)) (by simp)
  rw [← XS] at ta s7
  refine aP.el P4 s7 ta pP ?_
  clear hS hw hq ta s7
  rintro _ A3 rfl hS hw _
  have hS := an.toL [fw c mb M0, .h (bI a s0), eb pb M0, .at n8 (.cells [pv a, pv r] true 1), .at n5 (oK c), .at n6 (.cells [pv pb, pv mb] true 1), .h (LJ A.cy)] hS pP
  obtain ⟨v0, v1, v5, v6, v7, hg, VX⟩ := eX.Ot (A := A3) hS
  obtain ⟨w0, w1, w5, w6, w7, ew, i0, _⟩ := VX
  injection ew with ew
  have ew0 : v0 = w0 := by injection ew with ew; injection ew
  rw [← ew0] at i0
  clear ew
  dsimp only [bG.cells, List.cons_append, List.nil_append] at hg
  obtain ⟨ng, Vs⟩ := hw.dH hg
  obtain ⟨ov, cv, rfl, _⟩ := i0.cL
  have hS := an.tail hS
  have hq := hS.eA hw
  dsimp only [List.cons_append, List.nil_append, bp, bY, cS, eN, eb, fw, oK] at hq
  repeat' (first
  | (refine il fun R hR => ?_; simp [ak, au, hq, hg, AW.aa, af]; try simp (disch := omega) only [if_pos, if_neg, ak, au])
  | (refine hR _ _ ?_; clear hR R) | (refine hK _ _ ?_; clear hK K) | refine Vt ?_ | refine lr ?_ | refine la ?_
  | refine wn fun K hK => ?_
  | simp only [wS, oAlone_0, oAlone_1, oAlone_2]
  | refine wl Tryz.mx oAlone_0 (by decide +kernel) fun K hK => ?_
  | refine wl Tryz.mx oAlone_1 (by decide +kernel) fun K hK => ?_
  | refine wl Tryz.mx oAlone_2 (by decide +kernel) fun K hK => ?_
  | refine wb ?_ | refine wr ?_ | refine wk ?_ | refine we ?_ | refine ws ?_ | refine wq ?_
  | (refine wc rfl (fun hc => ?_) (fun hc => ?_) <;> (try simp at hc) <;> (try omega) <;> (try (simp [h2] at hc; done)) <;> (try (simp [h3] at hc; done)) <;> (try (simp [h4] at hc; done)))
  | (refine ib (fun hc => ?_) (fun hc => ?_) <;> (try omega) <;> (try simp (disch := omega) only [if_pos, if_neg])))
  have hl39 : (M0 0).length < 2^39 := hM.Rl Co (by decide) 0 (by omega)
  refine bD (twinWords_call _ (M0 0) A3 i0 hl39) ?_
  rintro vw A4 ⟨kD, eG⟩ IJ _
  have hS := ar.kZ (F := bn [.h (bI a s0), eb pb M0, .at n8 (.cells [pv a, pv r] true 1), .at n5 (oK c), .at n6 (.cells [pv pb, pv mb] true 1), .h (LJ A.cy)]) hS hw eG kD
  have hS : an A4 [.h (ar .u64 vw (M0 0)), .h (bI a s0), eb pb M0, .at n8 (.cells [pv a, pv r] true 1), .at n5 (oK c), .at n6 (.cells [pv pb, pv mb] true 1), .h (LJ A.cy)] := hS
  have hw := IJ
  clear hq hg ng Vs i0 kD eG IJ
  obtain ⟨no, xJ⟩ : ∃ no : Nat, c.aj = no := ⟨c.aj.toNat, by have := Co.aj; omega⟩
  have HQ : 1 ≤ no ∧ no ≤ 64 := by have := Co.aj; omega
  have hq := hS.eA hw
  dsimp only [List.cons_append, List.nil_append, bp, bY, cS, eN, eb, fw, oK] at hq
  repeat' (first
  | (refine il fun R hR => ?_; simp [ak, au, hq, xJ, AW.aa, af]; try simp (disch := omega) only [if_pos, if_neg, ak, au])
  | (refine hR _ _ ?_; clear hR R) | (refine hK _ _ ?_; clear hK K) | refine Vt ?_ | refine lr ?_ | refine la ?_
  | refine wn fun K hK => ?_
  | simp only [wS, oAlone_0, oAlone_1, oAlone_2]
  | refine wl Tryz.mx oAlone_0 (by decide +kernel) fun K hK => ?_
  | refine wl Tryz.mx oAlone_1 (by decide +kernel) fun K hK => ?_
  | refine wl Tryz.mx oAlone_2 (by decide +kernel) fun K hK => ?_
  | refine wb ?_ | refine wr ?_ | refine wk ?_ | refine we ?_ | refine ws ?_ | refine wq ?_
  | (refine wc rfl (fun hc => ?_) (fun hc => ?_) <;> (try simp at hc) <;> (try omega) <;> (try (simp [h2] at hc; done)) <;> (try (simp [h3] at hc; done)) <;> (try (simp [h4] at hc; done)))
  | (refine ib (fun hc => ?_) (fun hc => ?_) <;> (try omega) <;> (try simp (disch := omega) only [if_pos, if_neg])))
  have lp := an.K8 .u64 no hS hw
  have it := hw.alloc (.cells (fh [.int .u64 0] no) true 1)
  obtain ⟨vo, hvo⟩ : ∃ vo : Value, .slice (some ⟨A4.next, 0, none⟩) no no = vo := ⟨_, rfl⟩
  rw [hvo] at lp
  rw [hvo]
  have ru : an _ (alL c a r pb mb n5 n6 n8 vw vo (M0 0) (List.replicate no 0) M0 s0 A.cy) := an.toL (alL c a r pb mb n5 n6 n8 vw vo (M0 0) (List.replicate no 0) M0 s0 A.cy) lp pP
  have hmu : muA s0 = 3 := by rw [← F4]; rfl
  have hW : AlW c no 0 0 (M0 0) (M0 1) (M0 0) (List.replicate no 0) (fun _ => False) s0 M0 := ⟨hA, hM, hI, by omega, .inr (.inl Zs), rfl, by simp, fun j e => e.elim, fun j _ => by
    rw [List.getD_eq_getElem?_getD, List.getElem?_replicate]
    split <;> rfl⟩
  refine awp_joinB (fun fr A' => ∃ n W U S s M, s.aA = .bm ∧ AlJ c a r pb mb n5 n6 n8 no o qs.length cp vw vo (M0 0) (M0 1) A.cy qs.length n W U S s M fr A') ?_ ?_
  · refine ed (fun k fr A' => ∃ i n W U S s M, k = qs.length + 1 - i ∧ i ≤ qs.length ∧ fr 13 = .int .i64 (i : Nat) ∧ AlJ c a r pb mb n5 n6 n8 no o qs.length cp vw vo (M0 0) (M0 1) A.cy i n W U S s M fr A') (qs.length + 1) ?_ ?_
    · exact ⟨0, 0, M0 0, List.replicate no 0, fun _ => False, s0, M0, by simp, by simp, by simp, by simp, by simp, by simp [hn6], by simp [XS], by simp, by simp, by simp, it, hW, ru⟩
    clear hW hmu ru lp it hS hw hq Zs hA hI F4
    rintro k fr A5 ⟨i, n, W, U, S, s, M, rfl, hi, g13, g1, g5, g6, g8, DR, g11, DQ, hw, hW, hS⟩
    have eG : (i : Int) ≤ (qs.length : Int) := by omega
    repeat' (first
    | (refine il fun R hR => ?_; simp [ak, au, g1, g5, g6, g8, DR, g11, DQ, g13, eG]; try simp (disch := omega) only [if_pos, if_neg, ak, au])
    | (refine hR _ _ ?_; clear hR R) | (refine hK _ _ ?_; clear hK K) | refine Vt ?_ | refine lr ?_ | refine la ?_
    | refine wn fun K hK => ?_
    | simp only [wS, oAlone_0, oAlone_1, oAlone_2]
    | refine wl Tryz.mx oAlone_0 (by decide +kernel) fun K hK => ?_
    | refine wl Tryz.mx oAlone_1 (by decide +kernel) fun K hK => ?_
    | refine wl Tryz.mx oAlone_2 (by decide +kernel) fun K hK => ?_
    | refine wb ?_ | refine wr ?_ | refine wk ?_ | refine we ?_ | refine ws ?_ | refine wq ?_
    | (refine wc rfl (fun hc => ?_) (fun hc => ?_) <;> (try simp at hc) <;> (try omega) <;> (try (simp [h2] at hc; done)) <;> (try (simp [h3] at hc; done)) <;> (try (simp [h4] at hc; done)))
    | (refine ib (fun hc => ?_) (fun hc => ?_) <;> (try omega) <;> (try simp (disch := omega) only [if_pos, if_neg])))
    refine awp_joinB (fun fr A' => fr 13 = .int .i64 (i : Nat) ∧ ∃ n s M, s.aA = .bm ∧ AlJ c a r pb mb n5 n6 n8 no o qs.length cp vw vo (M0 0) (M0 1) A.cy i n W U S s M fr A') ?_ ?_
    · refine ed (fun k fr A' => fr 13 = .int .i64 (i : Nat) ∧ ∃ n s M, k = muA s ∧ AlJ c a r pb mb n5 n6 n8 no o qs.length cp vw vo (M0 0) (M0 1) A.cy i n W U S s M fr A') (muA s) ?_ ?_
      · exact ⟨by simp [g13], n, s, M, rfl, by simp [g1], by simp [g5], by simp [g6], by simp [g8], by simp [DR], by simp [g11], by simp [DQ], hw, hW, hS⟩
      clear g1 g5 g6 g8 DR g11 DQ g13 hw hW hS
      clear s M n
      rintro k fr A6 ⟨g13, n, s, M, rfl, g1, g5, g6, g8, DR, g11, DQ, hw, hW, hS⟩
      have qg := bI.bu hS .z
      have w2 := Cx a s _ A6 hw qg
      have hn := hW.mu
      have dQ : (n : Int) < 200 := by omega
      dsimp only [alL] at hS
      have hq := hS.eA hw
      dsimp only [List.cons_append, List.nil_append, bp, bY, cS, eN, alL, eb, fw, oK] at hq
      by_cases hb : s.Gu = true
      case neg =>
        have hb : s.Gu = false := by simpa using hb
        rw [hb] at w2
        repeat' (first
        | (refine il fun R hR => ?_; simp [ak, au, g1, g5, g6, g8, DR, g11, DQ, g13, hq, dQ, AW.aa]; try simp (disch := omega) only [if_pos, if_neg, ak, au])
        | (refine hR _ _ ?_; clear hR R) | (refine hK _ _ ?_; clear hK K) | refine Vt ?_ | refine lr ?_ | refine la ?_
        | refine wn fun K hK => ?_
        | simp only [wS, oAlone_0, oAlone_1, oAlone_2]
        | refine wl Tryz.mx oAlone_0 (by decide +kernel) fun K hK => ?_
        | refine wl Tryz.mx oAlone_1 (by decide +kernel) fun K hK => ?_
        | refine wl Tryz.mx oAlone_2 (by decide +kernel) fun K hK => ?_
        | (refine bD (w2) ?_; rintro _ _ ⟨rfl, rfl⟩ _ _)
        | refine wb ?_ | refine wr ?_ | refine wk ?_ | refine we ?_ | refine ws ?_ | refine wq ?_
        | (refine wc rfl (fun hc => ?_) (fun hc => ?_) <;> (try simp at hc) <;> (try omega) <;> (try (simp [h2] at hc; done)) <;> (try (simp [h3] at hc; done)) <;> (try (simp [h4] at hc; done)))
        | (refine ib (fun hc => ?_) (fun hc => ?_) <;> (try omega) <;> (try simp (disch := omega) only [if_pos, if_neg])))
        exact ⟨by simp [g13], n, s, M, num_idle hb, by simp [g1], by simp [g5], by simp [g6], by simp [g8], by simp [DR], by simp [g11], by simp [DQ], hw, hW, hS⟩
      have RB : s.aA ≠ .bm := fun e => by
        unfold aD.Gu at hb
        rw [e] at hb
        exact absurd hb (by decide)
      rw [hb] at w2
      have RO : n < 2^40 := by omega
      have mc : IntKind.i64.wrap ((n : Int) + 1) = ((n + 1 : Nat) : Int) := ak (by omega) (by omega)
      have Ng := BZ a pb s M (hW.ok.KE Co hW.mok)
      obtain ⟨kL, S7⟩ := BY Co RO hW.ok hW.mok
      obtain ⟨Ys, hmu', hph'⟩ := hW.wr.step Co RO hO hW.ok hW.mok (by
        rcases hW.ph with h | h | h
        · exact .inl h
        · exact .inr h
        · exact absurd h RB) hb
      unfold fM at Ng
      obtain ⟨x, ph, s', M', hr⟩ : ∃ x ph s' M', cD s M = (x, ph, s', M') := ⟨_, _, _, _, rfl⟩
      rw [hr] at Ng Ys hmu' hph' kL S7
      dsimp only at Ng Ys hmu' hph' kL S7
      have hW' : AlW c no i (n + 1) (M0 0) (M0 1) W U S s' M' := ⟨kL, S7, Ys, by omega, hph', hW.wl, hW.ul, hW.us, hW.un⟩
      clear hr Ys hph' kL S7 hW
      repeat' (first
      | (refine il fun R hR => ?_; simp [ak, au, g1, g5, g6, g8, DR, g11, DQ, g13, hq, dQ, AW.aa, af]; try simp (disch := omega) only [if_pos, if_neg, ak, au])
      | (refine hR _ _ ?_; clear hR R) | (refine hK _ _ ?_; clear hK K) | refine Vt ?_ | refine lr ?_ | refine la ?_
      | refine wn fun K hK => ?_
      | simp only [wS, oAlone_0, oAlone_1, oAlone_2]
      | refine wl Tryz.mx oAlone_0 (by decide +kernel) fun K hK => ?_
      | refine wl Tryz.mx oAlone_1 (by decide +kernel) fun K hK => ?_
      | refine wl Tryz.mx oAlone_2 (by decide +kernel) fun K hK => ?_
      | (refine bD (w2) ?_; rintro _ _ ⟨rfl, rfl⟩ _ _)
      | refine wb ?_ | refine wr ?_ | refine wk ?_ | refine we ?_ | refine ws ?_ | refine wq ?_
      | (refine wc rfl (fun hc => ?_) (fun hc => ?_) <;> (try simp at hc) <;> (try omega) <;> (try (simp [h2] at hc; done)) <;> (try (simp [h3] at hc; done)) <;> (try (simp [h4] at hc; done)))
      | (refine ib (fun hc => ?_) (fun hc => ?_) <;> (try omega) <;> (try simp (disch := omega) only [if_pos, if_neg])))
      refine aP.el Ng hw hS (.s .z (.s .z .z)) ?_
      rintro _ A7 rfl hS hw _
      repeat' (first
      | (refine il fun R hR => ?_; simp [ak, au, g1, g5, g6, g8, DR, g11, DQ, g13, mc]; try simp (disch := omega) only [if_pos, if_neg, ak, au])
      | (refine hR _ _ ?_; clear hR R) | (refine hK _ _ ?_; clear hK K) | refine Vt ?_ | refine lr ?_ | refine la ?_
      | refine wn fun K hK => ?_
      | simp only [wS, oAlone_0, oAlone_1, oAlone_2]
      | refine wl Tryz.mx oAlone_0 (by decide +kernel) fun K hK => ?_
      | refine wl Tryz.mx oAlone_1 (by decide +kernel) fun K hK => ?_
      | refine wl Tryz.mx oAlone_2 (by decide +kernel) fun K hK => ?_
      | refine wb ?_ | refine wr ?_ | refine wk ?_ | refine we ?_ | refine ws ?_ | refine wq ?_
      | (refine wc rfl (fun hc => ?_) (fun hc => ?_) <;> (try simp at hc) <;> (try omega) <;> (try (simp [h2] at hc; done)) <;> (try (simp [h3] at hc; done)) <;> (try (simp [h4] at hc; done)))
      | (refine ib (fun hc => ?_) (fun hc => ?_) <;> (try omega) <;> (try simp (disch := omega) only [if_pos, if_neg])))
      exact ⟨muA s', hmu', by simp [g13], n + 1, s', M', rfl, by simp [g1], by simp [g5], by simp [g6], by simp [g8], by simp [DR], by simp [g11], by first | (simp; done) | (simp; omega), hw, hW', hS⟩
    clear g1 g5 g6 g8 DR g11 DQ g13 hw hW hS
    rintro fr A6 ⟨g13, n', s', M', hd, g1, g5, g6, g8, DR, g11, DQ, hw, hW, hS⟩
    by_cases QG : i = qs.length
    · have heqi : (i : Int) = (qs.length : Int) := by omega
      repeat' (first
      | (refine il fun R hR => ?_; simp [ak, au, g1, g5, g6, g8, DR, g11, DQ, g13, heqi]; try simp (disch := omega) only [if_pos, if_neg, ak, au])
      | (refine hR _ _ ?_; clear hR R) | (refine hK _ _ ?_; clear hK K) | refine Vt ?_ | refine lr ?_ | refine la ?_
      | refine wn fun K hK => ?_
      | simp only [wS, oAlone_0, oAlone_1, oAlone_2]
      | refine wl Tryz.mx oAlone_0 (by decide +kernel) fun K hK => ?_
      | refine wl Tryz.mx oAlone_1 (by decide +kernel) fun K hK => ?_
      | refine wl Tryz.mx oAlone_2 (by decide +kernel) fun K hK => ?_
      | refine wb ?_ | refine wr ?_ | refine wk ?_ | refine we ?_ | refine ws ?_ | refine wq ?_
      | (refine wc rfl (fun hc => ?_) (fun hc => ?_) <;> (try simp at hc) <;> (try omega) <;> (try (simp [h2] at hc; done)) <;> (try (simp [h3] at hc; done)) <;> (try (simp [h4] at hc; done)))
      | (refine ib (fun hc => ?_) (fun hc => ?_) <;> (try omega) <;> (try simp (disch := omega) only [if_pos, if_neg])))
      rw [QG] at hW
      exact ⟨n', W, U, S, s', M', hd, by simp [g1], by simp [g5], by simp [g6], by simp [g8], by simp [DR], by simp [g11], by simp [DQ], hw, hW, hS⟩
    have dQ : i < qs.length := by omega
    have heqi : ¬ (i : Int) = (qs.length : Int) := by omega
    have ey : (i : Int) < (qs.length : Int) := by omega
    obtain ⟨p, dh, own, rfl, eH, dg⟩ := (hs.keeps (alL_keeps hS)).at dQ
    obtain ⟨q, Lv⟩ : ∃ q, q = qs[i] := ⟨_, rfl⟩
    rw [← Lv] at dg
    have BG : dh[p.off + i * 4 + 2]? = some (.int .i64 q.cA) := dg 2 (by omega)
    have V4 : dh[p.off + i * 4 + 3]? = some (.int .u64 q.v) := dg 3 (by omega)
    have IU := Co.aF
    have Az := eU q.cA c.aF (by omega)
    obtain ⟨adn, han⟩ : ∃ adn : Nat, eO q.cA c.aF = adn := ⟨(eO q.cA c.aF).toNat, by omega⟩
    rw [han] at Az
    have mc : IntKind.i64.wrap ((i : Int) + 1) = ((i + 1 : Nat) : Int) := ak (by omega) (by omega)
    have GO : IntKind.u64.wrap (adn : Int) = adn := au (by omega) (by omega)
    have hrem : ((adn : Int)).tmod (no : Int) = ((adn % no : Nat) : Int) := rfl
    have hf64 : gN 1 = 64 := by decide
    have hWl : adn < W.length := by have h1 := hW.wl; have h2 := hM.l0; have h3 := oC Co; omega
    have hUl : adn % no < U.length := by rw [hW.ul]; exact Nat.mod_lt _ (by omega)
    have gt := hW.ok.b.cf
    have hE : fe s' := by
      have MB := hW.wr.al.d
      rw [hd] at MB
      rcases MB with ⟨_, h, _⟩ | ⟨h, _⟩
      · exact h
      · have := hW.wr.ph; omega
    obtain ⟨y0, y1, y2⟩ := hW.wr.fu hd hE (a := adn) ⟨by omega, by rw [gt]; omega⟩ (by rw [hW.ok.b.dA, hcw8]; show i < 8; omega) q.v
    have DF := xQ a s' adn q.v
    rw [y0] at DF
    have hok2 := GW hW.ok (adn : Int) q.v (by omega)
    have hmu2 : muA (CF s' adn q.v).2 = 1 := by unfold muA; rw [y2]
    have hmu1 := hW.mu
    generalize (CF s' (adn : Int) q.v).2 = s2 at DF hok2 hmu2 y1 y2
    have uc : fJ s'.cf (adn : Int) = ((adn % no : Nat) : Int) := by
      unfold fJ
      rw [gt, if_pos (by have := oC Co; omega), xJ]
      rfl
    have hW2 : AlW c no (i + 1) n' (M0 0) (M0 1) (W.set adn q.v) (U.set (adn % no) 64) (fun x => S x ∨ fJ s'.cf adn = x) s2 M' := by
      refine ⟨hok2, hW.mok, y1, by omega, .inl ⟨_, _, y2⟩, by simp [hW.wl], by simp [hW.ul], fun j hj => ?_, fun j hj => ?_⟩
      · rw [getD_set]
        split
        · rfl
        · rename_i ke
          rcases hj with hj | hj
          · exact hW.us j hj
          · rw [uc] at hj
            exact absurd ⟨by omega, hUl⟩ ke
      · rw [getD_set, if_neg]
        · exact hW.un j fun h => hj (.inl h)
        · rintro ⟨e, _⟩
          exact hj (.inr (by rw [uc, e]))
    obtain ⟨bw, ow, cw, Tm, rfl, gJ, it, qr, hS⟩ := an.Cf hS (j := adn) (k := .u64) (by exact (.s (.s (.s (.s (.s .z)))))) hWl
    obtain ⟨bo, oo, co, rowo, rfl, hu1, hu2, hu3, hS⟩ := an.Cf hS (j := adn % no) (k := .u64) (by exact (.s (.s (.s (.s (.s (.s .z))))))) hUl
    have hWli : (adn : Int) < (W.length : Int) := by omega
    have hUli : ((adn % no : Nat) : Int) < (U.length : Int) := by omega
    have NJ : ow + adn < Tm.length := by omega
    have xz : oo + adn % no < rowo.length := by omega
    have hcw1 : 0 < c.aF := by omega
    have UA : c.aF ≤ 9223372036854775807 := by omega
    have hq := hS.eA hw
    dsimp only [List.cons_append, List.nil_append, bp, bY, cS, eN, alL, eb, fw, oK] at hq
    repeat' (first
    | (refine il fun R hR => ?_; simp [ak, au, g1, g5, g6, g8, DR, g11, DQ, g13, heqi, ey, hq, eH, BG, V4, han, GO, hrem, xJ, hf64, hWli, hUli, hWl, hUl, it, hu2, NJ, xz, mc, AW.aa, af]; try simp (disch := omega) only [if_pos, if_neg, ak, au])
    | (refine hR _ _ ?_; clear hR R) | (refine hK _ _ ?_; clear hK K) | refine Vt ?_ | refine lr ?_ | refine la ?_
    | refine wn fun K hK => ?_
    | simp only [wS, oAlone_0, oAlone_1, oAlone_2]
    | refine wl Tryz.mx oAlone_0 (by decide +kernel) fun K hK => ?_
    | refine wl Tryz.mx oAlone_1 (by decide +kernel) fun K hK => ?_
    | refine wl Tryz.mx oAlone_2 (by decide +kernel) fun K hK => ?_
    | (refine bD (eu _ c.aF _ hcw1 UA) ?_; rintro _ _ ⟨rfl, rfl⟩ _ _)
    | refine wb ?_ | refine wr ?_ | refine wk ?_ | refine we ?_ | refine ws ?_ | refine wq ?_
    | (refine wc rfl (fun hc => ?_) (fun hc => ?_) <;> (try simp at hc) <;> (try omega) <;> (try (simp [h2] at hc; done)) <;> (try (simp [h3] at hc; done)) <;> (try (simp [h4] at hc; done)))
    | (refine ib (fun hc => ?_) (fun hc => ?_) <;> (try omega) <;> (try simp (disch := omega) only [if_pos, if_neg])))
    refine aP.el DF hw hS pP ?_
    clear hS hw hq eH dg BG V4
    rintro _ A7 rfl hS hw _
    have hS := an.toL [.h (bI a s2), .at bo (.cells rowo true 1), .at bw (.cells Tm true 1), eb pb M', .at n8 (.cells [pv a, pv r] true 1), .at n5 (oK c), .at n6 (.cells [pv pb, pv mb] true 1), .h (LJ A.cy)] hS pP
    obtain ⟨p', dh, own, Nn, eH, dg⟩ := (hs.keeps (an.keeps hS 7 rfl)).at dQ
    injection Nn with Nn
    subst Nn
    rw [← Lv] at dg
    have V4 : dh[p.off + i * 4 + 3]? = some (.int .u64 q.v) := dg 3 (by omega)
    have hq := hS.eA hw
    dsimp only [List.cons_append, List.nil_append, bp, bY, cS, eN, eb, fw, oK] at hq
    repeat' (first
    | (refine il fun R hR => ?_; simp [ak, au, g1, g5, g6, g8, DR, g11, DQ, g13, heqi, ey, hq, eH, V4, han, GO, hrem, xJ, hf64, hWli, hUli, hWl, hUl, it, hu2, NJ, xz, mc, AW.aa, af]; try simp (disch := omega) only [if_pos, if_neg, ak, au])
    | (refine hR _ _ ?_; clear hR R) | (refine hK _ _ ?_; clear hK K) | refine Vt ?_ | refine lr ?_ | refine la ?_
    | refine wn fun K hK => ?_
    | simp only [wS, oAlone_0, oAlone_1, oAlone_2]
    | refine wl Tryz.mx oAlone_0 (by decide +kernel) fun K hK => ?_
    | refine wl Tryz.mx oAlone_1 (by decide +kernel) fun K hK => ?_
    | refine wl Tryz.mx oAlone_2 (by decide +kernel) fun K hK => ?_
    | (refine bD (Hl _ _) ?_ <;> rintro _ _ ⟨⟨_, rfl⟩, rfl⟩ _ _)
    | refine wb ?_ | refine wr ?_ | refine wk ?_ | refine we ?_ | refine ws ?_ | refine wq ?_
    | (refine wc rfl (fun hc => ?_) (fun hc => ?_) <;> (try simp at hc) <;> (try omega) <;> (try (simp [h2] at hc; done)) <;> (try (simp [h3] at hc; done)) <;> (try (simp [h4] at hc; done)))
    | (refine ib (fun hc => ?_) (fun hc => ?_) <;> (try omega) <;> (try simp (disch := omega) only [if_pos, if_neg])))
    refine ⟨qs.length + 1 - (i + 1), by omega, i + 1, n', W.set adn q.v, U.set (adn % no) 64, fun x => S x ∨ fJ s'.cf adn = x, s2, M', rfl, by omega, by first | (simp; done) | (simp; omega), by simp [g1], by simp [g5], by simp [g6], by simp [g8], by simp [DR], by simp [g11], by simp [DQ], ?_, hW2, ?_⟩
    · repeat' (first | assumption | apply AW.Wf.alloc | apply AW.Wf.set | exact Nat.le_refl _ | (simp only [AW.aZ, AW.dq]; omega) | apply an.uP hS hw | apply ay.z | apply ay.s)
    refine an.toL (L := .h (ar .u64 (.slice (some ⟨bw, ow, none⟩) W.length cw) (W.set adn q.v)) :: .h (ar .u64 (.slice (some ⟨bo, oo, none⟩) U.length co) (U.set (adn % no) 64)) :: [.h (bI a s2), eb pb M', .at n8 (.cells [pv a, pv r] true 1), .at n5 (oK c), .at n6 (.cells [pv pb, pv mb] true 1), .h (LJ A.cy)]) _ ?_ pP
    refine qr _ _ _ ?_
    refine an.toL (L := .h (ar .u64 (.slice (some ⟨bo, oo, none⟩) U.length co) (U.set (adn % no) 64)) :: .at bw (.cells (Tm.set (ow + adn) (.int .u64 q.v)) true 1) :: [.h (bI a s2), eb pb M', .at n8 (.cells [pv a, pv r] true 1), .at n5 (oK c), .at n6 (.cells [pv pb, pv mb] true 1), .h (LJ A.cy)]) _ ?_ pP
    refine hu3 _ _ _ ?_
    apply an.cC
    (· repeat' (first | exact hS | exact Nat.le_refl _ | with_reducible apply an.jd | with_reducible apply an.jZ | with_reducible apply AW.gE | with_reducible apply AW.jU | with_reducible apply an.jn | with_reducible apply ay.z | with_reducible apply ay.s | assumption | apply AW.Wf.alloc | apply AW.Wf.set | (simp only [AW.aZ, AW.dq]; omega) | apply an.uP hS hw | exact rfl))
    (· repeat' (first | apply aX.z | apply aX.s | apply ay.z | apply ay.ly | apply ay.qC | apply ay.s))
  clear hW hmu ru lp it hS hw hq hA hI F4
  rintro fr A5 ⟨n, W, U, S, s, M, hd, g1, g5, g6, g8, DR, g11, DQ, hw, hW, hS⟩
  have hE : fe s := by
    have MB := hW.wr.al.d
    rw [hd] at MB
    rcases MB with ⟨_, h, _⟩ | ⟨h, _⟩
    · exact h
    · have := hW.wr.ph; omega
  obtain ⟨y0, hC, hmu2⟩ := hW.wr.cC hd hE
  have her := pp a s 1
  rw [y0] at her
  have iK := DV hW.ok 1
  have hmok := hW.mok
  have hmu := hW.mu
  have hus := hW.us
  have Ox := hW.un
  have TY := hW.ul
  have BE : n ≤ 12 := by omega
  clear hW hE y0 hd
  generalize (xN s 1).2 = s1 at her iK hC hmu2
  dsimp only [alL] at hS
  have hq := hS.eA hw
  dsimp only [List.cons_append, List.nil_append, bp, bY, cS, eN, alL, eb, fw, oK] at hq
  repeat' (first
  | (refine il fun R hR => ?_; simp [ak, au, g1, g5, g6, g8, DR, g11, DQ, hq, AW.aa, af]; try simp (disch := omega) only [if_pos, if_neg, ak, au])
  | (refine hR _ _ ?_; clear hR R) | (refine hK _ _ ?_; clear hK K) | refine Vt ?_ | refine lr ?_ | refine la ?_
  | refine wn fun K hK => ?_
  | simp only [wS, oAlone_0, oAlone_1, oAlone_2]
  | refine wl Tryz.mx oAlone_0 (by decide +kernel) fun K hK => ?_
  | refine wl Tryz.mx oAlone_1 (by decide +kernel) fun K hK => ?_
  | refine wl Tryz.mx oAlone_2 (by decide +kernel) fun K hK => ?_
  | refine wb ?_ | refine wr ?_ | refine wk ?_ | refine we ?_ | refine ws ?_ | refine wq ?_
  | (refine wc rfl (fun hc => ?_) (fun hc => ?_) <;> (try simp at hc) <;> (try omega) <;> (try (simp [h2] at hc; done)) <;> (try (simp [h3] at hc; done)) <;> (try (simp [h4] at hc; done)))
  | (refine ib (fun hc => ?_) (fun hc => ?_) <;> (try omega) <;> (try simp (disch := omega) only [if_pos, if_neg])))
  refine aP.el her hw hS (.s .z .z) ?_
  clear hS hw hq
  rintro _ A6 rfl hS hw _
  repeat' (first
  | (refine il fun R hR => ?_; simp [ak, au, g1, g5, g6, g8, DR, g11, DQ]; try simp (disch := omega) only [if_pos, if_neg, ak, au])
  | (refine hR _ _ ?_; clear hR R) | (refine hK _ _ ?_; clear hK K) | refine Vt ?_ | refine lr ?_ | refine la ?_
  | refine wn fun K hK => ?_
  | simp only [wS, oAlone_0, oAlone_1, oAlone_2]
  | refine wl Tryz.mx oAlone_0 (by decide +kernel) fun K hK => ?_
  | refine wl Tryz.mx oAlone_1 (by decide +kernel) fun K hK => ?_
  | refine wl Tryz.mx oAlone_2 (by decide +kernel) fun K hK => ?_
  | refine wb ?_ | refine wr ?_ | refine wk ?_ | refine we ?_ | refine ws ?_ | refine wq ?_
  | (refine wc rfl (fun hc => ?_) (fun hc => ?_) <;> (try simp at hc) <;> (try omega) <;> (try (simp [h2] at hc; done)) <;> (try (simp [h3] at hc; done)) <;> (try (simp [h4] at hc; done)))
  | (refine ib (fun hc => ?_) (fun hc => ?_) <;> (try omega) <;> (try simp (disch := omega) only [if_pos, if_neg])))
  refine awp_joinB (fun fr A' => ∃ n s M, s.Gu = false ∧ fr 1 = .slice o qs.length cp ∧ fr 5 = pv n5 ∧ fr 6 = pv n6 ∧ fr 8 = pv n8 ∧ fr 10 = vw ∧ fr 11 = vo ∧ A'.Wf ∧ oW c n s ∧ oR c 2 n M ∧ CmI (M0 0) (M0 1) W S qs.length s M ∧ an A' (alL c a r pb mb n5 n6 n8 vw vo W U M s A.cy)) ?_ ?_
  · refine ed (fun k fr A' => ∃ n s M, k = muA s ∧ n + muA s ≤ 60 ∧ fr 1 = .slice o qs.length cp ∧ fr 5 = pv n5 ∧ fr 6 = pv n6 ∧ fr 8 = pv n8 ∧ fr 10 = vw ∧ fr 11 = vo ∧ fr 12 = .int .i64 (n : Nat) ∧ A'.Wf ∧ oW c n s ∧ oR c 2 n M ∧ CmI (M0 0) (M0 1) W S qs.length s M ∧ an A' (alL c a r pb mb n5 n6 n8 vw vo W U M s A.cy)) (muA s1) ?_ ?_
    · exact ⟨n, s1, M, rfl, by omega, by simp [g1], by simp [g5], by simp [g6], by simp [g8], by simp [DR], by simp [g11], by simp [DQ], hw, iK, hmok, hC, hS⟩
    clear g1 g5 g6 g8 DR g11 DQ hw hS hC iK hmok hmu hmu2 her
    clear BE
    rintro k fr A7 ⟨n, s, M, rfl, hn, g1, g5, g6, g8, DR, g11, DQ, hw, iK, hmok, hC, hS⟩
    have qg := bI.bu hS .z
    have w2 := Cx a s _ A7 hw qg
    have dQ : (n : Int) < 300 := by omega
    dsimp only [alL] at hS
    have hq := hS.eA hw
    dsimp only [List.cons_append, List.nil_append, bp, bY, cS, eN, alL, eb, fw, oK] at hq
    by_cases hb : s.Gu = true
    case neg =>
      have hb : s.Gu = false := by simpa using hb
      rw [hb] at w2
      repeat' (first
      | (refine il fun R hR => ?_; simp [ak, au, g1, g5, g6, g8, DR, g11, DQ, hq, dQ, AW.aa]; try simp (disch := omega) only [if_pos, if_neg, ak, au])
      | (refine hR _ _ ?_; clear hR R) | (refine hK _ _ ?_; clear hK K) | refine Vt ?_ | refine lr ?_ | refine la ?_
      | refine wn fun K hK => ?_
      | simp only [wS, oAlone_0, oAlone_1, oAlone_2]
      | refine wl Tryz.mx oAlone_0 (by decide +kernel) fun K hK => ?_
      | refine wl Tryz.mx oAlone_1 (by decide +kernel) fun K hK => ?_
      | refine wl Tryz.mx oAlone_2 (by decide +kernel) fun K hK => ?_
      | (refine bD (w2) ?_; rintro _ _ ⟨rfl, rfl⟩ _ _)
      | refine wb ?_ | refine wr ?_ | refine wk ?_ | refine we ?_ | refine ws ?_ | refine wq ?_
      | (refine wc rfl (fun hc => ?_) (fun hc => ?_) <;> (try simp at hc) <;> (try omega) <;> (try (simp [h2] at hc; done)) <;> (try (simp [h3] at hc; done)) <;> (try (simp [h4] at hc; done)))
      | (refine ib (fun hc => ?_) (fun hc => ?_) <;> (try omega) <;> (try simp (disch := omega) only [if_pos, if_neg])))
      exact ⟨n, s, M, hb, by simp [g1], by simp [g5], by simp [g6], by simp [g8], by simp [DR], by simp [g11], hw, iK, hmok, hC, hS⟩
    rw [hb] at w2
    have RO : n < 2^40 := by omega
    have mc : IntKind.i64.wrap ((n : Int) + 1) = ((n + 1 : Nat) : Int) := ak (by omega) (by omega)
    have Ng := BZ a pb s M (iK.KE Co hmok)
    obtain ⟨kL, S7⟩ := BY Co RO iK hmok
    obtain ⟨wR, hmu'⟩ := hC.step Co RO hO iK hmok hb
    unfold fM at Ng
    obtain ⟨x, ph, s', M', hr⟩ : ∃ x ph s' M', cD s M = (x, ph, s', M') := ⟨_, _, _, _, rfl⟩
    rw [hr] at Ng wR hmu' kL S7
    dsimp only at Ng wR hmu' kL S7
    clear hr
    repeat' (first
    | (refine il fun R hR => ?_; simp [ak, au, g1, g5, g6, g8, DR, g11, DQ, hq, dQ, AW.aa, af]; try simp (disch := omega) only [if_pos, if_neg, ak, au])
    | (refine hR _ _ ?_; clear hR R) | (refine hK _ _ ?_; clear hK K) | refine Vt ?_ | refine lr ?_ | refine la ?_
    | refine wn fun K hK => ?_
    | simp only [wS, oAlone_0, oAlone_1, oAlone_2]
    | refine wl Tryz.mx oAlone_0 (by decide +kernel) fun K hK => ?_
    | refine wl Tryz.mx oAlone_1 (by decide +kernel) fun K hK => ?_
    | refine wl Tryz.mx oAlone_2 (by decide +kernel) fun K hK => ?_
    | (refine bD (w2) ?_; rintro _ _ ⟨rfl, rfl⟩ _ _)
    | refine wb ?_ | refine wr ?_ | refine wk ?_ | refine we ?_ | refine ws ?_ | refine wq ?_
    | (refine wc rfl (fun hc => ?_) (fun hc => ?_) <;> (try simp at hc) <;> (try omega) <;> (try (simp [h2] at hc; done)) <;> (try (simp [h3] at hc; done)) <;> (try (simp [h4] at hc; done)))
    | (refine ib (fun hc => ?_) (fun hc => ?_) <;> (try omega) <;> (try simp (disch := omega) only [if_pos, if_neg])))
    refine aP.el Ng hw hS (.s .z (.s .z .z)) ?_
    rintro _ A8 rfl hS hw _
    repeat' (first
    | (refine il fun R hR => ?_; simp [ak, au, g1, g5, g6, g8, DR, g11, DQ, mc]; try simp (disch := omega) only [if_pos, if_neg, ak, au])
    | (refine hR _ _ ?_; clear hR R) | (refine hK _ _ ?_; clear hK K) | refine Vt ?_ | refine lr ?_ | refine la ?_
    | refine wn fun K hK => ?_
    | simp only [wS, oAlone_0, oAlone_1, oAlone_2]
    | refine wl Tryz.mx oAlone_0 (by decide +kernel) fun K hK => ?_
    | refine wl Tryz.mx oAlone_1 (by decide +kernel) fun K hK => ?_
    | refine wl Tryz.mx oAlone_2 (by decide +kernel) fun K hK => ?_
    | refine wb ?_ | refine wr ?_ | refine wk ?_ | refine we ?_ | refine ws ?_ | refine wq ?_
    | (refine wc rfl (fun hc => ?_) (fun hc => ?_) <;> (try simp at hc) <;> (try omega) <;> (try (simp [h2] at hc; done)) <;> (try (simp [h3] at hc; done)) <;> (try (simp [h4] at hc; done)))
    | (refine ib (fun hc => ?_) (fun hc => ?_) <;> (try omega) <;> (try simp (disch := omega) only [if_pos, if_neg])))
    exact ⟨muA s', hmu', n + 1, s', M', rfl, by omega, by simp [g1], by simp [g5], by simp [g6], by simp [g8], by simp [DR], by simp [g11], by first | (simp; done) | (simp; omega), hw, kL, S7, wR, hS⟩
  clear g1 g5 g6 g8 DR g11 DQ hw hS hC iK hmok hmu hmu2 her BE
  rintro fr A7 ⟨n, s, M, hb, g1, g5, g6, g8, DR, g11, hw, iK, hmok, hC, hS⟩
  obtain ⟨k1, k2, k3, k4, k5, k6, k7, k8, k9, k10⟩ := hC.done iK hmok hb
  have QD := hmok.l0
  have PF := hmok.l1
  have hl5 := hmok.l5
  have hO1 : (M0 1).length = no := by have := hM.l1; omega
  have hMU : M 1 = U := by
    refine ext_getD (by rw [TY]; omega) fun j => ?_
    by_cases hj : S j
    · rw [k5 j hj, hus j hj]
    · rw [k6 j hj, Ox j hj, hO j]
  have hlW : W.length < 2^39 := by rw [← k3]; exact hmok.Rl Co (by decide) 0 (by omega)
  have hlU : U.length < 2^39 := by rw [TY]; omega
  obtain ⟨ck, zJ⟩ : ∃ ck : Int, ck = (M 2).getD 0 0 := ⟨_, rfl⟩
  have hmin : ck = (if (qs.length : Int) < 1 then (qs.length : Int) else 1) := by
    rw [zJ, k7]
    by_cases hz : 0 < qs.length
    · rw [if_pos hz, if_neg (by omega)]
    · rw [if_neg hz, if_pos (by omega)]; omega
  have hck2 : 0 ≤ ck ∧ ck ≤ 1 := by rw [hmin]; split <;> omega
  dsimp only [alL] at hS
  have hq := hS.eA hw
  dsimp only [List.cons_append, List.nil_append, bp, bY, cS, eN, alL, eb, fw, oK] at hq
  repeat' (first
  | (refine il fun R hR => ?_; simp [ak, au, g1, g5, g6, g8, DR, g11, hq, AW.aa]; try simp (disch := omega) only [if_pos, if_neg, ak, au])
  | (refine hR _ _ ?_; clear hR R) | (refine hK _ _ ?_; clear hK K) | refine Vt ?_ | refine lr ?_ | refine la ?_
  | refine wn fun K hK => ?_
  | simp only [wS, oAlone_0, oAlone_1, oAlone_2]
  | refine wl Tryz.mx oAlone_0 (by decide +kernel) fun K hK => ?_
  | refine wl Tryz.mx oAlone_1 (by decide +kernel) fun K hK => ?_
  | refine wl Tryz.mx oAlone_2 (by decide +kernel) fun K hK => ?_
  | refine wb ?_ | refine wr ?_ | refine wk ?_ | refine we ?_ | refine ws ?_ | refine wq ?_
  | (refine wc rfl (fun hc => ?_) (fun hc => ?_) <;> (try simp at hc) <;> (try omega) <;> (try (simp [h2] at hc; done)) <;> (try (simp [h3] at hc; done)) <;> (try (simp [h4] at hc; done)))
  | (refine ib (fun hc => ?_) (fun hc => ?_) <;> (try omega) <;> (try simp (disch := omega) only [if_pos, if_neg])))
  apply image_use hS (cU := hmok.Rl Co (by decide)) (h2 := by rw [hmok.l2]; decide) (h3 := by rw [hmok.l3]; decide) (h4 := by rw [hmok.l4]; decide)
  case hp =>
    (· repeat' (first | apply aX.z | apply aX.s | apply ay.z | apply ay.ly | apply ay.qC | apply ay.s))
  clear hw hq hS
  rw [k3, hMU, k8, k9, ← zJ]
  generalize M 5 = S5 at *
  generalize (M 6).length = m6
  generalize (M 7).length = m7
  intro u0 d0 u1 d1 u5 d5 u6 d6 u7 d7 A8 hS hw
  have hS := an.toL (.h (ar .u64 (.slice u5 S5.length d5) S5) :: .h (ar .u64 (.slice u0 W.length d0) W) :: .h (ar .u64 (.slice u1 U.length d1) U) :: alL c a r pb mb n5 n6 n8 vw vo W U M s A.cy) hS pP
  have qg := bI.bu hS (.s (.s (.s .z)))
  have w3 := fun (A' : AW) (h : A8.le A') (gY : A'.Wf) => DW a s _ _ A' gY (qg.le hw h)
  have w4 := fun (A' : AW) (h : A8.le A') (gY : A'.Wf) => Cw a s _ _ A' gY (qg.le hw h)
  rw [k2] at w3
  rw [k1] at w4
  have oE : 1 < S5.length := by omega
  have US : S5[1] = 0 := by rw [List.getD_eq_getElem?_getD, List.getElem?_eq_getElem oE] at k10; exact k10
  have j0 := an.gM hS (.s .z)
  have j1 := an.gM hS (.s (.s .z))
  have i0 := an.gM hS (.s (.s (.s (.s (.s (.s (.s (.s .z))))))))
  have i1 := an.gM hS (.s (.s (.s (.s (.s (.s (.s (.s (.s .z)))))))))
  obtain ⟨p, dh, own, rfl, eH, dg⟩ := (an.gM hS .z).Ku oE
  rw [US] at dg
  have Nj := hw.dH eH
  dsimp only [alL] at hS
  have hq := hS.eA hw
  dsimp only [List.cons_append, List.nil_append, bp, bY, cS, eN, alL, eb, fw, oK] at hq
  have No : (1 : Int) < (S5.length : Int) := by omega
  have UB : IntKind.u64.wrap ck = ck := au (by omega) (by omega)
  rw [hmin] at UB
  repeat' (first
  | (refine il fun R hR => ?_; simp [ak, au, g1, g5, g6, g8, DR, g11, hq, eH, Nj, dg, No, hmin, UB, AW.aa, af]; try simp (disch := omega) only [if_pos, if_neg, ak, au])
  | (refine hR _ _ ?_; clear hR R) | (refine hK _ _ ?_; clear hK K) | refine Vt ?_ | refine lr ?_ | refine la ?_
  | refine wn fun K hK => ?_
  | simp only [wS, oAlone_0, oAlone_1, oAlone_2]
  | refine wl Tryz.mx oAlone_0 (by decide +kernel) fun K hK => ?_
  | refine wl Tryz.mx oAlone_1 (by decide +kernel) fun K hK => ?_
  | refine wl Tryz.mx oAlone_2 (by decide +kernel) fun K hK => ?_
  | (refine bD (w4 _ (AW.le.Ii A8 _ _) ((hw.alloc _).set _ (by simp))) ?_; rintro _ _ ⟨rfl, rfl⟩ _ _)
  | (refine bD (w3 _ (AW.le.Ii A8 _ _) ((hw.alloc _).set _ (by simp))) ?_; rintro _ _ ⟨rfl, rfl⟩ _ _)
  | (refine bD (nX _ _ W W _ (cF.le (AW.le.Ii _ _ _) hw j0) (cF.le (AW.le.Ii _ _ _) hw i0) (by omega)) ?_; rintro _ _ ⟨rfl, rfl⟩ _ _)
  | (refine bD (nX _ _ U U _ (cF.le (AW.le.Ii _ _ _) hw j1) (cF.le (AW.le.Ii _ _ _) hw i1) (by omega)) ?_; rintro _ _ ⟨rfl, rfl⟩ _ _)
  | refine wb ?_ | refine wr ?_ | refine wk ?_ | refine we ?_ | refine ws ?_ | refine wq ?_
  | (refine wc rfl (fun hc => ?_) (fun hc => ?_) <;> (try simp at hc) <;> (try omega) <;> (try (simp [h2] at hc; done)) <;> (try (simp [h3] at hc; done)) <;> (try (simp [h4] at hc; done)))
  | (refine ib (fun hc => ?_) (fun hc => ?_) <;> (try omega) <;> (try simp (disch := omega) only [if_pos, if_neg])))
  refine bD (vj _) ?_
  rintro _ A9 rfl w5 _
  repeat' (first
  | (refine il fun R hR => ?_; simp [ak, au, AW.aa]; try simp (disch := omega) only [if_pos, if_neg, ak, au])
  | (refine hR _ _ ?_; clear hR R) | (refine hK _ _ ?_; clear hK K) | refine Vt ?_ | refine lr ?_ | refine la ?_
  | refine wn fun K hK => ?_
  | simp only [wS, oAlone_0, oAlone_1, oAlone_2]
  | refine wl Tryz.mx oAlone_0 (by decide +kernel) fun K hK => ?_
  | refine wl Tryz.mx oAlone_1 (by decide +kernel) fun K hK => ?_
  | refine wl Tryz.mx oAlone_2 (by decide +kernel) fun K hK => ?_
  | refine wb ?_ | refine wr ?_ | refine wk ?_ | refine we ?_ | refine ws ?_ | refine wq ?_
  | (refine wc rfl (fun hc => ?_) (fun hc => ?_) <;> (try simp at hc) <;> (try omega) <;> (try (simp [h2] at hc; done)) <;> (try (simp [h3] at hc; done)) <;> (try (simp [h4] at hc; done)))
  | (refine ib (fun hc => ?_) (fun hc => ?_) <;> (try omega) <;> (try simp (disch := omega) only [if_pos, if_neg])))
  simp
  split <;> split <;> omega

end Go.Stx
