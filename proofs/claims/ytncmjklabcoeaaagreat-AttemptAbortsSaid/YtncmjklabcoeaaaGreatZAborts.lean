/-
  The statement on attempts that are not committed.
-/
import Derived.Test.YtncmjklabcoeaaaGreatS01
import Derived.Test.YtncmjklabcoeaaaGreatZAbortP
import Derived.Test.YtncmjklabcoeaaaGreatZImgO
namespace Go.Stx
open Go Go.Proofs
def oAborts_0 : List (Nat × Nat) := [(0, 0), (1, 0), (2, 0), (3, 0), (4, 0), (5, 0), (6, 3)]
attribute [local irreducible] TW hN fj cm aH bB dK ei
set_option linter.unusedVariables false
set_option linter.unusedSimpArgs false


/-- One attempt, the cells, and the image taken at the start. -/
def abL (c : bG) (a r pb mb n5 n6 n8 Ki : Nat) (v0 v1 : Value) (D O : List Int) (img : List Value) (M : Mm) (s : aD) (h0 : Hp) : List It :=
  [.h (bI a s), eb pb M, .at n8 (.cells [pv a, pv r] true 1), .at n5 (oK c), .at n6 (.cells [pv pb, pv mb] true 1), .at Ki (.cells img true 1), .h (ar .u64 v0 D), .h (ar .u64 v1 O), .h (LJ h0)]
theorem an.toL {A : AW} {L K : List It} (G : List It) (h : an A L) (e : aX L G K) : an A G := an.cC h e
theorem abL_keeps {A A' : AW} {c : bG} {a r pb mb n5 n6 n8 Ki : Nat} {v0 v1 : Value} {D O : List Int} {img : List Value} {M : Mm} {s : aD} (h : an A' (abL c a r pb mb n5 n6 n8 Ki v0 v1 D O img M s A.cy)) : oP A A' := h.keeps 8 rfl
theorem awp_joinB {P : Program} {n : Nat} {id : Nat} {Q : Exit → Fr → AW → Prop} {a : Fr} {A : AW} {x : Code} {K : Fr → AW → Prop} (J : Fr → AW → Prop) (h1 : fj P n x (At id (sx J Q)) a A) (h2 : ∀ a A, J a A → K a A) : fj P n x (At id (sx K Q)) a A :=
  Gx h1 fun e a A h => by
    cases e with
    | normal => exact h2 a A h
    | exit k =>
      simp only [At] at h ⊢
      split at h
      · rename_i e; rw [if_pos e]; exact h2 a A h
      · rename_i e; rw [if_neg e]; exact h
    | _ => exact h
/-- What both loops keep. -/
def AbJ (c : bG) (a r pb mb n5 n6 n8 Ki : Nat) (o : Option Addr) (n cp : Nat) (v0 v1 : Value) (D O K : List Int) (img : List Value) (h0 : Hp) (m : Nat) (s : aD) (M : Mm) (fr : Fr) (A : AW) : Prop :=
  fr 1 = .slice o n cp ∧ fr 5 = pv n5 ∧ fr 6 = pv n6 ∧ fr 8 = pv n8 ∧ fr 10 = pv Ki ∧ A.Wf ∧ oW c m s ∧ oR c 2 m M ∧ AbI D O K s M ∧ s.ag = 0 ∧ an A (abL c a r pb mb n5 n6 n8 Ki v0 v1 D O img M s h0)

theorem image_use {pb : Nat} {M : Mm} {A : AW} {L K : List It} {k : Value → AW → Prop} (hS : an A L) (hp : ay L (eb pb M) K) (cU : ∀ k, k < 8 → (M k).length < 2^39) (h2 : 0 < (M 2).length) (h3 : 0 < (M 3).length) (h4 : 0 < (M 4).length)
    (hk : ∀ o0 c0 o1 c1 o5 c5 o6 c6 o7 c7 A', an A' (.h (ar .u64 (.slice o0 (M 0).length c0) (M 0)) :: .h (ar .u64 (.slice o1 (M 1).length c1) (M 1)) :: .h (ar .u64 (.slice o5 (M 5).length c5) (M 5)) :: eb pb M :: K) → A'.Wf → k (.agg #[.slice o0 (M 0).length c0, .slice o1 (M 1).length c1, .int .u64 ((M 2).getD 0 0), .int .u64 ((M 3).getD 0 0), .int .u64 ((M 4).getD 0 0), .slice o5 (M 5).length c5, .slice o6 (M 6).length c6, .slice o7 (M 7).length c7]) A') :
    aH Tryz.prog 20 [pv pb] A k := by
  refine bD (image_own pb M A (bn K) (an.IW hS hp) cU h2 h3 h4) ?_
  rintro _ A' ⟨o0, c0, o1, c1, o5, c5, o6, c6, o7, c7, rfl, h⟩ hw _
  exact hk o0 c0 o1 c1 o5 c5 o6 c6 o7 c7 A' h hw

set_option maxRecDepth 100000 in
set_option maxHeartbeats 4000000 in
theorem aborts_call (l0 l1 l2 l3 l4 : Int) (vs : Value) (qs : List nc) (A : AW) (hs : qZ A vs qs) :
    aH Tryz.prog 4 [.agg #[.int .i64 l0, .int .i64 l1, .int .i64 l2, .int .i64 l3, .int .i64 l4], vs] A (fun v A' => v = .bool true) := by
  refine ab Tryz.func4 rfl (by kernel_rfl) fun hw => ?_
  obtain ⟨o, cp, rfl, _⟩ := hs.cL
  by_cases h60 : 60 < qs.length
  · have P5 : (60 : Int) < qs.length := by omega
    repeat' (first
    | (refine il fun R hR => ?_; simp [ak, au, h60, P5, AW.aa]; try simp (disch := omega) only [if_pos, if_neg, ak, au])
    | (refine hR _ _ ?_; clear hR R) | (refine hK _ _ ?_; clear hK K) | refine Vt ?_ | refine lr ?_ | refine la ?_
    | refine wn fun K hK => ?_
    | simp only [wS, oAborts_0]
    | refine wl Tryz.mx oAborts_0 (by decide +kernel) fun K hK => ?_
    | refine wb ?_ | refine wr ?_ | refine wk ?_ | refine we ?_ | refine ws ?_ | refine wq ?_
    | (refine wc rfl (fun hc => ?_) (fun hc => ?_) <;> (try simp at hc) <;> (try omega) <;> (try (simp [h2] at hc; done)) <;> (try (simp [h3] at hc; done)) <;> (try (simp [h4] at hc; done)))
    | (refine ib (fun hc => ?_) (fun hc => ?_) <;> (try omega) <;> (try simp (disch := omega) only [if_pos, if_neg])))
    refine bD (vj _) ?_
    rintro _ A1 rfl w1 _
    repeat' (first
    | (refine il fun R hR => ?_; simp [ak, au, h60]; try simp (disch := omega) only [if_pos, if_neg, ak, au])
    | (refine hR _ _ ?_; clear hR R) | (refine hK _ _ ?_; clear hK K) | refine Vt ?_ | refine lr ?_ | refine la ?_
    | refine wn fun K hK => ?_
    | simp only [wS, oAborts_0]
    | refine wl Tryz.mx oAborts_0 (by decide +kernel) fun K hK => ?_
    | refine wb ?_ | refine wr ?_ | refine wk ?_ | refine we ?_ | refine ws ?_ | refine wq ?_
    | (refine wc rfl (fun hc => ?_) (fun hc => ?_) <;> (try simp at hc) <;> (try omega) <;> (try (simp [h2] at hc; done)) <;> (try (simp [h3] at hc; done)) <;> (try (simp [h4] at hc; done)))
    | (refine ib (fun hc => ?_) (fun hc => ?_) <;> (try omega) <;> (try simp (disch := omega) only [if_pos, if_neg])))
    simp
  have P5 : ¬ (60 : Int) < qs.length := by omega
  obtain ⟨c, VR, PZ⟩ := Gs l0 l1 l2 l3 l4
  have Co := VR.ok
  have RS := VR.YA
  have dn := fun (A : AW) F hw hS => yl c RS 2 (by decide) (by decide) A F hw hS
  have tS := fun (A : AW) L hw hS => HW c Co 0 A L hw hS
  have e2 : ((2 : Nat) : Int) = 2 := rfl
  rw [e2] at dn
  dsimp only [bG.v] at dn tS PZ
  have hS : an A [.h (LJ A.cy)] := by
    show bK A (LJ A.cy * fa)
    rw [dx]
    exact ⟨A.cy, rfl, fun i o h => h⟩
  repeat' (first
  | (refine il fun R hR => ?_; simp [ak, au, h60, P5, AW.aa, af]; try simp (disch := omega) only [if_pos, if_neg, ak, au])
  | (refine hR _ _ ?_; clear hR R) | (refine hK _ _ ?_; clear hK K) | refine Vt ?_ | refine lr ?_ | refine la ?_
  | refine wn fun K hK => ?_
  | simp only [wS, oAborts_0]
  | refine wl Tryz.mx oAborts_0 (by decide +kernel) fun K hK => ?_
  | (refine bD (PZ _) ?_; rintro _ _ ⟨rfl, rfl⟩ _ _)
  | refine wb ?_ | refine wr ?_ | refine wk ?_ | refine we ?_ | refine ws ?_ | refine wq ?_
  | (refine wc rfl (fun hc => ?_) (fun hc => ?_) <;> (try simp at hc) <;> (try omega) <;> (try (simp [h2] at hc; done)) <;> (try (simp [h3] at hc; done)) <;> (try (simp [h4] at hc; done)))
  | (refine ib (fun hc => ?_) (fun hc => ?_) <;> (try omega) <;> (try simp (disch := omega) only [if_pos, if_neg])))
  have mg := an.jd (o' := oK c) (an.jn (o := .cells [.int .i64 0, .int .i64 0, .int .i64 0, .int .i64 0, .int .i64 0, .int .i64 0, .int .i64 0, .int .i64 0, .int .i64 0, .int .i64 0, .int .i64 0, .int .i64 0, .bool false] true 1) (an.jn (o := .cells [.int .i64 l0, .int .i64 l1, .int .i64 l2, .int .i64 l3, .int .i64 l4] true 1) hS hw) (hw.alloc _)) .z
  simp only [AW.aZ] at mg
  dsimp only [oK] at mg
  have gJ := ((hw.alloc (.cells [.int .i64 l0, .int .i64 l1, .int .i64 l2, .int .i64 l3, .int .i64 l4] true 1)).alloc (.cells [.int .i64 0, .int .i64 0, .int .i64 0, .int .i64 0, .int .i64 0, .int .i64 0, .int .i64 0, .int .i64 0, .int .i64 0, .int .i64 0, .int .i64 0, .int .i64 0, .bool false] true 1)).set (i := A.next + 1) (some (oK c)) (by simp)
  dsimp only [oK] at gJ
  refine Ji (fun F h => dn _ F gJ h) mg ?_
  intro pb mb A1 lp it
  obtain ⟨n5, hn5⟩ : ∃ n5, n5 = A.next + 1 := ⟨_, rfl⟩
  rw [← hn5] at lp ⊢
  clear mg gJ dn PZ
  have hq := lp.eA it
  dsimp only [List.cons_append, List.nil_append, bp, bY, cS, eN, eb, fw] at hq
  repeat' (first
  | (refine il fun R hR => ?_; simp [ak, au, hq, AW.aa, af]; try simp (disch := omega) only [if_pos, if_neg, ak, au])
  | (refine hR _ _ ?_; clear hR R) | (refine hK _ _ ?_; clear hK K) | refine Vt ?_ | refine lr ?_ | refine la ?_
  | refine wn fun K hK => ?_
  | simp only [wS, oAborts_0]
  | refine wl Tryz.mx oAborts_0 (by decide +kernel) fun K hK => ?_
  | refine wb ?_ | refine wr ?_ | refine wk ?_ | refine we ?_ | refine ws ?_ | refine wq ?_
  | (refine wc rfl (fun hc => ?_) (fun hc => ?_) <;> (try simp at hc) <;> (try omega) <;> (try (simp [h2] at hc; done)) <;> (try (simp [h3] at hc; done)) <;> (try (simp [h4] at hc; done)))
  | (refine ib (fun hc => ?_) (fun hc => ?_) <;> (try omega) <;> (try simp (disch := omega) only [if_pos, if_neg])))
  obtain ⟨n6, hn6⟩ : ∃ n6, n6 = A1.next := ⟨_, rfl⟩
  have ru := an.jd (o' := .cells [pv pb, pv mb] true 1) (an.jn (o := .cells [.pointer none, .pointer none] true 1) lp it) .z
  have qr := (it.alloc (.cells [.pointer none, .pointer none] true 1)).set (i := A1.next) (some (.cells [pv pb, pv mb] true 1)) (by simp)
  rw [← hn6] at ru qr ⊢
  refine bD (tS _ _ qr ru) ?_
  rintro _ A2 ⟨⟨a, r⟩, rfl, rl⟩ IJ _
  clear ru qr hq lp it
  have hq := rl.eA IJ
  dsimp only [List.cons_append, List.nil_append, bp, bY, cS, eN, eb, fw] at hq
  have V8 : (jG (iD c 0)).1 = 0 := rfl
  have P4 := Ae a (iD c 0)
  rw [V8] at P4
  have hS := rl
  have hw := IJ
  clear rl IJ
  repeat' (first
  | (refine il fun R hR => ?_; simp [ak, au, hq, AW.aa, af]; try simp (disch := omega) only [if_pos, if_neg, ak, au])
  | (refine hR _ _ ?_; clear hR R) | (refine hK _ _ ?_; clear hK K) | refine Vt ?_ | refine lr ?_ | refine la ?_
  | refine wn fun K hK => ?_
  | simp only [wS, oAborts_0]
  | refine wl Tryz.mx oAborts_0 (by decide +kernel) fun K hK => ?_
  | (apply aP.el (P4); (· repeat' (first | assumption | apply AW.Wf.alloc | apply AW.Wf.set | exact Nat.le_refl _ | (simp only [AW.aZ, AW.dq]; omega) | apply an.uP hS hw | apply ay.z | apply ay.s)); (· repeat' (first | exact hS | exact Nat.le_refl _ | with_reducible apply an.jd | with_reducible apply an.jZ | with_reducible apply AW.gE | with_reducible apply AW.jU | with_reducible apply an.jn | with_reducible apply ay.z | with_reducible apply ay.s | assumption | apply AW.Wf.alloc | apply AW.Wf.set | (simp only [AW.aZ, AW.dq]; omega) | apply an.uP hS hw | exact rfl)); (· repeat' (first | apply aX.z | apply aX.s | apply ay.z | apply ay.ly | apply ay.qC | apply ay.s)); rintro _ _ rfl hS hw _; dsimp only [AW.aZ, List.cons_append, List.nil_append] at hS; have hq := hS.eA hw; dsimp only [List.cons_append, List.nil_append, bp, bY, cS, eN, bH, gA, kQ, gj, eY, iy, jA, jC, gp, iA, ko, fw, eb, eQ, cO, bf, ff, bO, bP, bd, be, bL, bc, bN, aO, aI, bM, aN, bJ, aT, aQ, aD.rv] at hq)
  | refine wb ?_ | refine wr ?_ | refine wk ?_ | refine we ?_ | refine ws ?_ | refine wq ?_
  | (refine wc rfl (fun hc => ?_) (fun hc => ?_) <;> (try simp at hc) <;> (try omega) <;> (try (simp [h2] at hc; done)) <;> (try (simp [h3] at hc; done)) <;> (try (simp [h4] at hc; done)))
  | (refine ib (fun hc => ?_) (fun hc => ?_) <;> (try omega) <;> (try simp (disch := omega) only [if_pos, if_neg])))
  obtain ⟨n8, XS⟩ : ∃ n8, n8 = A2.next := ⟨_, rfl⟩
  rw [← XS] at hS
  rw [← XS]
  obtain ⟨s1, HK⟩ : ∃ s1, s1 = (jG (iD c 0)).2 := ⟨_, rfl⟩
  rw [← HK] at hS
  have hA := Cy (tK Co 0 0 (by decide))
  have hM := B5 RS 2
  have hI : AbI (km c 2 (hZ c) 0) (km c 2 (hZ c) 1) (km c 2 (hZ c) 2) s1 (km c 2 (hZ c)) := by
    subst HK
    exact ⟨fun e => (by cases e), .inr ⟨rfl, rfl, rfl, rfl⟩⟩
  have hth : s1.ag = 0 := by subst HK; rfl
  rw [← HK] at hA
  clear HK P4 V8 hq
  generalize km c 2 (hZ c) = M0 at *
  apply image_use hS (cU := hM.Rl Co (by decide)) (h2 := by rw [hM.l2]; decide) (h3 := by rw [hM.l3]; decide) (h4 := by rw [hM.l4]; decide)
  case hp =>
    (· repeat' (first | apply aX.z | apply aX.s | apply ay.z | apply ay.ly | apply ay.qC | apply ay.s))
  clear hS hw
  intro o0 c0 o1 c1 o5 c5 o6 c6 o7 c7 A3 hS hw
  obtain ⟨D, hD⟩ : ∃ D, M0 0 = D := ⟨_, rfl⟩
  obtain ⟨O, hO⟩ : ∃ O, M0 1 = O := ⟨_, rfl⟩
  obtain ⟨K0, hK0⟩ : ∃ K0, M0 2 = K0 := ⟨_, rfl⟩
  obtain ⟨k2, hk2⟩ : ∃ k2, K0.getD 0 0 = k2 := ⟨_, rfl⟩
  have PF : D.length < 2^39 := by rw [← hD]; exact hM.Rl Co (by decide) 0 (by omega)
  have IR : O.length < 2^39 := by rw [← hO]; exact hM.Rl Co (by decide) 1 (by omega)
  rw [hD, hO, hK0] at hI
  rw [hD, hO] at hS
  rw [hD, hO, hK0, hk2]
  generalize (M0 3).getD 0 0 = k3
  generalize (M0 4).getD 0 0 = k4
  generalize (M0 5).length = m5 at *
  generalize (M0 6).length = m6
  generalize (M0 7).length = m7
  have hq := hS.eA hw
  dsimp only [List.cons_append, List.nil_append, bp, bY, cS, eN, eb, fw, oK] at hq
  repeat' (first
  | (refine il fun R hR => ?_; simp [ak, au, hq, AW.aa, af]; try simp (disch := omega) only [if_pos, if_neg, ak, au])
  | (refine hR _ _ ?_; clear hR R) | (refine hK _ _ ?_; clear hK K) | refine Vt ?_ | refine lr ?_ | refine la ?_
  | refine wn fun K hK => ?_
  | simp only [wS, oAborts_0]
  | refine wl Tryz.mx oAborts_0 (by decide +kernel) fun K hK => ?_
  | refine wb ?_ | refine wr ?_ | refine wk ?_ | refine we ?_ | refine ws ?_ | refine wq ?_
  | (refine wc rfl (fun hc => ?_) (fun hc => ?_) <;> (try simp at hc) <;> (try omega) <;> (try (simp [h2] at hc; done)) <;> (try (simp [h3] at hc; done)) <;> (try (simp [h4] at hc; done)))
  | (refine ib (fun hc => ?_) (fun hc => ?_) <;> (try omega) <;> (try simp (disch := omega) only [if_pos, if_neg])))
  obtain ⟨Ki, Ny⟩ : ∃ Ki, Ki = A3.next := ⟨_, rfl⟩
  rw [← Ny]
  obtain ⟨img, himg⟩ : ∃ img : List Value, img = [.slice o0 D.length c0, .slice o1 O.length c1, .int .u64 k2, .int .u64 k3, .int .u64 k4, .slice o5 m5 c5, .slice o6 m6 c6, .slice o7 m7 c7] := ⟨_, rfl⟩
  rw [← himg]
  have lp := an.jd (o' := .cells img true 1) (an.jn (o := .cells [.slice none 0 0, .slice none 0 0, .int .u64 0, .int .u64 0, .int .u64 0, .slice none 0 0, .slice none 0 0, .slice none 0 0] true 1) hS hw) .z
  have it := (hw.alloc (.cells [.slice none 0 0, .slice none 0 0, .int .u64 0, .int .u64 0, .int .u64 0, .slice none 0 0, .slice none 0 0, .slice none 0 0] true 1)).set (i := A3.next) (some (.cells img true 1)) (by simp)
  rw [← Ny] at lp it
  refine awp_joinB (fun fr A' => ∃ (m : Nat) (s : aD) (M : Mm), m ≤ 60 ∧ AbJ c a r pb mb n5 n6 n8 Ki o qs.length cp (.slice o0 D.length c0) (.slice o1 O.length c1) D O K0 img A.cy m s M fr A') ?_ ?_
  · refine ed (fun k fr A' => ∃ (i : Nat) (s : aD) (M : Mm), k = qs.length - i ∧ i ≤ qs.length ∧ fr 11 = .int .i64 i ∧ AbJ c a r pb mb n5 n6 n8 Ki o qs.length cp (.slice o0 D.length c0) (.slice o1 O.length c1) D O K0 img A.cy i s M fr A') qs.length ?_ ?_
    · refine ⟨0, s1, M0, by simp, by simp, by simp, by simp, by simp, by simp, by simp [XS], by simp, it, hA, hM, hI, hth, ?_⟩
      unfold abL
      apply an.cC lp
      dsimp only [oK]
      (· repeat' (first | apply aX.z | apply aX.s | apply ay.z | apply ay.ly | apply ay.qC | apply ay.s))
    clear lp it hS hw hq hA hM hI hth
    rintro k fr A4 ⟨i, s, M, rfl, hi, g11, g1, g5, g6, g8, DR, hw, hA, hM, hI, hth, hS⟩
    have hlu := hA.b.cf
    have qg := bI.bu hS .z
    have w1 := yk a s _ _ A4 hw qg
    have w2 := Cx a s _ A4 hw qg
    have hkp := abL_keeps hS
    dsimp only [abL] at hS
    have hq := hS.eA hw
    dsimp only [List.cons_append, List.nil_append, bp, bY, cS, eN, eb, fw, oK] at hq
    by_cases dQ : i < qs.length
    case neg =>
      have ey : ¬ (i : Int) < qs.length := by omega
      repeat' (first
      | (refine il fun R hR => ?_; simp [ak, au, g1, g5, g6, g8, DR, g11, ey]; try simp (disch := omega) only [if_pos, if_neg, ak, au])
      | (refine hR _ _ ?_; clear hR R) | (refine hK _ _ ?_; clear hK K) | refine Vt ?_ | refine lr ?_ | refine la ?_
      | refine wn fun K hK => ?_
      | simp only [wS, oAborts_0]
      | refine wl Tryz.mx oAborts_0 (by decide +kernel) fun K hK => ?_
      | refine wb ?_ | refine wr ?_ | refine wk ?_ | refine we ?_ | refine ws ?_ | refine wq ?_
      | (refine wc rfl (fun hc => ?_) (fun hc => ?_) <;> (try simp at hc) <;> (try omega) <;> (try (simp [h2] at hc; done)) <;> (try (simp [h3] at hc; done)) <;> (try (simp [h4] at hc; done)))
      | (refine ib (fun hc => ?_) (fun hc => ?_) <;> (try omega) <;> (try simp (disch := omega) only [if_pos, if_neg])))
      exact ⟨i, s, M, by omega, g1, g5, g6, g8, DR, hw, hA, hM, hI, hth, hS⟩
    have ey : (i : Int) < qs.length := by omega
    by_cases dn : s.av = 2
    · repeat' (first
    | (refine il fun R hR => ?_; simp [ak, au, g1, g5, g6, g8, DR, g11, ey, dn, hq, AW.aa]; try simp (disch := omega) only [if_pos, if_neg, ak, au])
    | (refine hR _ _ ?_; clear hR R) | (refine hK _ _ ?_; clear hK K) | refine Vt ?_ | refine lr ?_ | refine la ?_
    | refine wn fun K hK => ?_
    | simp only [wS, oAborts_0]
    | refine wl Tryz.mx oAborts_0 (by decide +kernel) fun K hK => ?_
    | (refine bD (w1) ?_; rintro _ _ ⟨rfl, rfl⟩ _ _)
    | refine wb ?_ | refine wr ?_ | refine wk ?_ | refine we ?_ | refine ws ?_ | refine wq ?_
    | (refine wc rfl (fun hc => ?_) (fun hc => ?_) <;> (try simp at hc) <;> (try omega) <;> (try (simp [h2] at hc; done)) <;> (try (simp [h3] at hc; done)) <;> (try (simp [h4] at hc; done)))
    | (refine ib (fun hc => ?_) (fun hc => ?_) <;> (try omega) <;> (try simp (disch := omega) only [if_pos, if_neg])))
      exact ⟨i, s, M, by omega, g1, g5, g6, g8, DR, hw, hA, hM, hI, hth, hS⟩
    obtain ⟨p, dh, own, rfl, eH, dg⟩ := (hs.keeps hkp).at dQ
    obtain ⟨q, Lv⟩ : ∃ q, q = qs[i] := ⟨_, rfl⟩
    rw [← Lv] at dg
    have P2 : dh[p.off + i * 4]? = some (.int .i64 q.ag) := dg 0 (by omega)
    have UF : dh[p.off + i * 4 + 1]? = some (.int .i64 q.eV) := dg 1 (by omega)
    have BG : dh[p.off + i * 4 + 2]? = some (.int .i64 q.cA) := dg 2 (by omega)
    have V4 : dh[p.off + i * 4 + 3]? = some (.int .u64 q.v) := dg 3 (by omega)
    obtain ⟨XC, zz⟩ := Q1 P2 UF BG V4
    have mc : IntKind.i64.wrap ((i : Int) + 1) = ((i + 1 : Nat) : Int) := ak (by omega) (by omega)
    have RO : i < 2^40 := by omega
    have XS := an.g hS 2 rfl
    refine wq ?_
    refine wq ?_
    refine wn fun K hK => ?_
    repeat' (first
    | (refine il fun R hR => ?_; simp [ak, au, g1, g5, g6, g8, DR, g11, ey, dn, hq, AW.aa]; try simp (disch := omega) only [if_pos, if_neg, ak, au])
    | (refine hR _ _ ?_; clear hR R) | refine Vt ?_ | refine lr ?_ | refine la ?_
    | simp only [wS]
    | (refine bD (w1) ?_; rintro _ _ ⟨rfl, rfl⟩ _ _)
    | (refine ib (fun hc => ?_) (fun hc => ?_) <;> (try omega) <;> (try simp (disch := omega) only [if_pos, if_neg])))
    refine hK _ _ ?_
    clear hK K
    refine wc rfl (fun hc => ?_) (fun hc => ?_)
    case refine_2 => simp at hc
    clear hc
    refine wk ?_
    refine wq ?_
    refine wb ?_
    refine wq ?_
    refine L4 (fun fr A' => ∃ s, fr 11 = .int .i64 i ∧ AbJ c a r pb mb n5 n6 n8 Ki (some p) qs.length cp (.slice o0 D.length c0) (.slice o1 O.length c1) D O K0 img A.cy i s M fr A') ?_ ?_
    · by_cases hb : s.Gu = true
      · rw [hb] at w2
        repeat' (first
        | (refine il fun R hR => ?_; simp [ak, au, g1, g5, g6, g8, DR, g11, hq, AW.aa, af]; try simp (disch := omega) only [if_pos, if_neg, ak, au])
        | (refine hR _ _ ?_; clear hR R) | (refine hK _ _ ?_; clear hK K) | refine Vt ?_ | refine lr ?_ | refine la ?_
        | refine wn fun K hK => ?_
        | simp only [wS, oAborts_0]
        | refine wl Tryz.mx oAborts_0 (by decide +kernel) fun K hK => ?_
        | (refine bD (w2) ?_; rintro _ _ ⟨rfl, rfl⟩ _ _)
        | refine wb ?_ | refine wr ?_ | refine wk ?_ | refine we ?_ | refine ws ?_ | refine wq ?_
        | (refine wc rfl (fun hc => ?_) (fun hc => ?_) <;> (try simp at hc) <;> (try omega) <;> (try (simp [h2] at hc; done)) <;> (try (simp [h3] at hc; done)) <;> (try (simp [h4] at hc; done)))
        | (refine ib (fun hc => ?_) (fun hc => ?_) <;> (try omega) <;> (try simp (disch := omega) only [if_pos, if_neg])))
        exact ⟨s, by simp [g11], by simp [g1], by simp [g5], by simp [g6], by simp [g8], by simp [DR], hw, hA, hM, hI, hth, hS⟩
      have hb : s.Gu = false := by simpa using hb
      rw [hb] at w2
      have hC := hA.b.Gy Co
      have OD := tK Co 0 0 (by decide)
      have VG : nA Tryz.prog 25 [c.v, .int .i64 0] [] (fun (b : Nat) v => v = pv b) (fun b => [.h (bF b (iD c 0))]) := fun A F hw hS => Jo c Co 0 A F hw hS
      have V9 := fun r' : Nat => L9 c Co a r' q s (iD c 0) hC (OD.b.Gy Co) (by rw [OD.b.cf]; exact OD.b.kN)
      dsimp only [bG.v, nc.val] at VG V9
      refine wq ?_
      refine wn fun K hK => ?_
      repeat' (first
      | (refine il fun R hR => ?_; simp [ak, au, g1, g5, g6, g8, DR, g11, hq, AW.aa]; try simp (disch := omega) only [if_pos, if_neg, ak, au])
      | (refine hR _ _ ?_; clear hR R) | refine Vt ?_ | refine lr ?_ | refine la ?_
      | simp only [wS]
      | (refine bD (w2) ?_; rintro _ _ ⟨rfl, rfl⟩ _ _)
      | (refine ib (fun hc => ?_) (fun hc => ?_) <;> (try omega) <;> (try simp (disch := omega) only [if_pos, if_neg])))
      refine hK _ _ ?_
      clear hK K
      refine wc rfl (fun hc => ?_) (fun hc => ?_)
      case refine_2 => simp at hc
      clear hc
      refine wq ?_
      refine L4 (fun fr A' => ∃ zh b', fr 1 = .slice (some p) qs.length cp ∧ fr 5 = pv n5 ∧ fr 6 = pv n6 ∧ fr 8 = pv n8 ∧ fr 10 = pv Ki ∧ fr 11 = .int .i64 i ∧ fr 12 = pv zh ∧ A'.Wf ∧
        an A' (.h (bF b' (iD c 0)) :: .at zh (.cells [pv a, pv b'] true 1) :: abL c a r pb mb n5 n6 n8 Ki (.slice o0 D.length c0) (.slice o1 O.length c1) D O img M s A.cy)) ?_ ?_
      · repeat' (first
      | (refine il fun R hR => ?_; simp [ak, au, g1, g5, g6, g8, DR, g11, hq, AW.aa, af]; try simp (disch := omega) only [if_pos, if_neg, ak, au])
      | (refine hR _ _ ?_; clear hR R) | (refine hK _ _ ?_; clear hK K) | refine Vt ?_ | refine lr ?_ | refine la ?_
      | (refine EZ fun R hR => ?_; simp [ak, au, g1, g5, g6, g8, DR, g11, hq, AW.aa, af]; try simp (disch := omega) only [if_pos, if_neg, ak, au])
      | (refine EF (fun R hR => ?_) (fun R hR => ?_) <;> (simp [ak, au, g1, g5, g6, g8, DR, g11, hq, AW.aa, af]; try simp (disch := omega) only [if_pos, if_neg, ak, au]))
      | refine EY ?_
      | refine wn fun K hK => ?_
      | simp only [wS, oAborts_0]
      | simp only [hN, nC, jt, Option.map_none, Option.map_some, List.getElem?_toArray, List.getElem?_cons_zero, List.getElem?_cons_succ, List.getD_cons_zero, List.getD_cons_succ, Option.bind_some]
      | refine wl Tryz.mx oAborts_0 (by decide +kernel) fun K hK => ?_
      | (refine ⟨fun A' g => by simp [AW.aa, g], ?_⟩)
      | (refine ⟨by simp [hq], ?_⟩)
      | (refine wt (fun A' => A'.cy n8 = some (.cells [pv a, pv r] true 1)) Tryz.mx [0,1,0,3,0,2,3] (.bu 0 (.bu 1 (.bu 2 (.sC 3 (.bu 4 (.bu 5 (.bu 6 .nil))) 5 (.bu 3 (.bu 4 (.bu 6 .nil))))))) (by decide +kernel) fun K hK => ?_)
      | (apply nA.el (VG); (· repeat' (first | assumption | apply AW.Wf.alloc | apply AW.Wf.set | exact Nat.le_refl _ | (simp only [AW.aZ, AW.dq]; omega) | apply an.uP hS hw | apply ay.z | apply ay.s)); (· repeat' (first | exact hS | exact Nat.le_refl _ | with_reducible apply an.jd | with_reducible apply an.jZ | with_reducible apply AW.gE | with_reducible apply AW.jU | with_reducible apply an.jn | with_reducible apply ay.z | with_reducible apply ay.s | assumption | apply AW.Wf.alloc | apply AW.Wf.set | (simp only [AW.aZ, AW.dq]; omega) | apply an.uP hS hw | exact rfl)); (· repeat' (first | apply aX.z | apply aX.s | apply ay.z | apply ay.ly | apply ay.qC | apply ay.s)); (rintro xw _ _ rfl hS hw _; (try dsimp only [AW.aZ, List.cons_append, List.nil_append] at hS); (try (have hq := hS.eA hw; dsimp only [List.cons_append, List.nil_append, bp, bY, cS, eN, bH, gA, kQ, gj, eY, iy, jA, jC, gp, iA, ko, fw, eb, eQ, cO, bf, ff, bO, bP, bd, be, bL, bc, bN, aO, aI, bM, aN, bJ, aT, aQ, aD.rv] at hq))))
      | refine wb ?_ | refine wr ?_ | refine wk ?_ | refine we ?_ | refine ws ?_ | refine wq ?_
      | (refine wc rfl (fun hc => ?_) (fun hc => ?_) <;> (try simp at hc) <;> (try omega) <;> (try (simp [h2] at hc; done)) <;> (try (simp [h3] at hc; done)) <;> (try (simp [h4] at hc; done)))
      | (refine ib (fun hc => ?_) (fun hc => ?_) <;> (try omega) <;> (try simp (disch := omega) only [if_pos, if_neg])))
        all_goals
          refine ⟨_, xw, by simp [g1], by simp [g5], by simp [g6], by simp [g8], by simp [DR], by simp [g11], by simp; rfl, ?_, ?_⟩
          · repeat' (first | assumption | apply AW.Wf.alloc | apply AW.Wf.set | exact Nat.le_refl _ | (simp only [AW.aZ, AW.dq]; omega) | apply an.uP hS hw | apply ay.z | apply ay.s)
          unfold abL
          apply an.cC
          (· repeat' (first | exact hS | exact Nat.le_refl _ | with_reducible apply an.jd | with_reducible apply an.jZ | with_reducible apply AW.gE | with_reducible apply AW.jU | with_reducible apply an.jn | with_reducible apply ay.z | with_reducible apply ay.s | assumption | apply AW.Wf.alloc | apply AW.Wf.set | (simp only [AW.aZ, AW.dq]; omega) | apply an.uP hS hw | exact rfl))
          (· repeat' (first | apply aX.z | apply aX.s | apply ay.z | apply ay.ly | apply ay.qC | apply ay.s))
      clear g1 g5 g6 g8 DR g11 hw hS hq eH dg P2 UF BG V4 XC zz w1 w2 hkp qg XS
      rintro fr A4 ⟨zh, b', g1, g5, g6, g8, DR, g11, DQ, hw, hS⟩
      obtain ⟨p', dh, own, Nn, eH, dg⟩ := (hs.keeps (abL_keeps (an.tail (an.tail hS)))).at dQ
      injection Nn with Nn
      subst Nn
      rw [← Lv] at dg
      have P2 : dh[p.off + i * 4]? = some (.int .i64 q.ag) := dg 0 (by omega)
      have UF : dh[p.off + i * 4 + 1]? = some (.int .i64 q.eV) := dg 1 (by omega)
      have BG : dh[p.off + i * 4 + 2]? = some (.int .i64 q.cA) := dg 2 (by omega)
      have V4 : dh[p.off + i * 4 + 3]? = some (.int .u64 q.v) := dg 3 (by omega)
      obtain ⟨XC, zz⟩ := Q1 P2 UF BG V4
      dsimp only [abL] at hS
      have hq := hS.eA hw
      dsimp only [List.cons_append, List.nil_append, bp, bY, cS, eN, eb, fw, oK] at hq
      repeat' (first
      | (refine il fun R hR => ?_; simp [ak, au, g1, g5, g6, g8, DR, g11, DQ, hq, eH, XC, zz, P2, UF, BG, V4, AW.aa, af]; try simp (disch := omega) only [if_pos, if_neg, ak, au])
      | (refine hR _ _ ?_; clear hR R) | (refine hK _ _ ?_; clear hK K) | refine Vt ?_ | refine lr ?_ | refine la ?_
      | refine wn fun K hK => ?_
      | simp only [wS, oAborts_0]
      | refine wl Tryz.mx oAborts_0 (by decide +kernel) fun K hK => ?_
      | (apply aP.el ((V9 _)); (· repeat' (first | assumption | apply AW.Wf.alloc | apply AW.Wf.set | exact Nat.le_refl _ | (simp only [AW.aZ, AW.dq]; omega) | apply an.uP hS hw | apply ay.z | apply ay.s)); (· repeat' (first | exact hS | exact Nat.le_refl _ | with_reducible apply an.jd | with_reducible apply an.jZ | with_reducible apply AW.gE | with_reducible apply AW.jU | with_reducible apply an.jn | with_reducible apply ay.z | with_reducible apply ay.s | assumption | apply AW.Wf.alloc | apply AW.Wf.set | (simp only [AW.aZ, AW.dq]; omega) | apply an.uP hS hw | exact rfl)); (· repeat' (first | apply aX.z | apply aX.s | apply ay.z | apply ay.ly | apply ay.qC | apply ay.s)); rintro _ _ rfl hS hw _; dsimp only [AW.aZ, List.cons_append, List.nil_append] at hS; have hq := hS.eA hw; dsimp only [List.cons_append, List.nil_append, bp, bY, cS, eN, bH, gA, kQ, gj, eY, iy, jA, jC, gp, iA, ko, fw, eb, eQ, cO, bf, ff, bO, bP, bd, be, bL, bc, bN, aO, aI, bM, aN, bJ, aT, aQ, aD.rv] at hq)
      | refine wb ?_ | refine wr ?_ | refine wk ?_ | refine we ?_ | refine ws ?_ | refine wq ?_
      | (refine wc rfl (fun hc => ?_) (fun hc => ?_) <;> (try simp at hc) <;> (try omega) <;> (try (simp [h2] at hc; done)) <;> (try (simp [h3] at hc; done)) <;> (try (simp [h4] at hc; done)))
      | (refine ib (fun hc => ?_) (fun hc => ?_) <;> (try omega) <;> (try simp (disch := omega) only [if_pos, if_neg])))
      refine ⟨(xB c q s).2, by simp [g11], by simp [g1], by simp [g5], by simp [g6], by simp [g8], by simp [DR], ?_, NZ Co hA q, hM, hI.SE hA (ask_calm c q s), (askS_thread c q s).trans hth, ?_⟩
      · repeat' (first | assumption | apply AW.Wf.alloc | apply AW.Wf.set | exact Nat.le_refl _ | (simp only [AW.aZ, AW.dq]; omega) | apply an.uP hS hw | apply ay.z | apply ay.s)
      unfold abL
      apply an.cC
      (· repeat' (first | exact hS | exact Nat.le_refl _ | with_reducible apply an.jd | with_reducible apply an.jZ | with_reducible apply AW.gE | with_reducible apply AW.jU | with_reducible apply an.jn | with_reducible apply ay.z | with_reducible apply ay.s | assumption | apply AW.Wf.alloc | apply AW.Wf.set | (simp only [AW.aZ, AW.dq]; omega) | apply an.uP hS hw | exact rfl))
      (· repeat' (first | apply aX.z | apply aX.s | apply ay.z | apply ay.ly | apply ay.qC | apply ay.s))
    rintro fr A4 ⟨s, g11, g1, g5, g6, g8, DR, hw, hA, hM, hI, hth, hS⟩
    dsimp only [abL] at hS
    have hq := hS.eA hw
    dsimp only [List.cons_append, List.nil_append, bp, bY, cS, eN, eb, fw, oK] at hq
    repeat' (first
    | (refine il fun R hR => ?_; simp [ak, au, g1, g5, g6, g8, DR, g11, ey, hq, AW.aa, af]; try simp (disch := omega) only [if_pos, if_neg, ak, au])
    | (refine hR _ _ ?_; clear hR R) | (refine hK _ _ ?_; clear hK K) | refine Vt ?_ | refine lr ?_ | refine la ?_
    | refine wn fun K hK => ?_
    | simp only [wS, oAborts_0]
    | refine wl Tryz.mx oAborts_0 (by decide +kernel) fun K hK => ?_
    | refine wb ?_ | refine wr ?_ | refine wk ?_ | refine we ?_ | refine ws ?_ | refine wq ?_
    | (refine wc rfl (fun hc => ?_) (fun hc => ?_) <;> (try simp at hc) <;> (try omega) <;> (try (simp [h2] at hc; done)) <;> (try (simp [h3] at hc; done)) <;> (try (simp [h4] at hc; done)))
    | (refine ib (fun hc => ?_) (fun hc => ?_) <;> (try omega) <;> (try simp (disch := omega) only [if_pos, if_neg])))
    have Ng := BZ a pb s M (hA.KE Co hM)
    obtain ⟨Ys, hNo⟩ := hI.step RO hA hM hth (by decide)
    obtain ⟨kL, S7⟩ := BY Co RO hA hM
    have hth' := (attStep_thread s M).trans hth
    unfold fM at Ng
    unfold NoSt at hNo
    obtain ⟨x, ph, s', M', hr⟩ : ∃ x ph s' M', cD s M = (x, ph, s', M') := ⟨_, _, _, _, rfl⟩
    rw [hr] at Ng Ys hNo kL S7 hth'
    dsimp only at Ng Ys hNo kL S7 hth'
    clear hr
    have hS := an.toL (abL c a r pb mb n5 n6 n8 Ki (.slice o0 D.length c0) (.slice o1 O.length c1) D O img M s A.cy) hS pP
    refine aP.el Ng hw hS (.s .z (.s .z .z)) ?_
    rintro _ A5 rfl hS hw _
    have qg := bI.bu hS .z
    have w3 := fun (A' : AW) (h : A5.le A') (gY : A'.Wf) => DW a s' _ _ A' gY (qg.le hw h)
    have w4 := fun (A' : AW) (h : A5.le A') (gY : A'.Wf) => Cw a s' _ _ A' gY (qg.le hw h)
    dsimp only [abL, eb, List.cons_append, List.nil_append] at hS
    have hq := hS.eA hw
    dsimp only [List.cons_append, List.nil_append, bp, bY, cS, eN, eb, fw, oK] at hq
    by_cases RP : x.eV = 2
    case neg =>
      repeat' (first
      | (refine il fun R hR => ?_; simp [ak, au, g1, g5, g6, g8, DR, g11, mc, RP, hq, AW.aa, af, aS, bq.v]; try simp (disch := omega) only [if_pos, if_neg, ak, au])
      | (refine hR _ _ ?_; clear hR R) | (refine hK _ _ ?_; clear hK K) | refine Vt ?_ | refine lr ?_ | refine la ?_
      | refine wn fun K hK => ?_
      | simp only [wS, oAborts_0]
      | refine wl Tryz.mx oAborts_0 (by decide +kernel) fun K hK => ?_
      | refine wb ?_ | refine wr ?_ | refine wk ?_ | refine we ?_ | refine ws ?_ | refine wq ?_
      | (refine wc rfl (fun hc => ?_) (fun hc => ?_) <;> (try simp at hc) <;> (try omega) <;> (try (simp [h2] at hc; done)) <;> (try (simp [h3] at hc; done)) <;> (try (simp [h4] at hc; done)))
      | (refine ib (fun hc => ?_) (fun hc => ?_) <;> (try omega) <;> (try simp (disch := omega) only [if_pos, if_neg])))
      refine ⟨qs.length - (i + 1), by omega, i + 1, s', M', rfl, by omega, by first | (simp; done) | (simp; omega), by simp [g1], by simp [g5], by simp [g6], by simp [g8], by simp [DR], ?_, kL, S7, Ys, hth', ?_⟩
      · repeat' (first | assumption | apply AW.Wf.alloc | apply AW.Wf.set | exact Nat.le_refl _ | (simp only [AW.aZ, AW.dq]; omega) | apply an.uP hS hw | apply ay.z | apply ay.s)
      unfold abL
      apply an.cC
      (· repeat' (first | exact hS | exact Nat.le_refl _ | with_reducible apply an.jd | with_reducible apply an.jZ | with_reducible apply AW.gE | with_reducible apply AW.jU | with_reducible apply an.jn | with_reducible apply ay.z | with_reducible apply ay.s | assumption | apply AW.Wf.alloc | apply AW.Wf.set | (simp only [AW.aZ, AW.dq]; omega) | apply an.uP hS hw | exact rfl))
      (· repeat' (first | apply aX.z | apply aX.s | apply ay.z | apply ay.ly | apply ay.qC | apply ay.s))
    by_cases hk2 : x.cell = 1
    case neg =>
      repeat' (first
      | (refine il fun R hR => ?_; simp [ak, au, g1, g5, g6, g8, DR, g11, mc, RP, hk2, hq, AW.aa, af, aS, bq.v]; try simp (disch := omega) only [if_pos, if_neg, ak, au])
      | (refine hR _ _ ?_; clear hR R) | (refine hK _ _ ?_; clear hK K) | refine Vt ?_ | refine lr ?_ | refine la ?_
      | refine wn fun K hK => ?_
      | simp only [wS, oAborts_0]
      | refine wl Tryz.mx oAborts_0 (by decide +kernel) fun K hK => ?_
      | refine wb ?_ | refine wr ?_ | refine wk ?_ | refine we ?_ | refine ws ?_ | refine wq ?_
      | (refine wc rfl (fun hc => ?_) (fun hc => ?_) <;> (try simp at hc) <;> (try omega) <;> (try (simp [h2] at hc; done)) <;> (try (simp [h3] at hc; done)) <;> (try (simp [h4] at hc; done)))
      | (refine ib (fun hc => ?_) (fun hc => ?_) <;> (try omega) <;> (try simp (disch := omega) only [if_pos, if_neg])))
      refine ⟨qs.length - (i + 1), by omega, i + 1, s', M', rfl, by omega, by first | (simp; done) | (simp; omega), by simp [g1], by simp [g5], by simp [g6], by simp [g8], by simp [DR], ?_, kL, S7, Ys, hth', ?_⟩
      · repeat' (first | assumption | apply AW.Wf.alloc | apply AW.Wf.set | exact Nat.le_refl _ | (simp only [AW.aZ, AW.dq]; omega) | apply an.uP hS hw | apply ay.z | apply ay.s)
      unfold abL
      apply an.cC
      (· repeat' (first | exact hS | exact Nat.le_refl _ | with_reducible apply an.jd | with_reducible apply an.jZ | with_reducible apply AW.gE | with_reducible apply AW.jU | with_reducible apply an.jn | with_reducible apply ay.z | with_reducible apply ay.s | assumption | apply AW.Wf.alloc | apply AW.Wf.set | (simp only [AW.aZ, AW.dq]; omega) | apply an.uP hS hw | exact rfl))
      (· repeat' (first | apply aX.z | apply aX.s | apply ay.z | apply ay.ly | apply ay.qC | apply ay.s))
    obtain ⟨EM, EL, Np⟩ := hNo ⟨RP, hk2⟩
    rw [EL] at w3
    rw [Np] at w4
    repeat' (first
    | (refine il fun R hR => ?_; simp [ak, au, g1, g5, g6, g8, DR, g11, mc, RP, hk2, EM, hq, AW.aa, af, aS, bq.v]; try simp (disch := omega) only [if_pos, if_neg, ak, au])
    | (refine hR _ _ ?_; clear hR R) | (refine hK _ _ ?_; clear hK K) | refine Vt ?_ | refine lr ?_ | refine la ?_
    | refine wn fun K hK => ?_
    | simp only [wS, oAborts_0]
    | refine wl Tryz.mx oAborts_0 (by decide +kernel) fun K hK => ?_
    | (refine bD (w3 _ (AW.le.Ii A5 _ _) ((hw.alloc _).set _ (by simp))) ?_; rintro _ _ ⟨rfl, rfl⟩ _ _)
    | (refine bD (w4 _ (AW.le.Ii A5 _ _) ((hw.alloc _).set _ (by simp))) ?_; rintro _ _ ⟨rfl, rfl⟩ _ _)
    | refine wb ?_ | refine wr ?_ | refine wk ?_ | refine we ?_ | refine ws ?_ | refine wq ?_
    | (refine wc rfl (fun hc => ?_) (fun hc => ?_) <;> (try simp at hc) <;> (try omega) <;> (try (simp [h2] at hc; done)) <;> (try (simp [h3] at hc; done)) <;> (try (simp [h4] at hc; done)))
    | (refine ib (fun hc => ?_) (fun hc => ?_) <;> (try omega) <;> (try simp (disch := omega) only [if_pos, if_neg])))
    refine ⟨qs.length - (i + 1), by omega, i + 1, s', M', rfl, by omega, by first | (simp; done) | (simp; omega), by simp [g1], by simp [g5], by simp [g6], by simp [g8], by simp [DR], ?_, kL, S7, Ys, hth', ?_⟩
    · repeat' (first | assumption | apply AW.Wf.alloc | apply AW.Wf.set | exact Nat.le_refl _ | (simp only [AW.aZ, AW.dq]; omega) | apply an.uP hS hw | apply ay.z | apply ay.s)
    unfold abL
    apply an.cC
    (· repeat' (first | exact hS | exact Nat.le_refl _ | with_reducible apply an.jd | with_reducible apply an.jZ | with_reducible apply AW.gE | with_reducible apply AW.jU | with_reducible apply an.jn | with_reducible apply ay.z | with_reducible apply ay.s | assumption | apply AW.Wf.alloc | apply AW.Wf.set | (simp only [AW.aZ, AW.dq]; omega) | apply an.uP hS hw | exact rfl))
    (· repeat' (first | apply aX.z | apply aX.s | apply ay.z | apply ay.ly | apply ay.qC | apply ay.s))
  clear hs hw hS hq lp it hA hM hI hth
  rintro fr A4 ⟨m, s, M, hm, g1, g5, g6, g8, DR, hw, hA, hM, hI, hth, hS⟩
  refine (?_ : fj _ _ _ _ _ _)
  refine wq ?_
  repeat' (first
  | (refine il fun R hR => ?_; simp [ak, au]; try simp (disch := omega) only [if_pos, if_neg, ak, au])
  | (refine hR _ _ ?_; clear hR R) | (refine hK _ _ ?_; clear hK K) | refine Vt ?_ | refine lr ?_ | refine la ?_
  | refine wn fun K hK => ?_
  | simp only [wS, oAborts_0]
  | refine wl Tryz.mx oAborts_0 (by decide +kernel) fun K hK => ?_
  | refine wb ?_ | refine wr ?_ | refine wk ?_ | refine we ?_ | refine ws ?_ | refine wq ?_
  | (refine wc rfl (fun hc => ?_) (fun hc => ?_) <;> (try simp at hc) <;> (try omega) <;> (try (simp [h2] at hc; done)) <;> (try (simp [h3] at hc; done)) <;> (try (simp [h4] at hc; done)))
  | (refine ib (fun hc => ?_) (fun hc => ?_) <;> (try omega) <;> (try simp (disch := omega) only [if_pos, if_neg])))
  refine awp_joinB (fun fr A' => ∃ (m : Nat) (s : aD) (M : Mm), AbJ c a r pb mb n5 n6 n8 Ki o qs.length cp (.slice o0 D.length c0) (.slice o1 O.length c1) D O K0 img A.cy m s M fr A') ?_ ?_
  · refine ed (fun k fr A' => ∃ (j m : Nat) (s : aD) (M : Mm), k = 200 - j ∧ j ≤ 200 ∧ m ≤ 60 + j ∧ fr 15 = .int .i64 j ∧ AbJ c a r pb mb n5 n6 n8 Ki o qs.length cp (.slice o0 D.length c0) (.slice o1 O.length c1) D O K0 img A.cy m s M fr A') 200 ?_ ?_
    · exact ⟨0, m, s, M, by simp, by simp, by omega, by simp, by simp [g1], by simp [g5], by simp [g6], by simp [g8], by simp [DR], hw, hA, hM, hI, hth, hS⟩
    clear g1 g5 g6 g8 DR hw hA hM hI hth hS hm
    rintro k fr A4 ⟨j, m, s, M, rfl, hj, hm, g15, g1, g5, g6, g8, DR, hw, hA, hM, hI, hth, hS⟩
    have qg := bI.bu hS .z
    have w2 := Cx a s _ A4 hw qg
    dsimp only [abL] at hS
    have hq := hS.eA hw
    dsimp only [List.cons_append, List.nil_append, bp, bY, cS, eN, eb, fw, oK] at hq
    by_cases dQ : j < 200
    case neg =>
      have ey : ¬ (j : Int) < 200 := by omega
      repeat' (first
      | (refine il fun R hR => ?_; simp [ak, au, g1, g5, g6, g8, DR, g15, ey]; try simp (disch := omega) only [if_pos, if_neg, ak, au])
      | (refine hR _ _ ?_; clear hR R) | (refine hK _ _ ?_; clear hK K) | refine Vt ?_ | refine lr ?_ | refine la ?_
      | refine wn fun K hK => ?_
      | simp only [wS, oAborts_0]
      | refine wl Tryz.mx oAborts_0 (by decide +kernel) fun K hK => ?_
      | refine wb ?_ | refine wr ?_ | refine wk ?_ | refine we ?_ | refine ws ?_ | refine wq ?_
      | (refine wc rfl (fun hc => ?_) (fun hc => ?_) <;> (try simp at hc) <;> (try omega) <;> (try (simp [h2] at hc; done)) <;> (try (simp [h3] at hc; done)) <;> (try (simp [h4] at hc; done)))
      | (refine ib (fun hc => ?_) (fun hc => ?_) <;> (try omega) <;> (try simp (disch := omega) only [if_pos, if_neg])))
      exact ⟨m, s, M, by simp [g1], by simp [g5], by simp [g6], by simp [g8], by simp [DR], hw, hA, hM, hI, hth, hS⟩
    have ey : (j : Int) < 200 := by omega
    by_cases hb : s.Gu = true
    case neg =>
      have hb : s.Gu = false := by simpa using hb
      rw [hb] at w2
      repeat' (first
      | (refine il fun R hR => ?_; simp [ak, au, g1, g5, g6, g8, DR, g15, ey, hq, AW.aa]; try simp (disch := omega) only [if_pos, if_neg, ak, au])
      | (refine hR _ _ ?_; clear hR R) | (refine hK _ _ ?_; clear hK K) | refine Vt ?_ | refine lr ?_ | refine la ?_
      | refine wn fun K hK => ?_
      | simp only [wS, oAborts_0]
      | refine wl Tryz.mx oAborts_0 (by decide +kernel) fun K hK => ?_
      | (refine bD (w2) ?_; rintro _ _ ⟨rfl, rfl⟩ _ _)
      | refine wb ?_ | refine wr ?_ | refine wk ?_ | refine we ?_ | refine ws ?_ | refine wq ?_
      | (refine wc rfl (fun hc => ?_) (fun hc => ?_) <;> (try simp at hc) <;> (try omega) <;> (try (simp [h2] at hc; done)) <;> (try (simp [h3] at hc; done)) <;> (try (simp [h4] at hc; done)))
      | (refine ib (fun hc => ?_) (fun hc => ?_) <;> (try omega) <;> (try simp (disch := omega) only [if_pos, if_neg])))
      exact ⟨m, s, M, by simp [g1], by simp [g5], by simp [g6], by simp [g8], by simp [DR], hw, hA, hM, hI, hth, hS⟩
    rw [hb] at w2
    have RO : m < 2^40 := by omega
    have mc : IntKind.i64.wrap ((j : Int) + 1) = ((j + 1 : Nat) : Int) := ak (by omega) (by omega)
    repeat' (first
    | (refine il fun R hR => ?_; simp [ak, au, g1, g5, g6, g8, DR, g15, ey, hq, AW.aa]; try simp (disch := omega) only [if_pos, if_neg, ak, au])
    | (refine hR _ _ ?_; clear hR R) | (refine hK _ _ ?_; clear hK K) | refine Vt ?_ | refine lr ?_ | refine la ?_
    | refine wn fun K hK => ?_
    | simp only [wS, oAborts_0]
    | refine wl Tryz.mx oAborts_0 (by decide +kernel) fun K hK => ?_
    | (refine bD (w2) ?_; rintro _ _ ⟨rfl, rfl⟩ _ _)
    | refine wb ?_ | refine wr ?_ | refine wk ?_ | refine we ?_ | refine ws ?_ | refine wq ?_
    | (refine wc rfl (fun hc => ?_) (fun hc => ?_) <;> (try simp at hc) <;> (try omega) <;> (try (simp [h2] at hc; done)) <;> (try (simp [h3] at hc; done)) <;> (try (simp [h4] at hc; done)))
    | (refine ib (fun hc => ?_) (fun hc => ?_) <;> (try omega) <;> (try simp (disch := omega) only [if_pos, if_neg])))
    have Ng := BZ a pb s M (hA.KE Co hM)
    obtain ⟨Ys, hNo⟩ := hI.step RO hA hM hth (by decide)
    obtain ⟨kL, S7⟩ := BY Co RO hA hM
    have hth' := (attStep_thread s M).trans hth
    unfold fM at Ng
    unfold NoSt at hNo
    obtain ⟨x, ph, s', M', hr⟩ : ∃ x ph s' M', cD s M = (x, ph, s', M') := ⟨_, _, _, _, rfl⟩
    rw [hr] at Ng Ys hNo kL S7 hth'
    dsimp only at Ng Ys hNo kL S7 hth'
    clear hr
    have hS := an.toL (abL c a r pb mb n5 n6 n8 Ki (.slice o0 D.length c0) (.slice o1 O.length c1) D O img M s A.cy) hS pP
    refine aP.el Ng hw hS (.s .z (.s .z .z)) ?_
    rintro _ A5 rfl hS hw _
    repeat' (first
    | (refine il fun R hR => ?_; simp [ak, au, g1, g5, g6, g8, DR, g15, mc]; try simp (disch := omega) only [if_pos, if_neg, ak, au])
    | (refine hR _ _ ?_; clear hR R) | (refine hK _ _ ?_; clear hK K) | refine Vt ?_ | refine lr ?_ | refine la ?_
    | refine wn fun K hK => ?_
    | simp only [wS, oAborts_0]
    | refine wl Tryz.mx oAborts_0 (by decide +kernel) fun K hK => ?_
    | refine wb ?_ | refine wr ?_ | refine wk ?_ | refine we ?_ | refine ws ?_ | refine wq ?_
    | (refine wc rfl (fun hc => ?_) (fun hc => ?_) <;> (try simp at hc) <;> (try omega) <;> (try (simp [h2] at hc; done)) <;> (try (simp [h3] at hc; done)) <;> (try (simp [h4] at hc; done)))
    | (refine ib (fun hc => ?_) (fun hc => ?_) <;> (try omega) <;> (try simp (disch := omega) only [if_pos, if_neg])))
    exact ⟨200 - (j + 1), by omega, j + 1, m + 1, s', M', rfl, by omega, by omega, by first | (simp; done) | (simp; omega), by simp [g1], by simp [g5], by simp [g6], by simp [g8], by simp [DR], hw, kL, S7, Ys, hth', hS⟩
  clear g1 g5 g6 g8 DR hw hA hM hI hth hS hm
  rintro fr A4 ⟨m, s, M, g1, g5, g6, g8, DR, hw, hA, hM, hI, hth, hS⟩
  refine (?_ : fj _ _ _ _ _ _)
  have qg := bI.bu hS .z
  have w1 := yk a s _ _ A4 hw qg
  have w4 := Cw a s _ _ A4 hw qg
  dsimp only [abL] at hS
  have hq := hS.eA hw
  dsimp only [List.cons_append, List.nil_append, bp, bY, cS, eN, eb, fw, oK] at hq
  by_cases dn : s.av = 2
  case neg =>
    repeat' (first
    | (refine il fun R hR => ?_; simp [ak, au, g1, g5, g6, g8, DR, dn, hq, AW.aa]; try simp (disch := omega) only [if_pos, if_neg, ak, au])
    | (refine hR _ _ ?_; clear hR R) | (refine hK _ _ ?_; clear hK K) | refine Vt ?_ | refine lr ?_ | refine la ?_
    | refine wn fun K hK => ?_
    | simp only [wS, oAborts_0]
    | refine wl Tryz.mx oAborts_0 (by decide +kernel) fun K hK => ?_
    | (refine bD (w1) ?_; rintro _ _ ⟨rfl, rfl⟩ _ _)
    | refine wb ?_ | refine wr ?_ | refine wk ?_ | refine we ?_ | refine ws ?_ | refine wq ?_
    | (refine wc rfl (fun hc => ?_) (fun hc => ?_) <;> (try simp at hc) <;> (try omega) <;> (try (simp [h2] at hc; done)) <;> (try (simp [h3] at hc; done)) <;> (try (simp [h4] at hc; done)))
    | (refine ib (fun hc => ?_) (fun hc => ?_) <;> (try omega) <;> (try simp (disch := omega) only [if_pos, if_neg])))
    refine bD (vj _) ?_
    rintro _ A5 rfl w5 _
    repeat' (first
    | (refine il fun R hR => ?_; simp [ak, au, AW.aa]; try simp (disch := omega) only [if_pos, if_neg, ak, au])
    | (refine hR _ _ ?_; clear hR R) | (refine hK _ _ ?_; clear hK K) | refine Vt ?_ | refine lr ?_ | refine la ?_
    | refine wn fun K hK => ?_
    | simp only [wS, oAborts_0]
    | refine wl Tryz.mx oAborts_0 (by decide +kernel) fun K hK => ?_
    | refine wb ?_ | refine wr ?_ | refine wk ?_ | refine we ?_ | refine ws ?_ | refine wq ?_
    | (refine wc rfl (fun hc => ?_) (fun hc => ?_) <;> (try simp at hc) <;> (try omega) <;> (try (simp [h2] at hc; done)) <;> (try (simp [h3] at hc; done)) <;> (try (simp [h4] at hc; done)))
    | (refine ib (fun hc => ?_) (fun hc => ?_) <;> (try omega) <;> (try simp (disch := omega) only [if_pos, if_neg])))
    simp
  by_cases GQ : s.ax = 1
  · repeat' (first
  | (refine il fun R hR => ?_; simp [ak, au, g1, g5, g6, g8, DR, dn, GQ, hq, AW.aa]; try simp (disch := omega) only [if_pos, if_neg, ak, au])
  | (refine hR _ _ ?_; clear hR R) | (refine hK _ _ ?_; clear hK K) | refine Vt ?_ | refine lr ?_ | refine la ?_
  | refine wn fun K hK => ?_
  | simp only [wS, oAborts_0]
  | refine wl Tryz.mx oAborts_0 (by decide +kernel) fun K hK => ?_
  | (refine bD (w1) ?_; rintro _ _ ⟨rfl, rfl⟩ _ _)
  | (refine bD (w4) ?_; rintro _ _ ⟨rfl, rfl⟩ _ _)
  | refine wb ?_ | refine wr ?_ | refine wk ?_ | refine we ?_ | refine ws ?_ | refine wq ?_
  | (refine wc rfl (fun hc => ?_) (fun hc => ?_) <;> (try simp at hc) <;> (try omega) <;> (try (simp [h2] at hc; done)) <;> (try (simp [h3] at hc; done)) <;> (try (simp [h4] at hc; done)))
  | (refine ib (fun hc => ?_) (fun hc => ?_) <;> (try omega) <;> (try simp (disch := omega) only [if_pos, if_neg])))
    refine bD (vj _) ?_
    rintro _ A5 rfl w5 _
    repeat' (first
    | (refine il fun R hR => ?_; simp [ak, au, AW.aa]; try simp (disch := omega) only [if_pos, if_neg, ak, au])
    | (refine hR _ _ ?_; clear hR R) | (refine hK _ _ ?_; clear hK K) | refine Vt ?_ | refine lr ?_ | refine la ?_
    | refine wn fun K hK => ?_
    | simp only [wS, oAborts_0]
    | refine wl Tryz.mx oAborts_0 (by decide +kernel) fun K hK => ?_
    | refine wb ?_ | refine wr ?_ | refine wk ?_ | refine we ?_ | refine ws ?_ | refine wq ?_
    | (refine wc rfl (fun hc => ?_) (fun hc => ?_) <;> (try simp at hc) <;> (try omega) <;> (try (simp [h2] at hc; done)) <;> (try (simp [h3] at hc; done)) <;> (try (simp [h4] at hc; done)))
    | (refine ib (fun hc => ?_) (fun hc => ?_) <;> (try omega) <;> (try simp (disch := omega) only [if_pos, if_neg])))
    simp
  obtain ⟨S3, vP⟩ := hI.cC dn
  obtain ⟨q0, q2, qd⟩ := hI.h.resolve_left fun h => GQ h.1
  rw [S3] at qd
  obtain ⟨q1, qt⟩ := qd
  unfold tkF svF at qt
  repeat' (first
  | (refine il fun R hR => ?_; simp [ak, au, g1, g5, g6, g8, DR, dn, GQ, hq, AW.aa]; try simp (disch := omega) only [if_pos, if_neg, ak, au])
  | (refine hR _ _ ?_; clear hR R) | (refine hK _ _ ?_; clear hK K) | refine Vt ?_ | refine lr ?_ | refine la ?_
  | refine wn fun K hK => ?_
  | simp only [wS, oAborts_0]
  | refine wl Tryz.mx oAborts_0 (by decide +kernel) fun K hK => ?_
  | (refine bD (w1) ?_; rintro _ _ ⟨rfl, rfl⟩ _ _)
  | (refine bD (w4) ?_; rintro _ _ ⟨rfl, rfl⟩ _ _)
  | refine wb ?_ | refine wr ?_ | refine wk ?_ | refine we ?_ | refine ws ?_ | refine wq ?_
  | (refine wc rfl (fun hc => ?_) (fun hc => ?_) <;> (try simp at hc) <;> (try omega) <;> (try (simp [h2] at hc; done)) <;> (try (simp [h3] at hc; done)) <;> (try (simp [h4] at hc; done)))
  | (refine ib (fun hc => ?_) (fun hc => ?_) <;> (try omega) <;> (try simp (disch := omega) only [if_pos, if_neg])))
  apply image_use hS (cU := hM.Rl Co (by decide)) (h2 := by rw [hM.l2]; decide) (h3 := by rw [hM.l3]; decide) (h4 := by rw [hM.l4]; decide)
  case hp =>
    (· repeat' (first | apply aX.z | apply aX.s | apply ay.z | apply ay.ly | apply ay.qC | apply ay.s))
  clear hw hq hS qg w1 w4
  have hl5 := hM.l5
  rw [q0, q1, q2, qt, hk2]
  generalize (M 4).getD 0 0 = k5
  generalize M 5 = S5 at *
  generalize (M 6).length = m6
  generalize (M 7).length = m7
  intro p0 d0 p1 d1 p5 d5 p6 d6 p7 d7 A5 hS hw
  subst himg
  have oE : 0 < S5.length := by omega
  have US : S5[0] = 0 := by rw [List.getD_eq_getElem?_getD, List.getElem?_eq_getElem oE] at vP; exact vP
  have i0 := an.gM hS (.s (.s (.s (.s (.s (.s (.s (.s (.s .z)))))))))
  have i1 := an.gM hS (.s (.s (.s (.s (.s (.s (.s (.s (.s (.s .z))))))))))
  have j0 := an.gM hS .z
  have j1 := an.gM hS (.s .z)
  obtain ⟨p, dh, own, rfl, eH, dg⟩ := (an.gM hS (.s (.s .z))).Ku oE
  rw [US, Nat.add_zero] at dg
  have Nj := hw.dH eH
  have hq := hS.eA hw
  dsimp only [List.cons_append, List.nil_append, bp, bY, cS, eN, eb, fw, oK] at hq
  have No : (0 : Int) < (S5.length : Int) := by omega
  repeat' (first
  | (refine il fun R hR => ?_; simp [ak, au, g6, DR, hq, eH, Nj, dg, No, AW.aa, af]; try simp (disch := omega) only [if_pos, if_neg, ak, au])
  | (refine hR _ _ ?_; clear hR R) | (refine hK _ _ ?_; clear hK K) | refine Vt ?_ | refine lr ?_ | refine la ?_
  | refine wn fun K hK => ?_
  | simp only [wS, oAborts_0]
  | refine wl Tryz.mx oAborts_0 (by decide +kernel) fun K hK => ?_
  | (refine bD (nX _ _ D D _ (cF.le (AW.le.Ii _ _ _) hw i0) (cF.le (AW.le.Ii _ _ _) hw j0) (by omega)) ?_; rintro _ _ ⟨rfl, rfl⟩ _ _)
  | (refine bD (nX _ _ O O _ (cF.le (AW.le.Ii _ _ _) hw i1) (cF.le (AW.le.Ii _ _ _) hw j1) (by omega)) ?_; rintro _ _ ⟨rfl, rfl⟩ _ _)
  | refine wb ?_ | refine wr ?_ | refine wk ?_ | refine we ?_ | refine ws ?_ | refine wq ?_
  | (refine wc rfl (fun hc => ?_) (fun hc => ?_) <;> (try simp at hc) <;> (try omega) <;> (try (simp [h2] at hc; done)) <;> (try (simp [h3] at hc; done)) <;> (try (simp [h4] at hc; done)))
  | (refine ib (fun hc => ?_) (fun hc => ?_) <;> (try omega) <;> (try simp (disch := omega) only [if_pos, if_neg])))
  refine bD (vj _) ?_
  rintro _ A6 rfl w5 _
  repeat' (first
  | (refine il fun R hR => ?_; simp [ak, au, AW.aa]; try simp (disch := omega) only [if_pos, if_neg, ak, au])
  | (refine hR _ _ ?_; clear hR R) | (refine hK _ _ ?_; clear hK K) | refine Vt ?_ | refine lr ?_ | refine la ?_
  | refine wn fun K hK => ?_
  | simp only [wS, oAborts_0]
  | refine wl Tryz.mx oAborts_0 (by decide +kernel) fun K hK => ?_
  | refine wb ?_ | refine wr ?_ | refine wk ?_ | refine we ?_ | refine ws ?_ | refine wq ?_
  | (refine wc rfl (fun hc => ?_) (fun hc => ?_) <;> (try simp at hc) <;> (try omega) <;> (try (simp [h2] at hc; done)) <;> (try (simp [h3] at hc; done)) <;> (try (simp [h4] at hc; done)))
  | (refine ib (fun hc => ?_) (fun hc => ?_) <;> (try omega) <;> (try simp (disch := omega) only [if_pos, if_neg])))
  simp

end Go.Stx
