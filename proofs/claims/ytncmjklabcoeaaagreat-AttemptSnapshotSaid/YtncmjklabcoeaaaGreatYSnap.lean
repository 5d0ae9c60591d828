/-
  The statement on shared reads.
-/
import Derived.Test.YtncmjklabcoeaaaGreatY02
import Derived.Test.YtncmjklabcoeaaaGreatYSnapP
namespace Go.Stx
open Go Go.Proofs
def oSnap_0 : List (Nat × Nat) := [(0, 0), (1, 0), (2, 0), (3, 0), (4, 0), (5, 0), (6, 3)]
def oSnap_1 : List (Nat × Nat) := [(0, 0), (1, 0), (2, 0), (3, 0), (4, 2), (5, 0), (6, 0), (7, 0), (8, 0), (9, 0), (10, 0), (11, 0), (12, 0), (13, 0), (14, 0), (15, 0), (16, 0), (17, 2), (18, 0), (19, 0), (20, 0), (21, 0), (22, 0), (23, 0), (24, 0), (25, 0), (26, 0), (27, 0), (28, 0), (29, 0), (30, 0), (31, 0), (32, 0), (33, 0), (34, 0), (35, 0), (37, 0), (38, 0), (39, 0), (40, 0), (41, 0), (42, 0), (36, 2), (43, 0), (44, 0), (45, 0)]
attribute [local irreducible] TW hN fj cm aH bB dK ei
set_option linter.unusedVariables false
set_option linter.unusedSimpArgs false



def PHa : PlS → HP | none => fa | some x => bI x.1 x.2.2
def fTh (f : Nat → PlS) : Ths := fun t => (f t).map fun x => x.2.2
def tRow3 (t : Nat) (v o0 o1 : Value) : List Value := match t with
  | 0 => [v, o0, o1]
  | 1 => [o0, v, o1]
  | _ => [o0, o1, v]
def restS (c : bG) (pb mb n5 n6 n8 n9 Ki : Nat) (M : Mm) (rx rs rr : List Value) (O : HP) (h0 : Hp) : List It :=
  [eb pb M, .at n8 (.cells rx true 1), .at n9 (.cells rs true 1), .at Ki (.cells rr true 1), .at n5 (oK c), .at n6 (.cells [pv pb, pv mb] true 1), .h O, .h (LJ h0)]
def snH (f : Nat → PlS) (vs : Nat → Value) (sn : Nat → List Int) (t : Nat) : HP := PHa (f t) * ar .u64 (vs t) (sn t)
def snL (c : bG) (pb mb n5 n6 n8 n9 Ki : Nat) (f : Nat → PlS) (vs : Nat → Value) (sn : Nat → List Int) (rd : Nat → Int) (M : Mm) (h0 : Hp) : List It :=
  restS c pb mb n5 n6 n8 n9 Ki M [plA (f 0), plR (f 0), plA (f 1), plR (f 1), plA (f 2), plR (f 2)] [vs 0, vs 1, vs 2] [.int .i64 (rd 0), .int .i64 (rd 1), .int .i64 (rd 2)] (snH f vs sn 0 * (snH f vs sn 1 * snH f vs sn 2)) h0
theorem snL_split {A : AW} {c : bG} {pb mb n5 n6 n8 n9 Ki : Nat} {f : Nat → PlS} {vs : Nat → Value} {sn : Nat → List Int} {rd : Nat → Int} {M : Mm} {h0 : Hp} {t : Nat} (ht : t < 3) (hS : an A (snL c pb mb n5 n6 n8 n9 Ki f vs sn rd M h0)) :
    ∃ o0 o1 o2 o3 p0 p1 q0 q1 O, an A (.h (PHa (f t)) :: .h (ar .u64 (vs t) (sn t)) :: restS c pb mb n5 n6 n8 n9 Ki M (tRow t (plA (f t)) (plR (f t)) o0 o1 o2 o3) (tRow3 t (vs t) p0 p1) (tRow3 t (.int .i64 (rd t)) q0 q1) O h0) ∧
      ∀ (a r : Nat) (s : aD) (v : Value) (l : List Int) (d : Int) (M' : Mm) (A' : AW), an A' (.h (bI a s) :: .h (ar .u64 v l) :: restS c pb mb n5 n6 n8 n9 Ki M' (tRow t (pv a) (pv r) o0 o1 o2 o3) (tRow3 t v p0 p1) (tRow3 t (.int .i64 d) q0 q1) O h0) →
        an A' (snL c pb mb n5 n6 n8 n9 Ki (updP f t (some (a, r, s))) (upS vs t v) (upS sn t l) (upS rd t d) M' h0) := by
  have : t = 0 ∨ t = 1 ∨ t = 2 := by omega
  rcases this with rfl | rfl | rfl
  · exact ⟨_, _, _, _, _, _, _, _, snH f vs sn 1 * snH f vs sn 2, bK.dp hS (by show _ = PHa (f 0) * _; simp only [snL, restS, snH, bn, It.hp, tRow, tRow3]; ac_rfl), fun a r s v l d M' A' h => bK.dp h (by show _ = bn (restS c pb mb n5 n6 n8 n9 Ki M' _ _ _ ((bI a s * ar .u64 v l) * (snH f vs sn 1 * snH f vs sn 2)) h0); simp only [restS, bn, It.hp, tRow, tRow3]; ac_rfl)⟩
  · exact ⟨_, _, _, _, _, _, _, _, snH f vs sn 0 * snH f vs sn 2, bK.dp hS (by show _ = PHa (f 1) * _; simp only [snL, restS, snH, bn, It.hp, tRow, tRow3]; ac_rfl), fun a r s v l d M' A' h => bK.dp h (by show _ = bn (restS c pb mb n5 n6 n8 n9 Ki M' _ _ _ (snH f vs sn 0 * ((bI a s * ar .u64 v l) * snH f vs sn 2)) h0); simp only [restS, bn, It.hp, tRow, tRow3]; ac_rfl)⟩
  · exact ⟨_, _, _, _, _, _, _, _, snH f vs sn 0 * snH f vs sn 1, bK.dp hS (by show _ = PHa (f 2) * _; simp only [snL, restS, snH, bn, It.hp, tRow, tRow3]; ac_rfl), fun a r s v l d M' A' h => bK.dp h (by show _ = bn (restS c pb mb n5 n6 n8 n9 Ki M' _ _ _ (snH f vs sn 0 * (snH f vs sn 1 * (bI a s * ar .u64 v l))) h0); simp only [restS, bn, It.hp, tRow, tRow3]; ac_rfl)⟩
theorem snL_init {A : AW} {c : bG} {pb mb n5 n6 n8 n9 Ki : Nat} {M : Mm} {h0 : Hp} (h : an A [.at Ki (.cells [.int .i64 0, .int .i64 0, .int .i64 0] true 1), .at n9 (.cells [.slice none 0 0, .slice none 0 0, .slice none 0 0] true 1), .at n8 (.cells [.pointer none, .pointer none, .pointer none, .pointer none, .pointer none, .pointer none] true 1), .at n6 (.cells [pv pb, pv mb] true 1), eb pb M, .at n5 (oK c), .h (LJ h0)]) :
    an A (snL c pb mb n5 n6 n8 n9 Ki (fun _ => none) (fun _ => .slice none 0 0) (fun _ => []) (fun _ => 0) M h0) := by
  have h1 : bK A (ar .u64 (.slice none 0 0) [] * (ar .u64 (.slice none 0 0) [] * (ar .u64 (.slice none 0 0) [] * _))) := ar.nil (ar.nil (ar.nil h))
  refine bK.dp h1 ?_
  simp only [snL, restS, snH, plA, plR, PHa, bn, It.hp, iS]
  ac_rfl
theorem restS_keeps {A A' : AW} {c : bG} {pb mb n5 n6 n8 n9 Ki : Nat} {M : Mm} {rx rs rr : List Value} {O : HP} (h : an A' (restS c pb mb n5 n6 n8 n9 Ki M rx rs rr O A.cy)) : oP A A' := h.keeps 7 rfl
theorem fTh_upd (f : Nat → PlS) (t a r : Nat) (s : aD) : fTh (updP f t (some (a, r, s))) = upT (fTh f) t s := by
  funext u
  unfold fTh updP upT
  split <;> rfl
theorem upT_upT (f : Ths) (t : Nat) (s s' : aD) : upT (upT f t s) t s' = upT f t s' := by
  funext u
  unfold upT
  split <;> rfl
theorem upS_id {α : Type} (g : Nat → α) (t : Nat) : upS g t (g t) = g := by
  funext u
  unfold upS
  split
  · rename_i e; rw [e]
  · rfl

set_option maxRecDepth 100000 in
set_option maxHeartbeats 8000000 in
theorem snapshot_call (l0 l1 l2 l3 l4 : Int) (vs : Value) (qs : List nc) (A : AW) (hs : qZ A vs qs) :
    aH Tryz.prog 5 [.agg #[.int .i64 l0, .int .i64 l1, .int .i64 l2, .int .i64 l3, .int .i64 l4], vs] A (fun v A' => v = .bool true) := by
  refine ab Tryz.func5 rfl (by kernel_rfl) fun hw => ?_
  obtain ⟨o, cp, rfl, _⟩ := hs.cL
  by_cases h150 : 150 < qs.length
  · have h150i : (150 : Int) < qs.length := by omega
    repeat' (first
    | (refine il fun R hR => ?_; simp [ak, au, h150, h150i, AW.aa]; try simp (disch := omega) only [if_pos, if_neg, ak, au])
    | (refine hR _ _ ?_; clear hR R) | (refine hK _ _ ?_; clear hK K) | refine Vt ?_ | refine lr ?_ | refine la ?_
    | (refine EZ fun R hR => ?_; simp [ak, au, h150, h150i, AW.aa]; try simp (disch := omega) only [if_pos, if_neg, ak, au])
    | (refine EF (fun R hR => ?_) (fun R hR => ?_) <;> (simp [ak, au, h150, h150i, AW.aa]; try simp (disch := omega) only [if_pos, if_neg, ak, au]))
    | refine EY ?_
    | refine wn fun K hK => ?_
    | simp only [wS, oSnap_0, oSnap_1]
    | simp only [hN, nC, jt, Option.map_none, Option.map_some, List.getElem?_toArray, List.getElem?_cons_zero, List.getElem?_cons_succ, List.getD_cons_zero, List.getD_cons_succ, Option.bind_some]
    | refine wl Tryz.mx oSnap_0 (by decide +kernel) fun K hK => ?_
    | refine wl Tryz.mx oSnap_1 (by decide +kernel) fun K hK => ?_
    | refine wt (fun _ => True) Tryz.mx [0, 0, 0, 0, 0, 0, 3, 0, 0, 0, 2, 3, 0] (.bu 0 (.bu 1 (.bu 2 (.bu 3 (.bu 4 (.bu 5 (.sC 6 (.bu 7 (.bu 8 (.bu 9 (.bu 10 (.bu 11 (.bu 12 .nil)))))) 10 (.bu 6 (.bu 7 (.bu 8 (.bu 9 (.bu 11 (.bu 12 .nil))))))))))))) (by decide +kernel) fun K hK => ?_
    | refine wb ?_ | refine wr ?_ | refine wk ?_ | refine we ?_ | refine ws ?_ | refine wq ?_
    | (refine wc rfl (fun hc => ?_) (fun hc => ?_) <;> (try simp at hc) <;> (try omega) <;> (try (simp [h2] at hc; done)) <;> (try (simp [h3] at hc; done)) <;> (try (simp [h4] at hc; done)))
    | (refine ib (fun hc => ?_) (fun hc => ?_) <;> (try omega) <;> (try simp (disch := omega) only [if_pos, if_neg])))
    refine bD (vj _) ?_
    rintro _ A1 rfl w1 _
    repeat' (first
    | (refine il fun R hR => ?_; simp [ak, au, h150]; try simp (disch := omega) only [if_pos, if_neg, ak, au])
    | (refine hR _ _ ?_; clear hR R) | (refine hK _ _ ?_; clear hK K) | refine Vt ?_ | refine lr ?_ | refine la ?_
    | (refine EZ fun R hR => ?_; simp [ak, au, h150]; try simp (disch := omega) only [if_pos, if_neg, ak, au])
    | (refine EF (fun R hR => ?_) (fun R hR => ?_) <;> (simp [ak, au, h150]; try simp (disch := omega) only [if_pos, if_neg, ak, au]))
    | refine EY ?_
    | refine wn fun K hK => ?_
    | simp only [wS, oSnap_0, oSnap_1]
    | simp only [hN, nC, jt, Option.map_none, Option.map_some, List.getElem?_toArray, List.getElem?_cons_zero, List.getElem?_cons_succ, List.getD_cons_zero, List.getD_cons_succ, Option.bind_some]
    | refine wl Tryz.mx oSnap_0 (by decide +kernel) fun K hK => ?_
    | refine wl Tryz.mx oSnap_1 (by decide +kernel) fun K hK => ?_
    | refine wt (fun _ => True) Tryz.mx [0, 0, 0, 0, 0, 0, 3, 0, 0, 0, 2, 3, 0] (.bu 0 (.bu 1 (.bu 2 (.bu 3 (.bu 4 (.bu 5 (.sC 6 (.bu 7 (.bu 8 (.bu 9 (.bu 10 (.bu 11 (.bu 12 .nil)))))) 10 (.bu 6 (.bu 7 (.bu 8 (.bu 9 (.bu 11 (.bu 12 .nil))))))))))))) (by decide +kernel) fun K hK => ?_
    | refine wb ?_ | refine wr ?_ | refine wk ?_ | refine we ?_ | refine ws ?_ | refine wq ?_
    | (refine wc rfl (fun hc => ?_) (fun hc => ?_) <;> (try simp at hc) <;> (try omega) <;> (try (simp [h2] at hc; done)) <;> (try (simp [h3] at hc; done)) <;> (try (simp [h4] at hc; done)))
    | (refine ib (fun hc => ?_) (fun hc => ?_) <;> (try omega) <;> (try simp (disch := omega) only [if_pos, if_neg])))
    simp
  have h150i : ¬ (150 : Int) < qs.length := by omega
  obtain ⟨c, VR, PZ⟩ := Gs l0 l1 l2 l3 l4
  have Co := VR.ok
  have RS := VR.YA
  have dn := fun (A : AW) F hw hS => yl c RS 3 (by decide) (by decide) A F hw hS
  have e3 : ((3 : Nat) : Int) = 3 := rfl
  rw [e3] at dn
  dsimp only [bG.v] at dn PZ
  have hS : an A [.h (LJ A.cy)] := by
    show bK A (LJ A.cy * fa)
    rw [dx]
    exact ⟨A.cy, rfl, fun i o h => h⟩
  repeat' (first
  | (refine il fun R hR => ?_; simp [ak, au, h150, h150i, AW.aa, af]; try simp (disch := omega) only [if_pos, if_neg, ak, au])
  | (refine hR _ _ ?_; clear hR R) | (refine hK _ _ ?_; clear hK K) | refine Vt ?_ | refine lr ?_ | refine la ?_
  | (refine EZ fun R hR => ?_; simp [ak, au, h150, h150i, AW.aa, af]; try simp (disch := omega) only [if_pos, if_neg, ak, au])
  | (refine EF (fun R hR => ?_) (fun R hR => ?_) <;> (simp [ak, au, h150, h150i, AW.aa, af]; try simp (disch := omega) only [if_pos, if_neg, ak, au]))
  | refine EY ?_
  | refine wn fun K hK => ?_
  | simp only [wS, oSnap_0, oSnap_1]
  | simp only [hN, nC, jt, Option.map_none, Option.map_some, List.getElem?_toArray, List.getElem?_cons_zero, List.getElem?_cons_succ, List.getD_cons_zero, List.getD_cons_succ, Option.bind_some]
  | refine wl Tryz.mx oSnap_0 (by decide +kernel) fun K hK => ?_
  | refine wl Tryz.mx oSnap_1 (by decide +kernel) fun K hK => ?_
  | refine wt (fun _ => True) Tryz.mx [0, 0, 0, 0, 0, 0, 3, 0, 0, 0, 2, 3, 0] (.bu 0 (.bu 1 (.bu 2 (.bu 3 (.bu 4 (.bu 5 (.sC 6 (.bu 7 (.bu 8 (.bu 9 (.bu 10 (.bu 11 (.bu 12 .nil)))))) 10 (.bu 6 (.bu 7 (.bu 8 (.bu 9 (.bu 11 (.bu 12 .nil))))))))))))) (by decide +kernel) fun K hK => ?_
  | (refine bD (PZ _) ?_; rintro _ _ ⟨rfl, rfl⟩ _ _)
  | refine wb ?_ | refine wr ?_ | refine wk ?_ | refine we ?_ | refine ws ?_ | refine wq ?_
  | (refine wc rfl (fun hc => ?_) (fun hc => ?_) <;> (try simp at hc) <;> (try omega) <;> (try (simp [h2] at hc; done)) <;> (try (simp [h3] at hc; done)) <;> (try (simp [h4] at hc; done)))
  | (refine ib (fun hc => ?_) (fun hc => ?_) <;> (try omega) <;> (try simp (disch := omega) only [if_pos, if_neg])))
  have mg := an.jd (o' := oK c) (an.jn (o := .cells [.int .i64 0, .int .i64 0, .int .i64 0, .int .i64 0, .int .i64 0, .int .i64 0, .int .i64 0, .int .i64 0, .int .i64 0, .int .i64 0, .int .i64 0, .int .i64 0, .bool false] true 1) (an.jn (o := .cells [.int .i64 l0, .int .i64 l1, .int .i64 l2, .int .i64 l3, .int .i64 l4] true 1) hS hw) (hw.alloc _)) .z
  simp only [AW.aZ] at mg
  dsimp only [oK] at mg
  have gJ := ((hw.alloc (.cells [.int .i64 l0, .int .i64 l1, .int .i64 l2, .int .i64 l3, .int .i64 l4] true 1)).alloc (.cells [.int .i64 0, .int .i64 0, .int .i64 0, .int .i64 0, .int .i64 0, .int .i64 0, .int .i64 0, .int .i64 0, .int .i64 0, .int .i64 0, .int .i64 0, .int .i64 0, .bool false] true 1)).set (i := A.next + 1) (some (oK c)) (by simp)
  dsimp only [oK] at gJ
  refine Ji (fun F h => dn _ F gJ h) mg ?_
  intro pb mb A1 lp it
  obtain ⟨n5, hn5⟩ : ∃ n5, n5 = A.next + 1 := ⟨_, rfl⟩
  rw [← hn5] at lp ⊢
  clear mg gJ dn PZ
  have hq := lp.eA it
  dsimp only [List.cons_append, List.nil_append, bp, bY, cS, eN, eb, fw] at hq
  repeat' (first
  | (refine il fun R hR => ?_; simp [ak, au, hq, AW.aa, af]; try simp (disch := omega) only [if_pos, if_neg, ak, au])
  | (refine hR _ _ ?_; clear hR R) | (refine hK _ _ ?_; clear hK K) | refine Vt ?_ | refine lr ?_ | refine la ?_
  | (refine EZ fun R hR => ?_; simp [ak, au, hq, AW.aa, af]; try simp (disch := omega) only [if_pos, if_neg, ak, au])
  | (refine EF (fun R hR => ?_) (fun R hR => ?_) <;> (simp [ak, au, hq, AW.aa, af]; try simp (disch := omega) only [if_pos, if_neg, ak, au]))
  | refine EY ?_
  | refine wn fun K hK => ?_
  | simp only [wS, oSnap_0, oSnap_1]
  | simp only [hN, nC, jt, Option.map_none, Option.map_some, List.getElem?_toArray, List.getElem?_cons_zero, List.getElem?_cons_succ, List.getD_cons_zero, List.getD_cons_succ, Option.bind_some]
  | refine wl Tryz.mx oSnap_0 (by decide +kernel) fun K hK => ?_
  | refine wl Tryz.mx oSnap_1 (by decide +kernel) fun K hK => ?_
  | refine wt (fun _ => True) Tryz.mx [0, 0, 0, 0, 0, 0, 3, 0, 0, 0, 2, 3, 0] (.bu 0 (.bu 1 (.bu 2 (.bu 3 (.bu 4 (.bu 5 (.sC 6 (.bu 7 (.bu 8 (.bu 9 (.bu 10 (.bu 11 (.bu 12 .nil)))))) 10 (.bu 6 (.bu 7 (.bu 8 (.bu 9 (.bu 11 (.bu 12 .nil))))))))))))) (by decide +kernel) fun K hK => ?_
  | refine wb ?_ | refine wr ?_ | refine wk ?_ | refine we ?_ | refine ws ?_ | refine wq ?_
  | (refine wc rfl (fun hc => ?_) (fun hc => ?_) <;> (try simp at hc) <;> (try omega) <;> (try (simp [h2] at hc; done)) <;> (try (simp [h3] at hc; done)) <;> (try (simp [h4] at hc; done)))
  | (refine ib (fun hc => ?_) (fun hc => ?_) <;> (try omega) <;> (try simp (disch := omega) only [if_pos, if_neg])))
  obtain ⟨n6, hn6⟩ : ∃ n6, n6 = A1.next := ⟨_, rfl⟩
  obtain ⟨n8, XS⟩ : ∃ n8, n8 = A1.next + 1 := ⟨_, rfl⟩
  obtain ⟨n9, RG⟩ : ∃ n9, n9 = A1.next + 1 + 1 := ⟨_, rfl⟩
  obtain ⟨Ki, Ny⟩ : ∃ Ki, Ki = A1.next + 1 + 1 + 1 := ⟨_, rfl⟩
  have ru := an.jd (o' := .cells [pv pb, pv mb] true 1) (an.jn (o := .cells [.pointer none, .pointer none] true 1) lp it) .z
  have qr := (it.alloc (.cells [.pointer none, .pointer none] true 1)).set (i := A1.next) (some (.cells [pv pb, pv mb] true 1)) (by simp)
  have rl := an.jn (o := .cells [.pointer none, .pointer none, .pointer none, .pointer none, .pointer none, .pointer none] true 1) ru qr
  have IJ := qr.alloc (.cells [.pointer none, .pointer none, .pointer none, .pointer none, .pointer none, .pointer none] true 1)
  have ta := an.jn (o := .cells [.slice none 0 0, .slice none 0 0, .slice none 0 0] true 1) rl IJ
  have s7 := IJ.alloc (.cells [.slice none 0 0, .slice none 0 0, .slice none 0 0] true 1)
  have pQ := an.jn (o := .cells [.int .i64 0, .int .i64 0, .int .i64 0] true 1) ta s7
  have Po := s7.alloc (.cells [.int .i64 0, .int .i64 0, .int .i64 0] true 1)
  simp only [AW.aZ, AW.dq] at pQ
  rw [← Ny, ← RG, ← XS, ← hn6] at pQ
  rw [← hn6] at Po
  rw [← Ny, ← RG, ← XS, ← hn6]
  have EP := snL_init (an.toL [.at Ki (.cells [.int .i64 0, .int .i64 0, .int .i64 0] true 1), .at n9 (.cells [.slice none 0 0, .slice none 0 0, .slice none 0 0] true 1), .at n8 (.cells [.pointer none, .pointer none, .pointer none, .pointer none, .pointer none, .pointer none] true 1), .at n6 (.cells [pv pb, pv mb] true 1), eb pb (km c 3 (hZ c)), .at n5 (oK c), .h (LJ A.cy)] pQ pP)
  refine ed (fun k fr A' => ∃ (i m : Nat) (f : Nat → PlS) (vs : Nat → Value) (sn : Nat → List Int) (rd : Nat → Int) (M : Mm), k = qs.length - i ∧ i ≤ qs.length ∧ m ≤ 2 * i ∧ fr 1 = .slice o qs.length cp ∧ fr 5 = pv n5 ∧ fr 6 = pv n6 ∧ fr 8 = pv n8 ∧ fr 9 = pv n9 ∧ fr 10 = pv Ki ∧ fr 11 = .int .i64 i ∧
    A'.Wf ∧ SnI c m (fTh f) sn rd M ∧ an A' (snL c pb mb n5 n6 n8 n9 Ki f vs sn rd M A.cy)) qs.length ?_ ?_
  · refine ⟨0, 0, fun _ => none, fun _ => .slice none 0 0, fun _ => [], fun _ => 0, km c 3 (hZ c), by simp, by simp, by simp, by simp, by simp, by simp [hn6], by simp [XS], by simp [RG], by simp [Ny], by simp, Po, SnI.start RS, EP⟩
  clear EP pQ Po ta s7 rl IJ ru qr lp it hq hS hw
  rintro k fr A3 ⟨i, m, f, vs, sn, rd, M, rfl, hi, hm, g1, g5, g6, g8, g9, DR, g11, hw, hI, hS⟩
  by_cases dQ : i < qs.length
  case neg =>
    have ey : ¬ (i : Int) < qs.length := by omega
    repeat' (first
    | (refine il fun R hR => ?_; simp [ak, au, g1, g5, g6, g8, g9, DR, g11, ey]; try simp (disch := omega) only [if_pos, if_neg, ak, au])
    | (refine hR _ _ ?_; clear hR R) | (refine hK _ _ ?_; clear hK K) | refine Vt ?_ | refine lr ?_ | refine la ?_
    | (refine EZ fun R hR => ?_; simp [ak, au, g1, g5, g6, g8, g9, DR, g11, ey]; try simp (disch := omega) only [if_pos, if_neg, ak, au])
    | (refine EF (fun R hR => ?_) (fun R hR => ?_) <;> (simp [ak, au, g1, g5, g6, g8, g9, DR, g11, ey]; try simp (disch := omega) only [if_pos, if_neg, ak, au]))
    | refine EY ?_
    | refine wn fun K hK => ?_
    | simp only [wS, oSnap_0, oSnap_1]
    | simp only [hN, nC, jt, Option.map_none, Option.map_some, List.getElem?_toArray, List.getElem?_cons_zero, List.getElem?_cons_succ, List.getD_cons_zero, List.getD_cons_succ, Option.bind_some]
    | refine wl Tryz.mx oSnap_0 (by decide +kernel) fun K hK => ?_
    | refine wl Tryz.mx oSnap_1 (by decide +kernel) fun K hK => ?_
    | refine wt (fun _ => True) Tryz.mx [0, 0, 0, 0, 0, 0, 3, 0, 0, 0, 2, 3, 0] (.bu 0 (.bu 1 (.bu 2 (.bu 3 (.bu 4 (.bu 5 (.sC 6 (.bu 7 (.bu 8 (.bu 9 (.bu 10 (.bu 11 (.bu 12 .nil)))))) 10 (.bu 6 (.bu 7 (.bu 8 (.bu 9 (.bu 11 (.bu 12 .nil))))))))))))) (by decide +kernel) fun K hK => ?_
    | refine wb ?_ | refine wr ?_ | refine wk ?_ | refine we ?_ | refine ws ?_ | refine wq ?_
    | (refine wc rfl (fun hc => ?_) (fun hc => ?_) <;> (try simp at hc) <;> (try omega) <;> (try (simp [h2] at hc; done)) <;> (try (simp [h3] at hc; done)) <;> (try (simp [h4] at hc; done)))
    | (refine ib (fun hc => ?_) (fun hc => ?_) <;> (try omega) <;> (try simp (disch := omega) only [if_pos, if_neg])))
    refine bD (vj _) ?_
    rintro _ A4 rfl w1 _
    repeat' (first
    | (refine il fun R hR => ?_; simp [ak, au, AW.aa]; try simp (disch := omega) only [if_pos, if_neg, ak, au])
    | (refine hR _ _ ?_; clear hR R) | (refine hK _ _ ?_; clear hK K) | refine Vt ?_ | refine lr ?_ | refine la ?_
    | (refine EZ fun R hR => ?_; simp [ak, au, AW.aa]; try simp (disch := omega) only [if_pos, if_neg, ak, au])
    | (refine EF (fun R hR => ?_) (fun R hR => ?_) <;> (simp [ak, au, AW.aa]; try simp (disch := omega) only [if_pos, if_neg, ak, au]))
    | refine EY ?_
    | refine wn fun K hK => ?_
    | simp only [wS, oSnap_0, oSnap_1]
    | simp only [hN, nC, jt, Option.map_none, Option.map_some, List.getElem?_toArray, List.getElem?_cons_zero, List.getElem?_cons_succ, List.getD_cons_zero, List.getD_cons_succ, Option.bind_some]
    | refine wl Tryz.mx oSnap_0 (by decide +kernel) fun K hK => ?_
    | refine wl Tryz.mx oSnap_1 (by decide +kernel) fun K hK => ?_
    | refine wt (fun _ => True) Tryz.mx [0, 0, 0, 0, 0, 0, 3, 0, 0, 0, 2, 3, 0] (.bu 0 (.bu 1 (.bu 2 (.bu 3 (.bu 4 (.bu 5 (.sC 6 (.bu 7 (.bu 8 (.bu 9 (.bu 10 (.bu 11 (.bu 12 .nil)))))) 10 (.bu 6 (.bu 7 (.bu 8 (.bu 9 (.bu 11 (.bu 12 .nil))))))))))))) (by decide +kernel) fun K hK => ?_
    | refine wb ?_ | refine wr ?_ | refine wk ?_ | refine we ?_ | refine ws ?_ | refine wq ?_
    | (refine wc rfl (fun hc => ?_) (fun hc => ?_) <;> (try simp at hc) <;> (try omega) <;> (try (simp [h2] at hc; done)) <;> (try (simp [h3] at hc; done)) <;> (try (simp [h4] at hc; done)))
    | (refine ib (fun hc => ?_) (fun hc => ?_) <;> (try omega) <;> (try simp (disch := omega) only [if_pos, if_neg])))
    simp
  have ey : (i : Int) < qs.length := by omega
  have hkp := restS_keeps hS
  obtain ⟨p, dh, own, rfl, eH, dg⟩ := (hs.keeps hkp).at dQ
  obtain ⟨q, Lv⟩ : ∃ q, q = qs[i] := ⟨_, rfl⟩
  rw [← Lv] at dg
  have P2 : dh[p.off + i * 4]? = some (.int .i64 q.ag) := dg 0 (by omega)
  have hq := hS.mZ
  dsimp only [snL, restS, eb, fw, bp, oK] at hq
  repeat' (first
  | (refine il fun R hR => ?_; simp [ak, au, g1, g5, g6, g8, g9, DR, g11, ey, hq, eH, P2, AW.aa]; try simp (disch := omega) only [if_pos, if_neg, ak, au])
  | (refine hR _ _ ?_; clear hR R) | (refine hK _ _ ?_; clear hK K) | refine Vt ?_ | refine lr ?_ | refine la ?_
  | (refine EZ fun R hR => ?_; simp [ak, au, g1, g5, g6, g8, g9, DR, g11, ey, hq, eH, P2, AW.aa]; try simp (disch := omega) only [if_pos, if_neg, ak, au])
  | (refine EF (fun R hR => ?_) (fun R hR => ?_) <;> (simp [ak, au, g1, g5, g6, g8, g9, DR, g11, ey, hq, eH, P2, AW.aa]; try simp (disch := omega) only [if_pos, if_neg, ak, au]))
  | refine EY ?_
  | refine wn fun K hK => ?_
  | simp only [wS, oSnap_0, oSnap_1]
  | simp only [hN, nC, jt, Option.map_none, Option.map_some, List.getElem?_toArray, List.getElem?_cons_zero, List.getElem?_cons_succ, List.getD_cons_zero, List.getD_cons_succ, Option.bind_some]
  | refine wl Tryz.mx oSnap_0 (by decide +kernel) fun K hK => ?_
  | refine wl Tryz.mx oSnap_1 (by decide +kernel) fun K hK => ?_
  | refine wt (fun _ => True) Tryz.mx [0, 0, 0, 0, 0, 0, 3, 0, 0, 0, 2, 3, 0] (.bu 0 (.bu 1 (.bu 2 (.bu 3 (.bu 4 (.bu 5 (.sC 6 (.bu 7 (.bu 8 (.bu 9 (.bu 10 (.bu 11 (.bu 12 .nil)))))) 10 (.bu 6 (.bu 7 (.bu 8 (.bu 9 (.bu 11 (.bu 12 .nil))))))))))))) (by decide +kernel) fun K hK => ?_
  | refine wb ?_ | refine wr ?_ | refine wk ?_ | refine we ?_ | refine ws ?_ | refine wq ?_
  | (refine wc rfl (fun hc => ?_) (fun hc => ?_) <;> (try simp at hc) <;> (try omega) <;> (try (simp [h2] at hc; done)) <;> (try (simp [h3] at hc; done)) <;> (try (simp [h4] at hc; done)))
  | (refine ib (fun hc => ?_) (fun hc => ?_) <;> (try omega) <;> (try simp (disch := omega) only [if_pos, if_neg])))
  refine bD (eu _ 3 _ (by omega) (by omega)) ?_
  rintro _ _ ⟨rfl, rfl⟩ _ _
  have Az := eU q.ag 3 (by omega)
  obtain ⟨t, ht, ht3⟩ : ∃ t : Nat, eO q.ag 3 = t ∧ t < 3 := ⟨(eO q.ag 3).toNat, by omega, by omega⟩
  rw [ht]
  obtain ⟨o0, o1, o2, o3, p0, p1, q0, q1, O, mg, V7⟩ := snL_split ht3 hS
  refine hR _ _ ?_
  clear hR R
  repeat' (first
  | (refine il fun R hR => ?_; simp [ak, au, g1, g5, g6, g8, g9, DR, g11]; try simp (disch := omega) only [if_pos, if_neg, ak, au])
  | (refine hR _ _ ?_; clear hR R) | refine Vt ?_ | refine lr ?_ | refine la ?_
  | simp only [wS]
  | (refine ib (fun hc => ?_) (fun hc => ?_) <;> (try omega) <;> (try simp (disch := omega) only [if_pos, if_neg])))
  refine hK _ _ ?_
  clear hK K
  refine (?_ : fj _ _ _ _ _ _)
  refine wq ?_
  refine L4 (fun fr A' => ∃ (a r : Nat) (s : aD) (m' : Nat), m' ≤ m + 1 ∧ SnI c m' (upT (fTh f) t s) sn rd M ∧ fr 1 = .slice (some p) qs.length cp ∧ fr 5 = pv n5 ∧ fr 6 = pv n6 ∧ fr 8 = pv n8 ∧ fr 9 = pv n9 ∧ fr 10 = pv Ki ∧ fr 11 = .int .i64 i ∧ fr 12 = .int .i64 t ∧
    A'.Wf ∧ an A' (.h (bI a s) :: .h (ar .u64 (vs t) (sn t)) :: restS c pb mb n5 n6 n8 n9 Ki M (tRow t (pv a) (pv r) o0 o1 o2 o3) (tRow3 t (vs t) p0 p1) (tRow3 t (.int .i64 (rd t)) q0 q1) O A.cy)) ?_ ?_
  · clear V7 hq hS hkp
    have h3 : t = 0 ∨ t = 1 ∨ t = 2 := by omega
    obtain ⟨tt, VD⟩ : ∃ tt, tt = t := ⟨_, rfl⟩
    clear ht
    obtain ⟨d, hd⟩ : ∃ d, rd t = d := ⟨_, rfl⟩
    obtain ⟨vt, hvt⟩ : ∃ vt, vs t = vt := ⟨_, rfl⟩
    obtain ⟨snt, hsnt⟩ : ∃ snt, sn t = snt := ⟨_, rfl⟩
    rw [hd, hvt, hsnt] at mg
    rw [hd, hvt, hsnt]
    by_cases Nx : f t = none ∨ ∃ x, f t = some x ∧ x.2.2.av = 2
    · obtain ⟨v, w, hS, Mt⟩ : ∃ v w, an A3 (.h (ar .u64 vt snt) :: restS c pb mb n5 n6 n8 n9 Ki M (tRow t v w o0 o1 o2 o3) (tRow3 t vt p0 p1) (tRow3 t (.int .i64 d) q0 q1) O A.cy) ∧ (v = .pointer none ∧ True ∨ ∃ a0, v = pv a0 ∧ eF 24 [pv a0] A3 (.int .i64 2)) := by
        rcases Nx with hft | ⟨⟨a0, r0, s1⟩, hft, dn⟩
        · rw [hft] at mg
          exact ⟨_, _, an.tail mg, .inl ⟨rfl, trivial⟩⟩
        · rw [hft] at mg
          have w1 := yk a0 s1 _ _ A3 hw (bI.bu mg .z)
          rw [show s1.av = 2 from dn] at w1
          exact ⟨_, _, an.tail mg, .inr ⟨a0, rfl, w1⟩⟩
      have hadd := SnI.add Co hI ht3 (fun s hs => by
        unfold fTh at hs
        rcases Nx with hft | ⟨x, hft, dn⟩
        · rw [hft] at hs; cases hs
        · rw [hft] at hs
          have : x.2.2 = s := by injection hs
          rw [← this]; exact dn)
      clear mg
      rcases Mt with ⟨rfl, w1⟩ | ⟨a0, rfl, w1⟩ <;> rcases h3 with rfl | rfl | rfl
      all_goals
        dsimp only [tRow, tRow3, restS] at hS
        have hq := hS.eA hw
        dsimp only [List.cons_append, List.nil_append, bp, bY, cS, eN, restS, tRow, tRow3, eb, fw, oK] at hq
        repeat' (first
        | (refine il fun R hR => ?_; simp [ak, au, g1, g5, g6, g8, g9, DR, g11, hq, AW.aa, af]; try simp (disch := omega) only [if_pos, if_neg, ak, au])
        | (refine hR _ _ ?_; clear hR R) | (refine hK _ _ ?_; clear hK K) | refine Vt ?_ | refine lr ?_ | refine la ?_
        | (refine EZ fun R hR => ?_; simp [ak, au, g1, g5, g6, g8, g9, DR, g11, hq, AW.aa, af]; try simp (disch := omega) only [if_pos, if_neg, ak, au])
        | (refine EF (fun R hR => ?_) (fun R hR => ?_) <;> (simp [ak, au, g1, g5, g6, g8, g9, DR, g11, hq, AW.aa, af]; try simp (disch := omega) only [if_pos, if_neg, ak, au]))
        | refine EY ?_
        | refine wn fun K hK => ?_
        | simp only [wS, oSnap_0, oSnap_1]
        | simp only [hN, nC, jt, Option.map_none, Option.map_some, List.getElem?_toArray, List.getElem?_cons_zero, List.getElem?_cons_succ, List.getD_cons_zero, List.getD_cons_succ, Option.bind_some]
        | refine wl Tryz.mx oSnap_0 (by decide +kernel) fun K hK => ?_
        | refine wl Tryz.mx oSnap_1 (by decide +kernel) fun K hK => ?_
        | refine wt (fun _ => True) Tryz.mx [0, 0, 0, 0, 0, 0, 3, 0, 0, 0, 2, 3, 0] (.bu 0 (.bu 1 (.bu 2 (.bu 3 (.bu 4 (.bu 5 (.sC 6 (.bu 7 (.bu 8 (.bu 9 (.bu 10 (.bu 11 (.bu 12 .nil)))))) 10 (.bu 6 (.bu 7 (.bu 8 (.bu 9 (.bu 11 (.bu 12 .nil))))))))))))) (by decide +kernel) fun K hK => ?_
        | (refine bD (w1) ?_; rintro _ _ ⟨rfl, rfl⟩ _ _)
        | refine wb ?_ | refine wr ?_ | refine wk ?_ | refine we ?_ | refine ws ?_ | refine wq ?_
        | (refine wc rfl (fun hc => ?_) (fun hc => ?_) <;> (try simp at hc) <;> (try omega) <;> (try (simp [h2] at hc; done)) <;> (try (simp [h3] at hc; done)) <;> (try (simp [h4] at hc; done)))
        | (refine ib (fun hc => ?_) (fun hc => ?_) <;> (try omega) <;> (try simp (disch := omega) only [if_pos, if_neg])))
        refine bD (HW c Co _ _ _ hw hS) ?_
        clear hq
        rintro _ A4 ⟨⟨a, r⟩, rfl, ru⟩ qr _
        have hS := ru
        have hw := qr
        clear ru qr
        generalize F4 : iD c _ = s0 at hS hadd
        have V8 : (jG s0).1 = 0 := by rw [← F4]; rfl
        have P4 := Ae a s0
        rw [V8] at P4
        have hq := hS.eA hw
        dsimp only [List.cons_append, List.nil_append, bp, bY, cS, eN, restS, tRow, tRow3, eb, fw, oK] at hq
        repeat' (first
        | (refine il fun R hR => ?_; simp [ak, au, g1, g5, g6, g8, g9, DR, g11, hq, AW.aa, af]; try simp (disch := omega) only [if_pos, if_neg, ak, au])
        | (refine hR _ _ ?_; clear hR R) | (refine hK _ _ ?_; clear hK K) | refine Vt ?_ | refine lr ?_ | refine la ?_
        | (refine EZ fun R hR => ?_; simp [ak, au, g1, g5, g6, g8, g9, DR, g11, hq, AW.aa, af]; try simp (disch := omega) only [if_pos, if_neg, ak, au])
        | (refine EF (fun R hR => ?_) (fun R hR => ?_) <;> (simp [ak, au, g1, g5, g6, g8, g9, DR, g11, hq, AW.aa, af]; try simp (disch := omega) only [if_pos, if_neg, ak, au]))
        | refine EY ?_
        | refine wn fun K hK => ?_
        | simp only [wS, oSnap_0, oSnap_1]
        | simp only [hN, nC, jt, Option.map_none, Option.map_some, List.getElem?_toArray, List.getElem?_cons_zero, List.getElem?_cons_succ, List.getD_cons_zero, List.getD_cons_succ, Option.bind_some]
        | refine wl Tryz.mx oSnap_0 (by decide +kernel) fun K hK => ?_
        | refine wl Tryz.mx oSnap_1 (by decide +kernel) fun K hK => ?_
        | refine wt (fun _ => True) Tryz.mx [0, 0, 0, 0, 0, 0, 3, 0, 0, 0, 2, 3, 0] (.bu 0 (.bu 1 (.bu 2 (.bu 3 (.bu 4 (.bu 5 (.sC 6 (.bu 7 (.bu 8 (.bu 9 (.bu 10 (.bu 11 (.bu 12 .nil)))))) 10 (.bu 6 (.bu 7 (.bu 8 (.bu 9 (.bu 11 (.bu 12 .nil))))))))))))) (by decide +kernel) fun K hK => ?_
        | (apply aP.el (P4); (· repeat' (first | assumption | apply AW.Wf.alloc | apply AW.Wf.set | exact Nat.le_refl _ | (simp only [AW.aZ, AW.dq]; omega) | apply an.uP hS hw | apply ay.z | apply ay.s)); (· repeat' (first | exact hS | exact Nat.le_refl _ | with_reducible apply an.jd | with_reducible apply an.jZ | with_reducible apply AW.gE | with_reducible apply AW.jU | with_reducible apply an.jn | with_reducible apply ay.z | with_reducible apply ay.s | assumption | apply AW.Wf.alloc | apply AW.Wf.set | (simp only [AW.aZ, AW.dq]; omega) | apply an.uP hS hw | exact rfl)); (· repeat' (first | apply aX.z | apply aX.s | apply ay.z | apply ay.ly | apply ay.qC | apply ay.s)); rintro _ _ rfl hS hw _; dsimp only [AW.aZ, List.cons_append, List.nil_append] at hS; have hq := hS.eA hw; dsimp only [List.cons_append, List.nil_append, bp, bY, cS, eN, bH, gA, kQ, gj, eY, iy, jA, jC, gp, iA, ko, fw, eb, eQ, cO, bf, ff, bO, bP, bd, be, bL, bc, bN, aO, aI, bM, aN, bJ, aT, aQ, aD.rv] at hq)
        | refine wb ?_ | refine wr ?_ | refine wk ?_ | refine we ?_ | refine ws ?_ | refine wq ?_
        | (refine wc rfl (fun hc => ?_) (fun hc => ?_) <;> (try simp at hc) <;> (try omega) <;> (try (simp [h2] at hc; done)) <;> (try (simp [h3] at hc; done)) <;> (try (simp [h4] at hc; done)))
        | (refine ib (fun hc => ?_) (fun hc => ?_) <;> (try omega) <;> (try simp (disch := omega) only [if_pos, if_neg])))
        refine ⟨a, r, (jG s0).2, m, by omega, hadd, by simp [g1], by simp [g5], by simp [g6], by simp [g8], by simp [g9], by simp [DR], by simp [g11], by simp, ?_, ?_⟩
        · repeat' (first | assumption | apply AW.Wf.alloc | apply AW.Wf.set | exact Nat.le_refl _ | (simp only [AW.aZ, AW.dq]; omega) | apply an.uP hS hw | apply ay.z | apply ay.s)
        dsimp only [restS, tRow, tRow3]
        apply an.cC
        (· repeat' (first | exact hS | exact Nat.le_refl _ | with_reducible apply an.jd | with_reducible apply an.jZ | with_reducible apply AW.gE | with_reducible apply AW.jU | with_reducible apply an.jn | with_reducible apply ay.z | with_reducible apply ay.s | assumption | apply AW.Wf.alloc | apply AW.Wf.set | (simp only [AW.aZ, AW.dq]; omega) | apply an.uP hS hw | exact rfl))
        (· repeat' (first | apply aX.z | apply aX.s | apply ay.z | apply ay.ly | apply ay.qC | apply ay.s))
    · obtain ⟨⟨a0, r0, s1⟩, hft⟩ : ∃ x, f t = some x := by
        cases h : f t with
        | none => exact absurd (.inl h) Nx
        | some x => exact ⟨x, rfl⟩
      have dn : ¬ s1.av = 2 := fun h => Nx (.inr ⟨_, hft, h⟩)
      have hfT : fTh f t = some s1 := by unfold fTh; rw [hft]; rfl
      have hA1 := (hI.ok t s1 hfT).1
      rw [hft] at mg
      have hS := mg
      have qg := bI.bu mg .z
      have w1 := yk a0 s1 _ _ A3 hw qg
      have w2 := Cx a0 s1 _ A3 hw qg
      by_cases hb : s1.Gu = true
      · rw [hb] at w2
        have kK : SnI c m (upT (fTh f) t s1) sn rd M := by rw [upT_id hfT]; exact hI
        clear hI
        rcases h3 with rfl | rfl | rfl
        all_goals
          dsimp only [plA, plR, tRow, tRow3, restS, PHa] at hS
          have hq := hS.eA hw
          dsimp only [List.cons_append, List.nil_append, bp, bY, cS, eN, restS, tRow, tRow3, eb, fw, oK] at hq
          repeat' (first
          | (refine il fun R hR => ?_; simp [ak, au, g1, g5, g6, g8, g9, DR, g11, hq, dn, AW.aa, af]; try simp (disch := omega) only [if_pos, if_neg, ak, au])
          | (refine hR _ _ ?_; clear hR R) | (refine hK _ _ ?_; clear hK K) | refine Vt ?_ | refine lr ?_ | refine la ?_
          | (refine EZ fun R hR => ?_; simp [ak, au, g1, g5, g6, g8, g9, DR, g11, hq, dn, AW.aa, af]; try simp (disch := omega) only [if_pos, if_neg, ak, au])
          | (refine EF (fun R hR => ?_) (fun R hR => ?_) <;> (simp [ak, au, g1, g5, g6, g8, g9, DR, g11, hq, dn, AW.aa, af]; try simp (disch := omega) only [if_pos, if_neg, ak, au]))
          | refine EY ?_
          | refine wn fun K hK => ?_
          | simp only [wS, oSnap_0, oSnap_1]
          | simp only [hN, nC, jt, Option.map_none, Option.map_some, List.getElem?_toArray, List.getElem?_cons_zero, List.getElem?_cons_succ, List.getD_cons_zero, List.getD_cons_succ, Option.bind_some]
          | refine wl Tryz.mx oSnap_0 (by decide +kernel) fun K hK => ?_
          | refine wl Tryz.mx oSnap_1 (by decide +kernel) fun K hK => ?_
          | refine wt (fun _ => True) Tryz.mx [0, 0, 0, 0, 0, 0, 3, 0, 0, 0, 2, 3, 0] (.bu 0 (.bu 1 (.bu 2 (.bu 3 (.bu 4 (.bu 5 (.sC 6 (.bu 7 (.bu 8 (.bu 9 (.bu 10 (.bu 11 (.bu 12 .nil)))))) 10 (.bu 6 (.bu 7 (.bu 8 (.bu 9 (.bu 11 (.bu 12 .nil))))))))))))) (by decide +kernel) fun K hK => ?_
          | (refine bD (w1) ?_; rintro _ _ ⟨rfl, rfl⟩ _ _)
          | (refine bD (w2) ?_; rintro _ _ ⟨rfl, rfl⟩ _ _)
          | refine wb ?_ | refine wr ?_ | refine wk ?_ | refine we ?_ | refine ws ?_ | refine wq ?_
          | (refine wc rfl (fun hc => ?_) (fun hc => ?_) <;> (try simp at hc) <;> (try omega) <;> (try (simp [h2] at hc; done)) <;> (try (simp [h3] at hc; done)) <;> (try (simp [h4] at hc; done)))
          | (refine ib (fun hc => ?_) (fun hc => ?_) <;> (try omega) <;> (try simp (disch := omega) only [if_pos, if_neg])))
          exact ⟨a0, r0, s1, m, by omega, kK, by simp [g1], by simp [g5], by simp [g6], by simp [g8], by simp [g9], by simp [DR], by simp [g11], by simp, hw, hS⟩
      · have hb : s1.Gu = false := by simpa using hb
        rw [hb] at w2
        have hC := hA1.b.Gy Co
        have hask := hI.ask Co hfT q
        obtain ⟨ti, hti⟩ : ∃ ti : Int, ti = (t : Int) := ⟨_, rfl⟩
        have OD := tK Co 0 ti (by omega)
        have VG : nA Tryz.prog 25 [c.v, .int .i64 ti] [] (fun (b : Nat) v => v = pv b) (fun b => [.h (bF b (iD c ti))]) := fun A F hw hS => Jo c Co ti A F hw hS
        have V9 := fun r' : Nat => L9 c Co a0 r' q s1 (iD c ti) hC (OD.b.Gy Co) (by rw [OD.b.cf]; exact OD.b.kN)
        obtain ⟨s0, F4⟩ : ∃ s0, s0 = iD c ti := ⟨_, rfl⟩
        rw [← F4] at VG V9
        dsimp only [bG.v, nc.val] at VG V9
        rw [hti] at VG
        clear OD F4 hti
        rcases h3 with rfl | rfl | rfl
        all_goals
          dsimp only [plA, plR, tRow, tRow3, restS, PHa] at hS
          have hq := hS.eA hw
          dsimp only [List.cons_append, List.nil_append, bp, bY, cS, eN, restS, tRow, tRow3, eb, fw, oK] at hq
          refine wq ?_
          refine wn fun K hK => ?_
          repeat' (first
          | (refine il fun R hR => ?_; simp [ak, au, g1, g5, g6, g8, g9, DR, g11, hq, dn, AW.aa]; try simp (disch := omega) only [if_pos, if_neg, ak, au])
          | (refine hR _ _ ?_; clear hR R) | refine Vt ?_ | refine lr ?_ | refine la ?_
          | simp only [wS]
          | (refine bD (w1) ?_; rintro _ _ ⟨rfl, rfl⟩ _ _)
          | (refine ib (fun hc => ?_) (fun hc => ?_) <;> (try omega) <;> (try simp (disch := omega) only [if_pos, if_neg])))
          refine hK _ _ ?_
          clear hK K
          refine wc rfl (fun hc => ?_) (fun hc => ?_)
          case refine_1 => simp [dn] at hc
          clear hc
          refine wq ?_
          refine wn fun K hK => ?_
          repeat' (first
          | (refine il fun R hR => ?_; simp [ak, au, g1, g5, g6, g8, g9, DR, g11, hq, dn, AW.aa]; try simp (disch := omega) only [if_pos, if_neg, ak, au])
          | (refine hR _ _ ?_; clear hR R) | refine Vt ?_ | refine lr ?_ | refine la ?_
          | simp only [wS]
          | (refine bD (w2) ?_; rintro _ _ ⟨rfl, rfl⟩ _ _)
          | (refine ib (fun hc => ?_) (fun hc => ?_) <;> (try omega) <;> (try simp (disch := omega) only [if_pos, if_neg])))
          refine hK _ _ ?_
          clear hK K
          refine wc rfl (fun hc => ?_) (fun hc => ?_)
          case refine_2 => simp at hc
          clear hc
          refine wq ?_
          refine L4 (fun fr A' => ∃ n13 b', fr 1 = .slice (some p) qs.length cp ∧ fr 5 = pv n5 ∧ fr 6 = pv n6 ∧ fr 8 = pv n8 ∧ fr 9 = pv n9 ∧ fr 10 = pv Ki ∧ fr 11 = .int .i64 i ∧ fr 12 = .int .i64 (tt : Int) ∧ fr 13 = pv n13 ∧ A'.Wf ∧
            an A' (.h (bF b' s0) :: .at n13 (.cells [pv a0, pv b'] true 1) :: .h (bI a0 s1) :: .h (ar .u64 vt snt) :: restS c pb mb n5 n6 n8 n9 Ki M (tRow tt (pv a0) (pv r0) o0 o1 o2 o3) (tRow3 tt vt p0 p1) (tRow3 tt (.int .i64 d) q0 q1) O A.cy)) ?_ ?_
          · repeat' (first
          | (refine il fun R hR => ?_; simp [ak, au, g1, g5, g6, g8, g9, DR, g11, hq, AW.aa, af]; try simp (disch := omega) only [if_pos, if_neg, ak, au])
          | (refine hR _ _ ?_; clear hR R) | (refine hK _ _ ?_; clear hK K) | refine Vt ?_ | refine lr ?_ | refine la ?_
          | (refine EZ fun R hR => ?_; simp [ak, au, g1, g5, g6, g8, g9, DR, g11, hq, AW.aa, af]; try simp (disch := omega) only [if_pos, if_neg, ak, au])
          | (refine EF (fun R hR => ?_) (fun R hR => ?_) <;> (simp [ak, au, g1, g5, g6, g8, g9, DR, g11, hq, AW.aa, af]; try simp (disch := omega) only [if_pos, if_neg, ak, au]))
          | refine EY ?_
          | refine wn fun K hK => ?_
          | simp only [wS, oSnap_0, oSnap_1]
          | simp only [hN, nC, jt, Option.map_none, Option.map_some, List.getElem?_toArray, List.getElem?_cons_zero, List.getElem?_cons_succ, List.getD_cons_zero, List.getD_cons_succ, Option.bind_some]
          | refine wl Tryz.mx oSnap_0 (by decide +kernel) fun K hK => ?_
          | refine wl Tryz.mx oSnap_1 (by decide +kernel) fun K hK => ?_
          | refine wt (fun _ => True) Tryz.mx [0, 0, 0, 0, 0, 0, 3, 0, 0, 0, 2, 3, 0] (.bu 0 (.bu 1 (.bu 2 (.bu 3 (.bu 4 (.bu 5 (.sC 6 (.bu 7 (.bu 8 (.bu 9 (.bu 10 (.bu 11 (.bu 12 .nil)))))) 10 (.bu 6 (.bu 7 (.bu 8 (.bu 9 (.bu 11 (.bu 12 .nil))))))))))))) (by decide +kernel) fun K hK => ?_
          | (refine ⟨fun A' g => by simp [AW.aa, g, VD, tRow], ?_⟩)
          | (refine ⟨by simp [hq, VD, tRow], ?_⟩)
          | (refine wt (fun A' => A'.cy n8 = some (.cells (tRow tt (pv a0) (pv r0) o0 o1 o2 o3) true 1)) Tryz.mx [0,0,0,1,0,0,3,0,2,3] (.bu 0 (.bu 1 (.bu 2 (.bu 3 (.bu 4 (.bu 5 (.sC 6 (.bu 7 (.bu 8 (.bu 9 .nil))) 8 (.bu 6 (.bu 7 (.bu 9 .nil))))))))) ) (by decide +kernel) fun K hK => ?_)
          | (apply nA.el (VG); (· repeat' (first | assumption | apply AW.Wf.alloc | apply AW.Wf.set | exact Nat.le_refl _ | (simp only [AW.aZ, AW.dq]; omega) | apply an.uP hS hw | apply ay.z | apply ay.s)); (· repeat' (first | exact hS | exact Nat.le_refl _ | with_reducible apply an.jd | with_reducible apply an.jZ | with_reducible apply AW.gE | with_reducible apply AW.jU | with_reducible apply an.jn | with_reducible apply ay.z | with_reducible apply ay.s | assumption | apply AW.Wf.alloc | apply AW.Wf.set | (simp only [AW.aZ, AW.dq]; omega) | apply an.uP hS hw | exact rfl)); (· repeat' (first | apply aX.z | apply aX.s | apply ay.z | apply ay.ly | apply ay.qC | apply ay.s)); (rintro xw _ _ rfl hS hw _; (try dsimp only [AW.aZ, List.cons_append, List.nil_append] at hS); (try (have hq := hS.eA hw; dsimp only [List.cons_append, List.nil_append, bp, bY, cS, eN, bH, gA, kQ, gj, eY, iy, jA, jC, gp, iA, ko, fw, eb, eQ, cO, bf, ff, bO, bP, bd, be, bL, bc, bN, aO, aI, bM, aN, bJ, aT, aQ, aD.rv] at hq))))
          | refine wb ?_ | refine wr ?_ | refine wk ?_ | refine we ?_ | refine ws ?_ | refine wq ?_
          | (refine wc rfl (fun hc => ?_) (fun hc => ?_) <;> (try simp at hc) <;> (try omega) <;> (try (simp [h2] at hc; done)) <;> (try (simp [h3] at hc; done)) <;> (try (simp [h4] at hc; done)))
          | (refine ib (fun hc => ?_) (fun hc => ?_) <;> (try omega) <;> (try simp (disch := omega) only [if_pos, if_neg])))
            all_goals
              refine ⟨_, xw, by simp [g1], by simp [g5], by simp [g6], by simp [g8], by simp [g9], by simp [DR], by simp [g11], by simp [VD], by simp; rfl, ?_, ?_⟩
              · repeat' (first | assumption | apply AW.Wf.alloc | apply AW.Wf.set | exact Nat.le_refl _ | (simp only [AW.aZ, AW.dq]; omega) | apply an.uP hS hw | apply ay.z | apply ay.s)
              rw [VD]
              dsimp only [restS, tRow, tRow3]
              apply an.cC
              (· repeat' (first | exact hS | exact Nat.le_refl _ | with_reducible apply an.jd | with_reducible apply an.jZ | with_reducible apply AW.gE | with_reducible apply AW.jU | with_reducible apply an.jn | with_reducible apply ay.z | with_reducible apply ay.s | assumption | apply AW.Wf.alloc | apply AW.Wf.set | (simp only [AW.aZ, AW.dq]; omega) | apply an.uP hS hw | exact rfl))
              (· repeat' (first | apply aX.z | apply aX.s | apply ay.z | apply ay.ly | apply ay.qC | apply ay.s))
          clear g1 g5 g6 g8 g9 DR g11 hw hS hq eH dg P2 w1 w2 qg mg
          rintro fr A4 ⟨n13, b', g1, g5, g6, g8, g9, DR, g11, DQ, g13, hw, hS⟩
          obtain ⟨p', dh, own, Nn, eH, dg⟩ := (hs.keeps (restS_keeps (an.tail (an.tail (an.tail (an.tail hS)))))).at dQ
          injection Nn with Nn
          subst Nn
          rw [← Lv] at dg
          have P2 : dh[p.off + i * 4]? = some (.int .i64 q.ag) := dg 0 (by omega)
          have UF : dh[p.off + i * 4 + 1]? = some (.int .i64 q.eV) := dg 1 (by omega)
          have BG : dh[p.off + i * 4 + 2]? = some (.int .i64 q.cA) := dg 2 (by omega)
          have V4 : dh[p.off + i * 4 + 3]? = some (.int .u64 q.v) := dg 3 (by omega)
          obtain ⟨XC, zz⟩ := Q1 P2 UF BG V4
          rw [VD] at hS DQ
          dsimp only [restS, tRow, tRow3] at hS
          have hq := hS.eA hw
          dsimp only [List.cons_append, List.nil_append, bp, bY, cS, eN, restS, tRow, tRow3, eb, fw, oK] at hq
          repeat' (first
          | (refine il fun R hR => ?_; simp [ak, au, g1, g5, g6, g8, g9, DR, g11, g13, hq, eH, XC, zz, P2, UF, BG, V4, AW.aa, af]; try simp (disch := omega) only [if_pos, if_neg, ak, au])
          | (refine hR _ _ ?_; clear hR R) | (refine hK _ _ ?_; clear hK K) | refine Vt ?_ | refine lr ?_ | refine la ?_
          | (refine EZ fun R hR => ?_; simp [ak, au, g1, g5, g6, g8, g9, DR, g11, g13, hq, eH, XC, zz, P2, UF, BG, V4, AW.aa, af]; try simp (disch := omega) only [if_pos, if_neg, ak, au])
          | (refine EF (fun R hR => ?_) (fun R hR => ?_) <;> (simp [ak, au, g1, g5, g6, g8, g9, DR, g11, g13, hq, eH, XC, zz, P2, UF, BG, V4, AW.aa, af]; try simp (disch := omega) only [if_pos, if_neg, ak, au]))
          | refine EY ?_
          | refine wn fun K hK => ?_
          | simp only [wS, oSnap_0, oSnap_1]
          | simp only [hN, nC, jt, Option.map_none, Option.map_some, List.getElem?_toArray, List.getElem?_cons_zero, List.getElem?_cons_succ, List.getD_cons_zero, List.getD_cons_succ, Option.bind_some]
          | refine wl Tryz.mx oSnap_0 (by decide +kernel) fun K hK => ?_
          | refine wl Tryz.mx oSnap_1 (by decide +kernel) fun K hK => ?_
          | refine wt (fun _ => True) Tryz.mx [0, 0, 0, 0, 0, 0, 3, 0, 0, 0, 2, 3, 0] (.bu 0 (.bu 1 (.bu 2 (.bu 3 (.bu 4 (.bu 5 (.sC 6 (.bu 7 (.bu 8 (.bu 9 (.bu 10 (.bu 11 (.bu 12 .nil)))))) 10 (.bu 6 (.bu 7 (.bu 8 (.bu 9 (.bu 11 (.bu 12 .nil))))))))))))) (by decide +kernel) fun K hK => ?_
          | (apply aP.el ((V9 _)); (· repeat' (first | assumption | apply AW.Wf.alloc | apply AW.Wf.set | exact Nat.le_refl _ | (simp only [AW.aZ, AW.dq]; omega) | apply an.uP hS hw | apply ay.z | apply ay.s)); (· repeat' (first | exact hS | exact Nat.le_refl _ | with_reducible apply an.jd | with_reducible apply an.jZ | with_reducible apply AW.gE | with_reducible apply AW.jU | with_reducible apply an.jn | with_reducible apply ay.z | with_reducible apply ay.s | assumption | apply AW.Wf.alloc | apply AW.Wf.set | (simp only [AW.aZ, AW.dq]; omega) | apply an.uP hS hw | exact rfl)); (· repeat' (first | apply aX.z | apply aX.s | apply ay.z | apply ay.ly | apply ay.qC | apply ay.s)); rintro _ _ rfl hS hw _; dsimp only [AW.aZ, List.cons_append, List.nil_append] at hS; have hq := hS.eA hw; dsimp only [List.cons_append, List.nil_append, bp, bY, cS, eN, bH, gA, kQ, gj, eY, iy, jA, jC, gp, iA, ko, fw, eb, eQ, cO, bf, ff, bO, bP, bd, be, bL, bc, bN, aO, aI, bM, aN, bJ, aT, aQ, aD.rv] at hq)
          | refine wb ?_ | refine wr ?_ | refine wk ?_ | refine we ?_ | refine ws ?_ | refine wq ?_
          | (refine wc rfl (fun hc => ?_) (fun hc => ?_) <;> (try simp at hc) <;> (try omega) <;> (try (simp [h2] at hc; done)) <;> (try (simp [h3] at hc; done)) <;> (try (simp [h4] at hc; done)))
          | (refine ib (fun hc => ?_) (fun hc => ?_) <;> (try omega) <;> (try simp (disch := omega) only [if_pos, if_neg])))
          refine ⟨a0, r0, (xB c q s1).2, m + 1, by omega, hask, by simp [g1], by simp [g5], by simp [g6], by simp [g8], by simp [g9], by simp [DR], by simp [g11], by simp [DQ], ?_, ?_⟩
          · repeat' (first | assumption | apply AW.Wf.alloc | apply AW.Wf.set | exact Nat.le_refl _ | (simp only [AW.aZ, AW.dq]; omega) | apply an.uP hS hw | apply ay.z | apply ay.s)
          dsimp only [restS, tRow, tRow3]
          apply an.cC
          (· repeat' (first | exact hS | exact Nat.le_refl _ | with_reducible apply an.jd | with_reducible apply an.jZ | with_reducible apply AW.gE | with_reducible apply AW.jU | with_reducible apply an.jn | with_reducible apply ay.z | with_reducible apply ay.s | assumption | apply AW.Wf.alloc | apply AW.Wf.set | (simp only [AW.aZ, AW.dq]; omega) | apply an.uP hS hw | exact rfl))
          (· repeat' (first | apply aX.z | apply aX.s | apply ay.z | apply ay.ly | apply ay.qC | apply ay.s))
  clear hq hS mg hkp g1 g5 g6 g8 g9 DR g11 hw eH dg P2 ht Az hI Lv
  rintro fr A4 ⟨a, r, s, m', JJ, Ys, g1, g5, g6, g8, g9, DR, g11, DQ, hw, hS⟩
  have RO : m' < 2^40 := by omega
  have mc : IntKind.i64.wrap ((i : Int) + 1) = ((i + 1 : Nat) : Int) := ak (by omega) (by omega)
  have Ng := BZ a pb s M (((Ys.ok t s (upT_self _ _ _)).1).KE Co Ys.mok)
  have jE := Ys.step Co RO (upT_self (fTh f) t s)
  unfold fM at Ng
  unfold StG AgOk at jE
  rw [upT_upT] at jE
  obtain ⟨x, ph, s', M', hr⟩ : ∃ x ph s' M', cD s M = (x, ph, s', M') := ⟨_, _, _, _, rfl⟩
  rw [hr] at Ng jE
  dsimp only at Ng jE
  clear hr Ys
  obtain ⟨hI2, QJ⟩ := jE
  have h3 : t = 0 ∨ t = 1 ∨ t = 2 := by omega
  obtain ⟨d, hd⟩ : ∃ d, rd t = d := ⟨_, rfl⟩
  obtain ⟨vt, hvt⟩ : ∃ vt, vs t = vt := ⟨_, rfl⟩
  obtain ⟨snt, hsnt⟩ : ∃ snt, sn t = snt := ⟨_, rfl⟩
  rw [hd, hvt, hsnt] at hS
  rw [hd, hsnt] at QJ
  refine wq ?_
  refine L4 (fun fr A' => ∃ n14, fr 1 = .slice (some p) qs.length cp ∧ fr 5 = pv n5 ∧ fr 6 = pv n6 ∧ fr 8 = pv n8 ∧ fr 9 = pv n9 ∧ fr 10 = pv Ki ∧ fr 11 = .int .i64 i ∧ fr 12 = .int .i64 t ∧ fr 14 = pv n14 ∧ fr 15 = .int .i64 ph ∧
    A'.Wf ∧ an A' (.at n14 (.cells x.cells true 1) :: .h (bI a s') :: .h (ar .u64 vt snt) :: restS c pb mb n5 n6 n8 n9 Ki M' (tRow t (pv a) (pv r) o0 o1 o2 o3) (tRow3 t vt p0 p1) (tRow3 t (.int .i64 d) q0 q1) O A.cy)) ?_ ?_
  · clear V7 hI2 QJ hd hvt hsnt
    rcases h3 with rfl | rfl | rfl
    all_goals
      dsimp only [restS, tRow, tRow3] at hS
      have hq := hS.eA hw
      dsimp only [List.cons_append, List.nil_append, bp, bY, cS, eN, restS, tRow, tRow3, eb, fw, oK] at hq
      repeat' (first
      | (refine il fun R hR => ?_; simp [ak, au, g1, g5, g6, g8, g9, DR, g11, DQ, hq, AW.aa, af, aS, bq.v]; try simp (disch := omega) only [if_pos, if_neg, ak, au])
      | (refine hR _ _ ?_; clear hR R) | (refine hK _ _ ?_; clear hK K) | refine Vt ?_ | refine lr ?_ | refine la ?_
      | (refine EZ fun R hR => ?_; simp [ak, au, g1, g5, g6, g8, g9, DR, g11, DQ, hq, AW.aa, af, aS, bq.v]; try simp (disch := omega) only [if_pos, if_neg, ak, au])
      | (refine EF (fun R hR => ?_) (fun R hR => ?_) <;> (simp [ak, au, g1, g5, g6, g8, g9, DR, g11, DQ, hq, AW.aa, af, aS, bq.v]; try simp (disch := omega) only [if_pos, if_neg, ak, au]))
      | refine EY ?_
      | refine wn fun K hK => ?_
      | simp only [wS, oSnap_0, oSnap_1]
      | simp only [hN, nC, jt, Option.map_none, Option.map_some, List.getElem?_toArray, List.getElem?_cons_zero, List.getElem?_cons_succ, List.getD_cons_zero, List.getD_cons_succ, Option.bind_some]
      | refine wl Tryz.mx oSnap_0 (by decide +kernel) fun K hK => ?_
      | refine wl Tryz.mx oSnap_1 (by decide +kernel) fun K hK => ?_
      | refine wt (fun _ => True) Tryz.mx [0, 0, 0, 0, 0, 0, 3, 0, 0, 0, 2, 3, 0] (.bu 0 (.bu 1 (.bu 2 (.bu 3 (.bu 4 (.bu 5 (.sC 6 (.bu 7 (.bu 8 (.bu 9 (.bu 10 (.bu 11 (.bu 12 .nil)))))) 10 (.bu 6 (.bu 7 (.bu 8 (.bu 9 (.bu 11 (.bu 12 .nil))))))))))))) (by decide +kernel) fun K hK => ?_
      | (apply aP.el (Ng); (· repeat' (first | assumption | apply AW.Wf.alloc | apply AW.Wf.set | exact Nat.le_refl _ | (simp only [AW.aZ, AW.dq]; omega) | apply an.uP hS hw | apply ay.z | apply ay.s)); (· repeat' (first | exact hS | exact Nat.le_refl _ | with_reducible apply an.jd | with_reducible apply an.jZ | with_reducible apply AW.gE | with_reducible apply AW.jU | with_reducible apply an.jn | with_reducible apply ay.z | with_reducible apply ay.s | assumption | apply AW.Wf.alloc | apply AW.Wf.set | (simp only [AW.aZ, AW.dq]; omega) | apply an.uP hS hw | exact rfl)); (· repeat' (first | apply aX.z | apply aX.s | apply ay.z | apply ay.ly | apply ay.qC | apply ay.s)); rintro _ _ rfl hS hw _; dsimp only [AW.aZ, List.cons_append, List.nil_append] at hS; have hq := hS.eA hw; dsimp only [List.cons_append, List.nil_append, bp, bY, cS, eN, bH, gA, kQ, gj, eY, iy, jA, jC, gp, iA, ko, fw, eb, eQ, cO, bf, ff, bO, bP, bd, be, bL, bc, bN, aO, aI, bM, aN, bJ, aT, aQ, aD.rv] at hq)
      | refine wb ?_ | refine wr ?_ | refine wk ?_ | refine we ?_ | refine ws ?_ | refine wq ?_
      | (refine wc rfl (fun hc => ?_) (fun hc => ?_) <;> (try simp at hc) <;> (try omega) <;> (try (simp [h2] at hc; done)) <;> (try (simp [h3] at hc; done)) <;> (try (simp [h4] at hc; done)))
      | (refine ib (fun hc => ?_) (fun hc => ?_) <;> (try omega) <;> (try simp (disch := omega) only [if_pos, if_neg])))
      all_goals
        refine ⟨_, by simp [g1], by simp [g5], by simp [g6], by simp [g8], by simp [g9], by simp [DR], by simp [g11], by simp [DQ], by simp; rfl, by simp, ?_, ?_⟩
        · repeat' (first | assumption | apply AW.Wf.alloc | apply AW.Wf.set | exact Nat.le_refl _ | (simp only [AW.aZ, AW.dq]; omega) | apply an.uP hS hw | apply ay.z | apply ay.s)
        dsimp only [restS, tRow, tRow3, bq.cells]
        apply an.cC
        (· repeat' (first | exact hS | exact Nat.le_refl _ | with_reducible apply an.jd | with_reducible apply an.jZ | with_reducible apply AW.gE | with_reducible apply AW.jU | with_reducible apply an.jn | with_reducible apply ay.z | with_reducible apply ay.s | assumption | apply AW.Wf.alloc | apply AW.Wf.set | (simp only [AW.aZ, AW.dq]; omega) | apply an.uP hS hw | exact rfl))
        (· repeat' (first | apply aX.z | apply aX.s | apply ay.z | apply ay.ly | apply ay.qC | apply ay.s))
  clear g1 g5 g6 g8 g9 DR g11 DQ hw hS Ng
  rintro fr A5 ⟨n14, g1, g5, g6, g8, g9, DR, g11, DQ, HV, g15, hw, hS⟩
  have qg := bI.bu hS (.s .z)
  have w1 := Cw a s' _ _ A5 hw qg
  have w2 := Cx a s' _ A5 hw qg
  have w3 := GZ a s' _ _ A5 hw qg
  have hM2 := hI2.mok
  by_cases h_3 : ph = 3
  · rw [if_pos h_3, if_neg (by omega)] at hI2
    have hI3 : SnI c (m' + 1) (upT (fTh f) t s') (upS sn t (M' 0)) (upS rd t d) M' := by rw [← hd, upS_id]; exact hI2
    clear hI2 QJ w1 w2 w3 qg
    rcases h3 with rfl | rfl | rfl
    all_goals
      dsimp only [restS, tRow, tRow3, bq.cells] at hS
      have hq := hS.eA hw
      dsimp only [List.cons_append, List.nil_append, bp, bY, cS, eN, restS, tRow, tRow3, eb, fw, oK] at hq
      repeat' (first
      | (refine il fun R hR => ?_; simp [ak, au, g1, g5, g6, g8, g9, DR, g11, DQ, HV, g15, h_3, hq, AW.aa, af]; try simp (disch := omega) only [if_pos, if_neg, ak, au])
      | (refine hR _ _ ?_; clear hR R) | (refine hK _ _ ?_; clear hK K) | refine Vt ?_ | refine lr ?_ | refine la ?_
      | (refine EZ fun R hR => ?_; simp [ak, au, g1, g5, g6, g8, g9, DR, g11, DQ, HV, g15, h_3, hq, AW.aa, af]; try simp (disch := omega) only [if_pos, if_neg, ak, au])
      | (refine EF (fun R hR => ?_) (fun R hR => ?_) <;> (simp [ak, au, g1, g5, g6, g8, g9, DR, g11, DQ, HV, g15, h_3, hq, AW.aa, af]; try simp (disch := omega) only [if_pos, if_neg, ak, au]))
      | refine EY ?_
      | refine wn fun K hK => ?_
      | simp only [wS, oSnap_0, oSnap_1]
      | simp only [hN, nC, jt, Option.map_none, Option.map_some, List.getElem?_toArray, List.getElem?_cons_zero, List.getElem?_cons_succ, List.getD_cons_zero, List.getD_cons_succ, Option.bind_some]
      | refine wl Tryz.mx oSnap_0 (by decide +kernel) fun K hK => ?_
      | refine wl Tryz.mx oSnap_1 (by decide +kernel) fun K hK => ?_
      | refine wt (fun _ => True) Tryz.mx [0, 0, 0, 0, 0, 0, 3, 0, 0, 0, 2, 3, 0] (.bu 0 (.bu 1 (.bu 2 (.bu 3 (.bu 4 (.bu 5 (.sC 6 (.bu 7 (.bu 8 (.bu 9 (.bu 10 (.bu 11 (.bu 12 .nil)))))) 10 (.bu 6 (.bu 7 (.bu 8 (.bu 9 (.bu 11 (.bu 12 .nil))))))))))))) (by decide +kernel) fun K hK => ?_
      | refine wb ?_ | refine wr ?_ | refine wk ?_ | refine we ?_ | refine ws ?_ | refine wq ?_
      | (refine wc rfl (fun hc => ?_) (fun hc => ?_) <;> (try simp at hc) <;> (try omega) <;> (try (simp [h2] at hc; done)) <;> (try (simp [h3] at hc; done)) <;> (try (simp [h4] at hc; done)))
      | (refine ib (fun hc => ?_) (fun hc => ?_) <;> (try omega) <;> (try simp (disch := omega) only [if_pos, if_neg])))
      apply image_use hS (cU := hM2.Rl Co (by decide)) (h2 := by rw [hM2.l2]; decide) (h3 := by rw [hM2.l3]; decide) (h4 := by rw [hM2.l4]; decide)
      case hp =>
        (· repeat' (first | apply aX.z | apply aX.s | apply ay.z | apply ay.ly | apply ay.qC | apply ay.s))
      clear hS hw hq
      intro u0 d0 u1 d1 u5 d5 u6 d6 u7 d7 A6 hS hw
      have hq := hS.eA hw
      dsimp only [List.cons_append, List.nil_append, bp, bY, cS, eN, restS, tRow, tRow3, eb, fw, oK] at hq
      repeat' (first
      | (refine il fun R hR => ?_; simp [ak, au, g1, g5, g6, g8, g9, DR, g11, DQ, HV, g15, mc, hq, AW.aa, af]; try simp (disch := omega) only [if_pos, if_neg, ak, au])
      | (refine hR _ _ ?_; clear hR R) | (refine hK _ _ ?_; clear hK K) | refine Vt ?_ | refine lr ?_ | refine la ?_
      | (refine EZ fun R hR => ?_; simp [ak, au, g1, g5, g6, g8, g9, DR, g11, DQ, HV, g15, mc, hq, AW.aa, af]; try simp (disch := omega) only [if_pos, if_neg, ak, au])
      | (refine EF (fun R hR => ?_) (fun R hR => ?_) <;> (simp [ak, au, g1, g5, g6, g8, g9, DR, g11, DQ, HV, g15, mc, hq, AW.aa, af]; try simp (disch := omega) only [if_pos, if_neg, ak, au]))
      | refine EY ?_
      | refine wn fun K hK => ?_
      | simp only [wS, oSnap_0, oSnap_1]
      | simp only [hN, nC, jt, Option.map_none, Option.map_some, List.getElem?_toArray, List.getElem?_cons_zero, List.getElem?_cons_succ, List.getD_cons_zero, List.getD_cons_succ, Option.bind_some]
      | refine wl Tryz.mx oSnap_0 (by decide +kernel) fun K hK => ?_
      | refine wl Tryz.mx oSnap_1 (by decide +kernel) fun K hK => ?_
      | refine wt (fun _ => True) Tryz.mx [0, 0, 0, 0, 0, 0, 3, 0, 0, 0, 2, 3, 0] (.bu 0 (.bu 1 (.bu 2 (.bu 3 (.bu 4 (.bu 5 (.sC 6 (.bu 7 (.bu 8 (.bu 9 (.bu 10 (.bu 11 (.bu 12 .nil)))))) 10 (.bu 6 (.bu 7 (.bu 8 (.bu 9 (.bu 11 (.bu 12 .nil))))))))))))) (by decide +kernel) fun K hK => ?_
      | refine wb ?_ | refine wr ?_ | refine wk ?_ | refine we ?_ | refine ws ?_ | refine wq ?_
      | (refine wc rfl (fun hc => ?_) (fun hc => ?_) <;> (try simp at hc) <;> (try omega) <;> (try (simp [h2] at hc; done)) <;> (try (simp [h3] at hc; done)) <;> (try (simp [h4] at hc; done)))
      | (refine ib (fun hc => ?_) (fun hc => ?_) <;> (try omega) <;> (try simp (disch := omega) only [if_pos, if_neg])))
      refine ⟨qs.length - (i + 1), by omega, i + 1, m' + 1, updP f _ (some (a, r, s')), upS vs _ (.slice u0 (M' 0).length d0), upS sn _ (M' 0), upS rd _ d, M', rfl, by omega, by omega, by simp [g1], by simp [g5], by simp [g6], by simp [g8], by simp [g9], by simp [DR], by first | (simp; done) | (simp; omega), ?_, ?_, V7 _ _ _ _ _ _ _ _ ?_⟩
      · repeat' (first | assumption | apply AW.Wf.alloc | apply AW.Wf.set | exact Nat.le_refl _ | (simp only [AW.aZ, AW.dq]; omega) | apply an.uP hS hw | apply ay.z | apply ay.s)
      · rw [fTh_upd]; exact hI3
      dsimp only [restS, tRow, tRow3]
      apply an.cC
      (· repeat' (first | exact hS | exact Nat.le_refl _ | with_reducible apply an.jd | with_reducible apply an.jZ | with_reducible apply AW.gE | with_reducible apply AW.jU | with_reducible apply an.jn | with_reducible apply ay.z | with_reducible apply ay.s | assumption | apply AW.Wf.alloc | apply AW.Wf.set | (simp only [AW.aZ, AW.dq]; omega) | apply an.uP hS hw | exact rfl))
      (· repeat' (first | apply aX.z | apply aX.s | apply ay.z | apply ay.ly | apply ay.qC | apply ay.s))
  rw [if_neg h_3] at hI2
  have hI3 : SnI c (m' + 1) (upT (fTh f) t s') (upS sn t snt) (if ph = 6 then upS rd t x.cc else rd) M' := by rw [← hsnt, upS_id]; exact hI2
  clear hI2
  by_cases h_6 : ph = 6
  · rw [if_pos h_6] at hI3
    clear QJ w1 w2 w3 qg
    rcases h3 with rfl | rfl | rfl
    all_goals
      dsimp only [restS, tRow, tRow3, bq.cells] at hS
      have hq := hS.eA hw
      dsimp only [List.cons_append, List.nil_append, bp, bY, cS, eN, restS, tRow, tRow3, eb, fw, oK] at hq
      repeat' (first
      | (refine il fun R hR => ?_; simp [ak, au, g1, g5, g6, g8, g9, DR, g11, DQ, HV, g15, h_3, h_6, mc, hq, AW.aa, af]; try simp (disch := omega) only [if_pos, if_neg, ak, au])
      | (refine hR _ _ ?_; clear hR R) | (refine hK _ _ ?_; clear hK K) | refine Vt ?_ | refine lr ?_ | refine la ?_
      | (refine EZ fun R hR => ?_; simp [ak, au, g1, g5, g6, g8, g9, DR, g11, DQ, HV, g15, h_3, h_6, mc, hq, AW.aa, af]; try simp (disch := omega) only [if_pos, if_neg, ak, au])
      | (refine EF (fun R hR => ?_) (fun R hR => ?_) <;> (simp [ak, au, g1, g5, g6, g8, g9, DR, g11, DQ, HV, g15, h_3, h_6, mc, hq, AW.aa, af]; try simp (disch := omega) only [if_pos, if_neg, ak, au]))
      | refine EY ?_
      | refine wn fun K hK => ?_
      | simp only [wS, oSnap_0, oSnap_1]
      | simp only [hN, nC, jt, Option.map_none, Option.map_some, List.getElem?_toArray, List.getElem?_cons_zero, List.getElem?_cons_succ, List.getD_cons_zero, List.getD_cons_succ, Option.bind_some]
      | refine wl Tryz.mx oSnap_0 (by decide +kernel) fun K hK => ?_
      | refine wl Tryz.mx oSnap_1 (by decide +kernel) fun K hK => ?_
      | refine wt (fun _ => True) Tryz.mx [0, 0, 0, 0, 0, 0, 3, 0, 0, 0, 2, 3, 0] (.bu 0 (.bu 1 (.bu 2 (.bu 3 (.bu 4 (.bu 5 (.sC 6 (.bu 7 (.bu 8 (.bu 9 (.bu 10 (.bu 11 (.bu 12 .nil)))))) 10 (.bu 6 (.bu 7 (.bu 8 (.bu 9 (.bu 11 (.bu 12 .nil))))))))))))) (by decide +kernel) fun K hK => ?_
      | refine wb ?_ | refine wr ?_ | refine wk ?_ | refine we ?_ | refine ws ?_ | refine wq ?_
      | (refine wc rfl (fun hc => ?_) (fun hc => ?_) <;> (try simp at hc) <;> (try omega) <;> (try (simp [h2] at hc; done)) <;> (try (simp [h3] at hc; done)) <;> (try (simp [h4] at hc; done)))
      | (refine ib (fun hc => ?_) (fun hc => ?_) <;> (try omega) <;> (try simp (disch := omega) only [if_pos, if_neg])))
      refine ⟨qs.length - (i + 1), by omega, i + 1, m' + 1, updP f _ (some (a, r, s')), upS vs _ vt, upS sn _ snt, upS rd _ x.cc, M', rfl, by omega, by omega, by simp [g1], by simp [g5], by simp [g6], by simp [g8], by simp [g9], by simp [DR], by first | (simp; done) | (simp; omega), ?_, ?_, V7 _ _ _ _ _ _ _ _ ?_⟩
      · repeat' (first | assumption | apply AW.Wf.alloc | apply AW.Wf.set | exact Nat.le_refl _ | (simp only [AW.aZ, AW.dq]; omega) | apply an.uP hS hw | apply ay.z | apply ay.s)
      · rw [fTh_upd]; exact hI3
      dsimp only [restS, tRow, tRow3]
      apply an.cC
      (· repeat' (first | exact hS | exact Nat.le_refl _ | with_reducible apply an.jd | with_reducible apply an.jZ | with_reducible apply AW.gE | with_reducible apply AW.jU | with_reducible apply an.jn | with_reducible apply ay.z | with_reducible apply ay.s | assumption | apply AW.Wf.alloc | apply AW.Wf.set | (simp only [AW.aZ, AW.dq]; omega) | apply an.uP hS hw | exact rfl))
      (· repeat' (first | apply aX.z | apply aX.s | apply ay.z | apply ay.ly | apply ay.qC | apply ay.s))
  rw [if_neg h_6] at hI3
  have hI3 : SnI c (m' + 1) (upT (fTh f) t s') (upS sn t snt) (upS rd t d) M' := by rw [← hd, upS_id]; exact hI3
  by_cases h_7 : ph = 7
  case neg =>
    clear QJ w1 w2 w3 qg
    rcases h3 with rfl | rfl | rfl
    all_goals
      dsimp only [restS, tRow, tRow3, bq.cells] at hS
      have hq := hS.eA hw
      dsimp only [List.cons_append, List.nil_append, bp, bY, cS, eN, restS, tRow, tRow3, eb, fw, oK] at hq
      repeat' (first
      | (refine il fun R hR => ?_; simp [ak, au, g1, g5, g6, g8, g9, DR, g11, DQ, HV, g15, h_3, h_6, h_7, mc, hq, AW.aa, af]; try simp (disch := omega) only [if_pos, if_neg, ak, au])
      | (refine hR _ _ ?_; clear hR R) | (refine hK _ _ ?_; clear hK K) | refine Vt ?_ | refine lr ?_ | refine la ?_
      | (refine EZ fun R hR => ?_; simp [ak, au, g1, g5, g6, g8, g9, DR, g11, DQ, HV, g15, h_3, h_6, h_7, mc, hq, AW.aa, af]; try simp (disch := omega) only [if_pos, if_neg, ak, au])
      | (refine EF (fun R hR => ?_) (fun R hR => ?_) <;> (simp [ak, au, g1, g5, g6, g8, g9, DR, g11, DQ, HV, g15, h_3, h_6, h_7, mc, hq, AW.aa, af]; try simp (disch := omega) only [if_pos, if_neg, ak, au]))
      | refine EY ?_
      | refine wn fun K hK => ?_
      | simp only [wS, oSnap_0, oSnap_1]
      | simp only [hN, nC, jt, Option.map_none, Option.map_some, List.getElem?_toArray, List.getElem?_cons_zero, List.getElem?_cons_succ, List.getD_cons_zero, List.getD_cons_succ, Option.bind_some]
      | refine wl Tryz.mx oSnap_0 (by decide +kernel) fun K hK => ?_
      | refine wl Tryz.mx oSnap_1 (by decide +kernel) fun K hK => ?_
      | refine wt (fun _ => True) Tryz.mx [0, 0, 0, 0, 0, 0, 3, 0, 0, 0, 2, 3, 0] (.bu 0 (.bu 1 (.bu 2 (.bu 3 (.bu 4 (.bu 5 (.sC 6 (.bu 7 (.bu 8 (.bu 9 (.bu 10 (.bu 11 (.bu 12 .nil)))))) 10 (.bu 6 (.bu 7 (.bu 8 (.bu 9 (.bu 11 (.bu 12 .nil))))))))))))) (by decide +kernel) fun K hK => ?_
      | refine wb ?_ | refine wr ?_ | refine wk ?_ | refine we ?_ | refine ws ?_ | refine wq ?_
      | (refine wc rfl (fun hc => ?_) (fun hc => ?_) <;> (try simp at hc) <;> (try omega) <;> (try (simp [h2] at hc; done)) <;> (try (simp [h3] at hc; done)) <;> (try (simp [h4] at hc; done)))
      | (refine ib (fun hc => ?_) (fun hc => ?_) <;> (try omega) <;> (try simp (disch := omega) only [if_pos, if_neg])))
      refine ⟨qs.length - (i + 1), by omega, i + 1, m' + 1, updP f _ (some (a, r, s')), upS vs _ vt, upS sn _ snt, upS rd _ d, M', rfl, by omega, by omega, by simp [g1], by simp [g5], by simp [g6], by simp [g8], by simp [g9], by simp [DR], by first | (simp; done) | (simp; omega), ?_, ?_, V7 _ _ _ _ _ _ _ _ ?_⟩
      · repeat' (first | assumption | apply AW.Wf.alloc | apply AW.Wf.set | exact Nat.le_refl _ | (simp only [AW.aZ, AW.dq]; omega) | apply an.uP hS hw | apply ay.z | apply ay.s)
      · rw [fTh_upd]; exact hI3
      dsimp only [restS, tRow, tRow3]
      apply an.cC
      (· repeat' (first | exact hS | exact Nat.le_refl _ | with_reducible apply an.jd | with_reducible apply an.jZ | with_reducible apply AW.gE | with_reducible apply AW.jU | with_reducible apply an.jn | with_reducible apply ay.z | with_reducible apply ay.s | assumption | apply AW.Wf.alloc | apply AW.Wf.set | (simp only [AW.aZ, AW.dq]; omega) | apply an.uP hS hw | exact rfl))
      (· repeat' (first | apply aX.z | apply aX.s | apply ay.z | apply ay.ly | apply ay.qC | apply ay.s))
  have QJ := QJ h_7
  by_cases GQ : s'.ax = 9
  · clear QJ w2 w3 qg
    rcases h3 with rfl | rfl | rfl
    all_goals
      dsimp only [restS, tRow, tRow3, bq.cells] at hS
      have hq := hS.eA hw
      dsimp only [List.cons_append, List.nil_append, bp, bY, cS, eN, restS, tRow, tRow3, eb, fw, oK] at hq
      repeat' (first
      | (refine il fun R hR => ?_; simp [ak, au, g1, g5, g6, g8, g9, DR, g11, DQ, HV, g15, h_3, h_6, h_7, GQ, mc, hq, AW.aa, af]; try simp (disch := omega) only [if_pos, if_neg, ak, au])
      | (refine hR _ _ ?_; clear hR R) | (refine hK _ _ ?_; clear hK K) | refine Vt ?_ | refine lr ?_ | refine la ?_
      | (refine EZ fun R hR => ?_; simp [ak, au, g1, g5, g6, g8, g9, DR, g11, DQ, HV, g15, h_3, h_6, h_7, GQ, mc, hq, AW.aa, af]; try simp (disch := omega) only [if_pos, if_neg, ak, au])
      | (refine EF (fun R hR => ?_) (fun R hR => ?_) <;> (simp [ak, au, g1, g5, g6, g8, g9, DR, g11, DQ, HV, g15, h_3, h_6, h_7, GQ, mc, hq, AW.aa, af]; try simp (disch := omega) only [if_pos, if_neg, ak, au]))
      | refine EY ?_
      | refine wn fun K hK => ?_
      | simp only [wS, oSnap_0, oSnap_1]
      | simp only [hN, nC, jt, Option.map_none, Option.map_some, List.getElem?_toArray, List.getElem?_cons_zero, List.getElem?_cons_succ, List.getD_cons_zero, List.getD_cons_succ, Option.bind_some]
      | refine wl Tryz.mx oSnap_0 (by decide +kernel) fun K hK => ?_
      | refine wl Tryz.mx oSnap_1 (by decide +kernel) fun K hK => ?_
      | refine wt (fun _ => True) Tryz.mx [0, 0, 0, 0, 0, 0, 3, 0, 0, 0, 2, 3, 0] (.bu 0 (.bu 1 (.bu 2 (.bu 3 (.bu 4 (.bu 5 (.sC 6 (.bu 7 (.bu 8 (.bu 9 (.bu 10 (.bu 11 (.bu 12 .nil)))))) 10 (.bu 6 (.bu 7 (.bu 8 (.bu 9 (.bu 11 (.bu 12 .nil))))))))))))) (by decide +kernel) fun K hK => ?_
      | (refine bD (w1) ?_; rintro _ _ ⟨rfl, rfl⟩ _ _)
      | refine wb ?_ | refine wr ?_ | refine wk ?_ | refine we ?_ | refine ws ?_ | refine wq ?_
      | (refine wc rfl (fun hc => ?_) (fun hc => ?_) <;> (try simp at hc) <;> (try omega) <;> (try (simp [h2] at hc; done)) <;> (try (simp [h3] at hc; done)) <;> (try (simp [h4] at hc; done)))
      | (refine ib (fun hc => ?_) (fun hc => ?_) <;> (try omega) <;> (try simp (disch := omega) only [if_pos, if_neg])))
      refine ⟨qs.length - (i + 1), by omega, i + 1, m' + 1, updP f _ (some (a, r, s')), upS vs _ vt, upS sn _ snt, upS rd _ d, M', rfl, by omega, by omega, by simp [g1], by simp [g5], by simp [g6], by simp [g8], by simp [g9], by simp [DR], by first | (simp; done) | (simp; omega), ?_, ?_, V7 _ _ _ _ _ _ _ _ ?_⟩
      · repeat' (first | assumption | apply AW.Wf.alloc | apply AW.Wf.set | exact Nat.le_refl _ | (simp only [AW.aZ, AW.dq]; omega) | apply an.uP hS hw | apply ay.z | apply ay.s)
      · rw [fTh_upd]; exact hI3
      dsimp only [restS, tRow, tRow3]
      apply an.cC
      (· repeat' (first | exact hS | exact Nat.le_refl _ | with_reducible apply an.jd | with_reducible apply an.jZ | with_reducible apply AW.gE | with_reducible apply AW.jU | with_reducible apply an.jn | with_reducible apply ay.z | with_reducible apply ay.s | assumption | apply AW.Wf.alloc | apply AW.Wf.set | (simp only [AW.aZ, AW.dq]; omega) | apply an.uP hS hw | exact rfl))
      (· repeat' (first | apply aX.z | apply aX.s | apply ay.z | apply ay.ly | apply ay.qC | apply ay.s))
  by_cases hrw : d < c.aF
  case neg =>
    clear QJ w2 w3 qg
    rcases h3 with rfl | rfl | rfl
    all_goals
      dsimp only [restS, tRow, tRow3, bq.cells] at hS
      have hq := hS.eA hw
      dsimp only [List.cons_append, List.nil_append, bp, bY, cS, eN, restS, tRow, tRow3, eb, fw, oK] at hq
      repeat' (first
      | (refine il fun R hR => ?_; simp [ak, au, g1, g5, g6, g8, g9, DR, g11, DQ, HV, g15, h_3, h_6, h_7, GQ, hrw, mc, hq, AW.aa, af]; try simp (disch := omega) only [if_pos, if_neg, ak, au])
      | (refine hR _ _ ?_; clear hR R) | (refine hK _ _ ?_; clear hK K) | refine Vt ?_ | refine lr ?_ | refine la ?_
      | (refine EZ fun R hR => ?_; simp [ak, au, g1, g5, g6, g8, g9, DR, g11, DQ, HV, g15, h_3, h_6, h_7, GQ, hrw, mc, hq, AW.aa, af]; try simp (disch := omega) only [if_pos, if_neg, ak, au])
      | (refine EF (fun R hR => ?_) (fun R hR => ?_) <;> (simp [ak, au, g1, g5, g6, g8, g9, DR, g11, DQ, HV, g15, h_3, h_6, h_7, GQ, hrw, mc, hq, AW.aa, af]; try simp (disch := omega) only [if_pos, if_neg, ak, au]))
      | refine EY ?_
      | refine wn fun K hK => ?_
      | simp only [wS, oSnap_0, oSnap_1]
      | simp only [hN, nC, jt, Option.map_none, Option.map_some, List.getElem?_toArray, List.getElem?_cons_zero, List.getElem?_cons_succ, List.getD_cons_zero, List.getD_cons_succ, Option.bind_some]
      | refine wl Tryz.mx oSnap_0 (by decide +kernel) fun K hK => ?_
      | refine wl Tryz.mx oSnap_1 (by decide +kernel) fun K hK => ?_
      | refine wt (fun _ => True) Tryz.mx [0, 0, 0, 0, 0, 0, 3, 0, 0, 0, 2, 3, 0] (.bu 0 (.bu 1 (.bu 2 (.bu 3 (.bu 4 (.bu 5 (.sC 6 (.bu 7 (.bu 8 (.bu 9 (.bu 10 (.bu 11 (.bu 12 .nil)))))) 10 (.bu 6 (.bu 7 (.bu 8 (.bu 9 (.bu 11 (.bu 12 .nil))))))))))))) (by decide +kernel) fun K hK => ?_
      | (refine bD (w1) ?_; rintro _ _ ⟨rfl, rfl⟩ _ _)
      | refine wb ?_ | refine wr ?_ | refine wk ?_ | refine we ?_ | refine ws ?_ | refine wq ?_
      | (refine wc rfl (fun hc => ?_) (fun hc => ?_) <;> (try simp at hc) <;> (try omega) <;> (try (simp [h2] at hc; done)) <;> (try (simp [h3] at hc; done)) <;> (try (simp [h4] at hc; done)))
      | (refine ib (fun hc => ?_) (fun hc => ?_) <;> (try omega) <;> (try simp (disch := omega) only [if_pos, if_neg])))
      refine ⟨qs.length - (i + 1), by omega, i + 1, m' + 1, updP f _ (some (a, r, s')), upS vs _ vt, upS sn _ snt, upS rd _ d, M', rfl, by omega, by omega, by simp [g1], by simp [g5], by simp [g6], by simp [g8], by simp [g9], by simp [DR], by first | (simp; done) | (simp; omega), ?_, ?_, V7 _ _ _ _ _ _ _ _ ?_⟩
      · repeat' (first | assumption | apply AW.Wf.alloc | apply AW.Wf.set | exact Nat.le_refl _ | (simp only [AW.aZ, AW.dq]; omega) | apply an.uP hS hw | apply ay.z | apply ay.s)
      · rw [fTh_upd]; exact hI3
      dsimp only [restS, tRow, tRow3]
      apply an.cC
      (· repeat' (first | exact hS | exact Nat.le_refl _ | with_reducible apply an.jd | with_reducible apply an.jZ | with_reducible apply AW.gE | with_reducible apply AW.jU | with_reducible apply an.jn | with_reducible apply ay.z | with_reducible apply ay.s | assumption | apply AW.Wf.alloc | apply AW.Wf.set | (simp only [AW.aZ, AW.dq]; omega) | apply an.uP hS hw | exact rfl))
      (· repeat' (first | apply aX.z | apply aX.s | apply ay.z | apply ay.ly | apply ay.qC | apply ay.s))
  by_cases hbz : s'.Gu = true
  · rw [hbz] at w2
    clear QJ w3 qg
    rcases h3 with rfl | rfl | rfl
    all_goals
      dsimp only [restS, tRow, tRow3, bq.cells] at hS
      have hq := hS.eA hw
      dsimp only [List.cons_append, List.nil_append, bp, bY, cS, eN, restS, tRow, tRow3, eb, fw, oK] at hq
      repeat' (first
      | (refine il fun R hR => ?_; simp [ak, au, g1, g5, g6, g8, g9, DR, g11, DQ, HV, g15, h_3, h_6, h_7, GQ, hrw, mc, hq, AW.aa, af]; try simp (disch := omega) only [if_pos, if_neg, ak, au])
      | (refine hR _ _ ?_; clear hR R) | (refine hK _ _ ?_; clear hK K) | refine Vt ?_ | refine lr ?_ | refine la ?_
      | (refine EZ fun R hR => ?_; simp [ak, au, g1, g5, g6, g8, g9, DR, g11, DQ, HV, g15, h_3, h_6, h_7, GQ, hrw, mc, hq, AW.aa, af]; try simp (disch := omega) only [if_pos, if_neg, ak, au])
      | (refine EF (fun R hR => ?_) (fun R hR => ?_) <;> (simp [ak, au, g1, g5, g6, g8, g9, DR, g11, DQ, HV, g15, h_3, h_6, h_7, GQ, hrw, mc, hq, AW.aa, af]; try simp (disch := omega) only [if_pos, if_neg, ak, au]))
      | refine EY ?_
      | refine wn fun K hK => ?_
      | simp only [wS, oSnap_0, oSnap_1]
      | simp only [hN, nC, jt, Option.map_none, Option.map_some, List.getElem?_toArray, List.getElem?_cons_zero, List.getElem?_cons_succ, List.getD_cons_zero, List.getD_cons_succ, Option.bind_some]
      | refine wl Tryz.mx oSnap_0 (by decide +kernel) fun K hK => ?_
      | refine wl Tryz.mx oSnap_1 (by decide +kernel) fun K hK => ?_
      | refine wt (fun _ => True) Tryz.mx [0, 0, 0, 0, 0, 0, 3, 0, 0, 0, 2, 3, 0] (.bu 0 (.bu 1 (.bu 2 (.bu 3 (.bu 4 (.bu 5 (.sC 6 (.bu 7 (.bu 8 (.bu 9 (.bu 10 (.bu 11 (.bu 12 .nil)))))) 10 (.bu 6 (.bu 7 (.bu 8 (.bu 9 (.bu 11 (.bu 12 .nil))))))))))))) (by decide +kernel) fun K hK => ?_
      | (refine bD (w1) ?_; rintro _ _ ⟨rfl, rfl⟩ _ _)
      | (refine bD (w2) ?_; rintro _ _ ⟨rfl, rfl⟩ _ _)
      | refine wb ?_ | refine wr ?_ | refine wk ?_ | refine we ?_ | refine ws ?_ | refine wq ?_
      | (refine wc rfl (fun hc => ?_) (fun hc => ?_) <;> (try simp at hc) <;> (try omega) <;> (try (simp [h2] at hc; done)) <;> (try (simp [h3] at hc; done)) <;> (try (simp [h4] at hc; done)))
      | (refine ib (fun hc => ?_) (fun hc => ?_) <;> (try omega) <;> (try simp (disch := omega) only [if_pos, if_neg])))
      refine ⟨qs.length - (i + 1), by omega, i + 1, m' + 1, updP f _ (some (a, r, s')), upS vs _ vt, upS sn _ snt, upS rd _ d, M', rfl, by omega, by omega, by simp [g1], by simp [g5], by simp [g6], by simp [g8], by simp [g9], by simp [DR], by first | (simp; done) | (simp; omega), ?_, ?_, V7 _ _ _ _ _ _ _ _ ?_⟩
      · repeat' (first | assumption | apply AW.Wf.alloc | apply AW.Wf.set | exact Nat.le_refl _ | (simp only [AW.aZ, AW.dq]; omega) | apply an.uP hS hw | apply ay.z | apply ay.s)
      · rw [fTh_upd]; exact hI3
      dsimp only [restS, tRow, tRow3]
      apply an.cC
      (· repeat' (first | exact hS | exact Nat.le_refl _ | with_reducible apply an.jd | with_reducible apply an.jZ | with_reducible apply AW.gE | with_reducible apply AW.jU | with_reducible apply an.jn | with_reducible apply ay.z | with_reducible apply ay.s | assumption | apply AW.Wf.alloc | apply AW.Wf.set | (simp only [AW.aZ, AW.dq]; omega) | apply an.uP hS hw | exact rfl))
      (· repeat' (first | apply aX.z | apply aX.s | apply ay.z | apply ay.ly | apply ay.qC | apply ay.s))
  have hbz : s'.Gu = false := by simpa using hbz
  rw [hbz] at w2
  obtain ⟨k1, k2, k3⟩ := QJ GQ hrw hbz
  obtain ⟨dn, jx⟩ : ∃ dn : Nat, d = dn := ⟨d.toNat, by omega⟩
  have Yc : dn < snt.length := by omega
  rw [jx] at k3 hrw
  have TX : s'.value = snt[dn] := by rw [k3, List.getD_eq_getElem?_getD, show ((dn : Int)).toNat = dn from rfl, List.getElem?_eq_getElem Yc]; rfl
  have Yf : ¬ (dn : Int) < 0 := by omega
  have Ye : (dn : Int) < (snt.length : Int) := by omega
  have hd3 : ¬ (snt.length : Int) ≤ (dn : Int) := by omega
  have hI4 := an.gM hS (.s (.s .z))
  obtain ⟨ov, cv, hv, _⟩ := hI4.cL
  rw [hv] at hI4
  obtain ⟨p2, Tq, own2, hov, IK, DM⟩ := hI4.Ku Yc
  rw [hov] at hv
  rw [hv, jx] at hS
  rw [← TX] at DM
  rw [jx] at hI3
  clear QJ k1 k2 k3 qg hI4
  rcases h3 with rfl | rfl | rfl
  all_goals
    dsimp only [restS, tRow, tRow3, bq.cells] at hS
    have hq := hS.eA hw
    dsimp only [List.cons_append, List.nil_append, bp, bY, cS, eN, restS, tRow, tRow3, eb, fw, oK] at hq
    repeat' (first
    | (refine il fun R hR => ?_; simp [ak, au, g1, g5, g6, g8, g9, DR, g11, DQ, HV, g15, h_3, h_6, h_7, GQ, hrw, Yf, Ye, hd3, Yc, IK, DM, mc, hq, AW.aa, af]; try simp (disch := omega) only [if_pos, if_neg, ak, au])
    | (refine hR _ _ ?_; clear hR R) | (refine hK _ _ ?_; clear hK K) | refine Vt ?_ | refine lr ?_ | refine la ?_
    | (refine EZ fun R hR => ?_; simp [ak, au, g1, g5, g6, g8, g9, DR, g11, DQ, HV, g15, h_3, h_6, h_7, GQ, hrw, Yf, Ye, hd3, Yc, IK, DM, mc, hq, AW.aa, af]; try simp (disch := omega) only [if_pos, if_neg, ak, au])
    | (refine EF (fun R hR => ?_) (fun R hR => ?_) <;> (simp [ak, au, g1, g5, g6, g8, g9, DR, g11, DQ, HV, g15, h_3, h_6, h_7, GQ, hrw, Yf, Ye, hd3, Yc, IK, DM, mc, hq, AW.aa, af]; try simp (disch := omega) only [if_pos, if_neg, ak, au]))
    | refine EY ?_
    | refine wn fun K hK => ?_
    | simp only [wS, oSnap_0, oSnap_1]
    | simp only [hN, nC, jt, Option.map_none, Option.map_some, List.getElem?_toArray, List.getElem?_cons_zero, List.getElem?_cons_succ, List.getD_cons_zero, List.getD_cons_succ, Option.bind_some]
    | refine wl Tryz.mx oSnap_0 (by decide +kernel) fun K hK => ?_
    | refine wl Tryz.mx oSnap_1 (by decide +kernel) fun K hK => ?_
    | refine wt (fun _ => True) Tryz.mx [0, 0, 0, 0, 0, 0, 3, 0, 0, 0, 2, 3, 0] (.bu 0 (.bu 1 (.bu 2 (.bu 3 (.bu 4 (.bu 5 (.sC 6 (.bu 7 (.bu 8 (.bu 9 (.bu 10 (.bu 11 (.bu 12 .nil)))))) 10 (.bu 6 (.bu 7 (.bu 8 (.bu 9 (.bu 11 (.bu 12 .nil))))))))))))) (by decide +kernel) fun K hK => ?_
    | (refine bD (w1) ?_; rintro _ _ ⟨rfl, rfl⟩ _ _)
    | (refine bD (w2) ?_; rintro _ _ ⟨rfl, rfl⟩ _ _)
    | (refine bD (w3) ?_; rintro _ _ ⟨rfl, rfl⟩ _ _)
    | refine wb ?_ | refine wr ?_ | refine wk ?_ | refine we ?_ | refine ws ?_ | refine wq ?_
    | (refine wc rfl (fun hc => ?_) (fun hc => ?_) <;> (try simp at hc) <;> (try omega) <;> (try (simp [h2] at hc; done)) <;> (try (simp [h3] at hc; done)) <;> (try (simp [h4] at hc; done)))
    | (refine ib (fun hc => ?_) (fun hc => ?_) <;> (try omega) <;> (try simp (disch := omega) only [if_pos, if_neg])))
    refine ⟨qs.length - (i + 1), by omega, i + 1, m' + 1, updP f _ (some (a, r, s')), upS vs _ (.slice (some p2) snt.length cv), upS sn _ snt, upS rd _ (dn : Int), M', rfl, by omega, by omega, by simp [g1], by simp [g5], by simp [g6], by simp [g8], by simp [g9], by simp [DR], by first | (simp; done) | (simp; omega), ?_, ?_, V7 _ _ _ _ _ _ _ _ ?_⟩
    · repeat' (first | assumption | apply AW.Wf.alloc | apply AW.Wf.set | exact Nat.le_refl _ | (simp only [AW.aZ, AW.dq]; omega) | apply an.uP hS hw | apply ay.z | apply ay.s)
    · rw [fTh_upd]; exact hI3
    dsimp only [restS, tRow, tRow3]
    apply an.cC
    (· repeat' (first | exact hS | exact Nat.le_refl _ | with_reducible apply an.jd | with_reducible apply an.jZ | with_reducible apply AW.gE | with_reducible apply AW.jU | with_reducible apply an.jn | with_reducible apply ay.z | with_reducible apply ay.s | assumption | apply AW.Wf.alloc | apply AW.Wf.set | (simp only [AW.aZ, AW.dq]; omega) | apply an.uP hS hw | exact rfl))
    (· repeat' (first | apply aX.z | apply aX.s | apply ay.z | apply ay.ly | apply ay.qC | apply ay.s))

end Go.Stx
