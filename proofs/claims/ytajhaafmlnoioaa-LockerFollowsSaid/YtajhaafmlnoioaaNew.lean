/-
  The program's cells, made anew.
-/
import Derived.Test.YtajhaafmlnoioaaImage
import Derived.Test.YtajhaafmlnoioaaLockD
import Derived.Test.YtajhaafmlnoioaaCoreB
namespace Go.Stx
open Go Go.Proofs
attribute [local irreducible] AWP LWalk ACall ARounds lops nops
set_option linter.unusedVariables false
set_option linter.unusedSimpArgs false

namespace NewR
def rOf : Value → Nat
  | .map (some r) => r
  | _ => 0
def bOf : Value → Nat
  | .pointer (some p) => p.block
  | _ => 0
def r25 : Value → Nat
  | .agg cs => rOf (cs.getD 0 undef)
  | _ => 0
def pc (b : Bool) (P : HP) : HP := if b = true then P else hemp
def fS (S : Nat → Bool) (val : Nat → Value) (vh vn : Value) (key : Int) : Option Value :=
  if key = 1 then (if S 6 = true ∧ S 5 = true then some (val 5) else none)
  else if key = 2 then (if S 10 = true ∧ S 9 = true then some (val 9) else none)
  else if key = 3 then (if S 12 = true ∧ S 11 = true then some (val 11) else none)
  else if key = 4 then (if S 14 = true ∧ S 13 = true then some (val 13) else none)
  else if key = 5 then (if S 16 = true ∧ S 15 = true then some (val 15) else none)
  else if key = 6 then (if S 19 = true ∧ S 18 = true then some (val 18) else none)
  else if key = 7 then (if S 21 = true then some vh else none)
  else if key = 8 then (if S 23 = true then some vn else none) else none
def mapP (S : Nat → Bool) (val : Nat → Value) (vh vn : Value) : HP :=
  if S 26 = true then hex fun r => pt (bOf (val 26)) (.cells [.map (some r)] true 1) * MapI .i64 r (fS S val vh vn)
  else if S 25 = true then MapI .i64 (r25 (val 25)) (fS S val vh vn)
  else if S 24 = true then MapI .i64 (rOf (val 24)) (fS S val vh vn)
  else if S 0 = true then MapI .i64 (rOf (val 0)) (fS S val vh vn) else hemp
def dataP (S : Nat → Bool) (val : Nat → Value) (init : List Int) (nn : Nat) : HP :=
  if S 5 = true then IntsH .u64 (val 5) (init ++ List.replicate nn 0) else if S 2 = true then IntsH .u64 (val 2) init else hemp
def G (init : List Int) (nn no nt : Nat) (vh vn : Value) (B : HP) (S : Nat → Bool) (val : Nat → Value) : HP :=
  mapP S val vh vn * (dataP S val init nn * (pc (S 9) (IntsH .u64 (val 9) (List.replicate no 0)) * (pc (S 11) (IntsH .u64 (val 11) (List.replicate 1 0)) * (pc (S 13) (IntsH .u64 (val 13) (List.replicate 1 0)) *
    (pc (S 15) (IntsH .u64 (val 15) (List.replicate 1 0)) * (pc (S 18) (IntsH .u64 (val 18) (List.replicate nt 0)) * B))))))
def phi (vi vh vn : Value) (cb nn no nt : Nat) (j : Nat) (val : Nat → Value) : Prop :=
  match j with
  | 0 => ∃ r, val 0 = .map (some r)
  | 1 => val 1 = vi
  | 3 => val 3 = vn
  | 4 => val 4 = .int .i64 (nn : Int)
  | 7 => val 7 = .pointer (some ⟨cb, 1, none⟩)
  | 8 => val 8 = .int .i64 (no : Int)
  | 17 => val 17 = .int .i64 (nt : Int)
  | 20 => val 20 = vh
  | 22 => val 22 = vn
  | 24 => ∃ r, val 24 = .map (some r)
  | 25 => ∃ r, val 25 = .agg #[.map (some r)]
  | 26 => ∃ b, val 26 = .pointer (some ⟨b, 0, none⟩)
  | 27 => val 27 = val 26
  | 28 => val 28 = .int .i64 0
  | _ => True
theorem G_congr {init : List Int} {nn no nt : Nat} {vh vn : Value} {B : HP} {S S' : Nat → Bool} {val val' : Nat → Value} (hm : mapP S' val' vh vn = mapP S val vh vn) (hd : dataP S' val' init nn = dataP S val init nn)
    (h : ∀ k, k = 9 ∨ k = 11 ∨ k = 13 ∨ k = 15 ∨ k = 18 → S' k = S k ∧ (S k = true → val' k = val k)) : G init nn no nt vh vn B S' val' = G init nn no nt vh vn B S val := by
  have key : ∀ k n, k = 9 ∨ k = 11 ∨ k = 13 ∨ k = 15 ∨ k = 18 → pc (S' k) (IntsH .u64 (val' k) (List.replicate n 0)) = pc (S k) (IntsH .u64 (val k) (List.replicate n 0)) := fun k n hk => by
    obtain ⟨h1, h2⟩ := h k hk
    unfold pc
    rw [h1]
    split
    · rename_i e; rw [h2 e]
    · rfl
  unfold G
  rw [hm, hd, key 9 no (by simp), key 11 1 (by simp), key 13 1 (by simp), key 15 1 (by simp), key 18 nt (by simp)]
end NewR

set_option maxRecDepth 100000 in
set_option maxHeartbeats 4000000 in
theorem new_cfg (nt : Nat) (vi : Value) (init : List Int) (A : AW) (F R : HP) (hR : ∀ (A : AW) (F : HP), Sat A (R * F) → IsInts A .u64 vi init) (hw : A.Wf) (hS : Sat A (R * F)) (h1 : 1 ≤ nt) (h16 : nt ≤ 16) (hi : init.length = 6) :
    ACall Try.prog 40 [cfgV, .int .i64 (nt : Int), vi] A (fun v A' => ∃ pb, v = .tuple #[.pointer (some ⟨pb, 0, none⟩), .int .i64 0] ∧
      Sat A' (MemH pb (fun k => if k = 0 then init else if k = 1 then List.replicate 6 0 else if k = 5 then List.replicate nt 0 else if k = 6 then [0, 0, 0, 0] else if k = 7 then [] else [0]) * (R * F))) := by
  refine acall_intro Try.func40 rfl (by kernel_rfl) fun _ => ?_
  obtain ⟨oi, ci, rfl, _⟩ := (hR A F hS).form
  have hnt : ¬ (nt : Int) < 1 := by omega
  have hnt2 : ¬ (16 : Int) < nt := by omega
  repeat' (first
  | (refine lwc fun R hR => ?_; simp [wrap_i64, wrap_u64, AW.row_get, astore, hnt, hnt2, hi]; try simp (disch := omega) only [if_pos, if_neg, wrap_i64, wrap_u64])
  | (refine hR _ _ ?_; clear hR R) | (refine hK _ _ ?_; clear hK K) | refine lwn ?_ | refine lr ?_ | refine la ?_
  | refine wn fun K hK => ?_
  | simp only [nops, nop, lops, lop, slimG, List.map_cons, List.map_nil, List.filterMap_cons, List.filterMap_nil, Option.map_none, Option.map_some, List.getElem?_toArray, List.getElem?_cons_zero, List.getElem?_cons_succ, Option.bind_some]
  | (refine callK (check_cfg _) ?_; rintro _ _ ⟨rfl, rfl⟩ _ _)
  | refine wb ?_ | refine wr ?_ | refine wk ?_ | refine we ?_ | refine ws ?_ | refine wq ?_
  | ((refine wc rfl (fun hc => ?_) (fun hc => ?_)) <;> (try simp at hc) <;> (try omega))
  | ((refine ib (fun hc => ?_) (fun hc => ?_)) <;> (try omega) <;> (try simp (disch := omega) only [if_pos, if_neg])))
  have hcv : Value.agg (List.take 13 cfgV.cells.toList).toArray = cfgV := rfl
  rw [hcv]
  have hw1 := hw.alloc (.cells cfgV.cells.toList true 1)
  refine callK (lists_cfg _ _ hw1 (hS.alloc hw _)) ?_
  rintro v A2 ⟨vh, vn, rfl, hS2⟩ hw2 _
  repeat (first | (refine hR _ _ ?_; clear hR R) | (refine lwc (fun R hR => ?_); simp) | refine lwn ?_ | (refine hK _ _ ?_; clear hK K))
  have hvnf : ∃ o c, vn = .slice o 0 c := by
    obtain ⟨o, c, h, _⟩ := (IntsH.is hS2.right).form
    exact ⟨o, c, h⟩
  obtain ⟨B, hB⟩ : ∃ B, B = IntsH .u64 vh [0, 0, 0, 0] * (IntsH .u64 vn [] * (pt A.next (.cells cfgV.cells.toList true 1) * (R * F))) := ⟨_, rfl⟩
  obtain ⟨B, hB⟩ : ∃ B, B = IntsH .u64 vh [0, 0, 0, 0] * (IntsH .u64 vn [] * (pt A.next (.cells cfgV.cells.toList true 1) * (R * F))) := ⟨_, rfl⟩
  refine awp_seq (awp_mix' (by kernel_rfl) (by decide +kernel) (NewR.G init 0 6 nt vh vn B) (NewR.phi (.slice oi 6 ci) vh vn A.next 0 6 nt) ?_ ?_ ?_ ?_ ?_)
  · intro S i val v hc hi
    have c6 := hc 6 5 (by decide +kernel)
    have c10 := hc 10 9 (by decide +kernel)
    have c12 := hc 12 11 (by decide +kernel)
    have c14 := hc 14 13 (by decide +kernel)
    have c16 := hc 16 15 (by decide +kernel)
    have c19 := hc 19 18 (by decide +kernel)
    have hv : ∀ k, S k = true → updV val i v k = val k := fun k hk => by
      have : k ≠ i := fun e => by rw [e, hi] at hk; cases hk
      simp [updV, this]
    have hfs : NewR.fS S (updV val i v) vh vn = NewR.fS S val vh vn := by
      funext key
      unfold NewR.fS
      have e : ∀ p k, (S p = true → S k = true) → (if S p = true ∧ S k = true then some (updV val i v k) else none) = if S p = true ∧ S k = true then some (val k) else none := fun p k _ => by
        split
        · rename_i h; rw [hv k h.2]
        · rfl
      rw [e 6 5 c6, e 10 9 c10, e 12 11 c12, e 14 13 c14, e 16 15 c16, e 19 18 c19]
    refine NewR.G_congr ?_ ?_ (fun k _ => ⟨rfl, hv k⟩)
    · unfold NewR.mapP
      rw [hfs]
      split
      · rename_i h; rw [hv 26 h]
      · split
        · rename_i h; rw [hv 25 h]
        · split
          · rename_i h; rw [hv 24 h]
          · split
            · rename_i h; rw [hv 0 h]
            · rfl
    · unfold NewR.dataP
      split
      · rename_i h; rw [hv 5 h]
      · split
        · rename_i h; rw [hv 2 h]
        · rfl
  · intro S i j val v hc hi hj
    have c27 := hc 27 26 (by decide +kernel)
    have hv : ∀ k, S k = true → updV val i v k = val k := fun k hk => by
      have : k ≠ i := fun e => by rw [e, hi] at hk; cases hk
      simp [updV, this]
    have hvj := hv j hj
    unfold NewR.phi
    split <;> intro h <;> first | (rw [hvj, hv 26 (c27 hj)]; exact h) | (simp only [hvj]; exact h) | trivial
  · intro val
    have e : NewR.G init 0 6 nt vh vn B (fun _ => false) val = B := by
      simp [NewR.G, NewR.mapP, NewR.dataP, NewR.pc, hemp_mul]
    rw [e, hB]
    exact hS2
  · intro i hlt S val a A3 hSi hdep hst hw3 hs
    have o1 : a 1 = .int .i64 (nt : Int) := by rw [hst.old 1 (by decide +kernel)]; simp
    have o2 : a 2 = .slice oi 6 ci := by rw [hst.old 2 (by decide +kernel)]; simp
    have o3 : a 3 = .pointer (some ⟨A.next, 0, none⟩) := by rw [hst.old 3 (by decide +kernel)]; simp
    have o9 : a 9 = vh := by rw [hst.old 9 (by decide +kernel)]; simp
    have o10 : a 10 = vn := by rw [hst.old 10 (by decide +kernel)]; simp
    have nofact : ∀ k j, edgeB _ k j = true → S j = false → S k = false := fun k j h hj => by
      cases hk : S k
      · rfl
      · have := hst.closed k j h hk
        rw [hj] at this
        cases this
    have hBs : Sat A3 (B * (NewR.mapP S val vh vn * (NewR.dataP S val init 0 * (NewR.pc (S 9) (IntsH .u64 (val 9) (List.replicate 6 0)) * (NewR.pc (S 11) (IntsH .u64 (val 11) (List.replicate 1 0)) * (NewR.pc (S 13) (IntsH .u64 (val 13) (List.replicate 1 0)) *
      (NewR.pc (S 15) (IntsH .u64 (val 15) (List.replicate 1 0)) * NewR.pc (S 18) (IntsH .u64 (val 18) (List.replicate nt 0))))))))) := hs.cast (by unfold NewR.G; ac_rfl)
    obtain h | h | h | h | h | h | h | h | h | h | h | h | h | h | h | h | h | h | h | h | h | h | h | h | h | h | h | h | h : i = 0 ∨ i = 1 ∨ i = 2 ∨ i = 3 ∨ i = 4 ∨ i = 5 ∨ i = 6 ∨ i = 7 ∨ i = 8 ∨ i = 9 ∨ i = 10 ∨ i = 11 ∨ i = 12 ∨ i = 13 ∨ i = 14 ∨ i = 15 ∨ i = 16 ∨ i = 17 ∨ i = 18 ∨ i = 19 ∨ i = 20 ∨ i = 21 ∨ i = 22 ∨ i = 23 ∨ i = 24 ∨ i = 25 ∨ i = 26 ∨ i = 27 ∨ i = 28 := by
      have : i < 29 := hlt
      omega
    all_goals subst h
    · -- 0
      have s24 := nofact 24 0 (by decide +kernel) hSi
      have s25 := nofact 25 24 (by decide +kernel) s24
      have s26 := nofact 26 25 (by decide +kernel) s25
      have s6 := nofact 6 0 (by decide +kernel) hSi
      have s10 := nofact 10 0 (by decide +kernel) hSi
      have s12 := nofact 12 0 (by decide +kernel) hSi
      have s14 := nofact 14 0 (by decide +kernel) hSi
      have s16 := nofact 16 0 (by decide +kernel) hSi
      have s19 := nofact 19 0 (by decide +kernel) hSi
      have s21 := nofact 21 0 (by decide +kernel) hSi
      have s23 := nofact 23 0 (by decide +kernel) hSi
      have hk : NewR.G init 0 6 nt vh vn B (setL S 0) (updV val 0 (.map (some A3.next))) = MapI .i64 A3.next (fun _ => none) * NewR.G init 0 6 nt vh vn B S val := by
        have hf : NewR.fS (setL S 0) (updV val 0 (.map (some A3.next))) vh vn = fun _ => none := by funext key; simp [NewR.fS, setL, s6, s10, s12, s14, s16, s19, s21, s23]
        simp [NewR.G, NewR.mapP, NewR.dataP, NewR.pc, hf]
        simp [setL, updV, s24, s25, s26, hSi, NewR.rOf, hemp_mul]
      simp [opAt, hk]
      exact ⟨⟨A3.next, by simp [updV]⟩, MapI.new hs hw3⟩
    · -- 1
      have hk : ∀ v, NewR.G init 0 6 nt vh vn B (setL S 1) (updV val 1 v) = NewR.G init 0 6 nt vh vn B S val := fun v => by
        have hf : NewR.fS (setL S 1) (updV val 1 v) vh vn = NewR.fS S val vh vn := by funext key; simp [NewR.fS, setL, updV]
        simp [NewR.G, NewR.mapP, NewR.dataP, NewR.pc, hf]
        simp [setL, updV]
      simp [opAt, o2, hk]
      first | exact ⟨by simp [NewR.phi, updV], hs⟩ | (simp [NewR.phi, updV]; exact hs)
    · -- 2
      have s5 := nofact 5 2 (by decide +kernel) hSi
      have v1 : a 33 = .slice oi 6 ci := by rw [hst.slot 1 33 (by decide +kernel) (hdep 1 (by decide +kernel))]; exact hst.fact 1 (hdep 1 (by decide +kernel))
      have hin : IsInts A3 .u64 (.slice oi 6 ci) init := by
        have h' := hBs.left
        rw [hB] at h'
        have := hR A3 _ h'.right.right.right
        rw [hi] at this
        exact this
      have hk : ∀ v, NewR.G init 0 6 nt vh vn B (setL S 2) (updV val 2 v) = IntsH .u64 v init * NewR.G init 0 6 nt vh vn B S val := fun v => by
        have hf : NewR.fS (setL S 2) (updV val 2 v) vh vn = NewR.fS S val vh vn := by funext key; simp [NewR.fS, setL, updV]
        simp [NewR.G, NewR.mapP, NewR.dataP, NewR.pc, hf]
        simp [setL, updV, s5, hSi, hemp_mul]
        ac_rfl
      simp [opAt, v1]
      refine callK (cloneU_call _ init A3 hin (by omega)) ?_
      rintro v A4 ⟨h1, h2⟩ _ _
      refine ⟨trivial, ?_⟩
      rw [hk]
      exact IntsH.of_own hs hw3 h2 h1
    · -- 3
      have hk : ∀ v, NewR.G init 0 6 nt vh vn B (setL S 3) (updV val 3 v) = NewR.G init 0 6 nt vh vn B S val := fun v => by
        have hf : NewR.fS (setL S 3) (updV val 3 v) vh vn = NewR.fS S val vh vn := by funext key; simp [NewR.fS, setL, updV]
        simp [NewR.G, NewR.mapP, NewR.dataP, NewR.pc, hf]
        simp [setL, updV]
      simp [opAt, o10, hk]
      first | exact ⟨by simp [NewR.phi, updV], hs⟩ | (simp [NewR.phi, updV]; exact hs)
    · -- 4
      have hk : ∀ v, NewR.G init 0 6 nt vh vn B (setL S 4) (updV val 4 v) = NewR.G init 0 6 nt vh vn B S val := fun v => by
        have hf : NewR.fS (setL S 4) (updV val 4 v) vh vn = NewR.fS S val vh vn := by funext key; simp [NewR.fS, setL, updV]
        simp [NewR.G, NewR.mapP, NewR.dataP, NewR.pc, hf]
        simp [setL, updV]
      have v4 : a 35 = vn := by rw [hst.slot 3 35 (by decide +kernel) (hdep 3 (by decide +kernel))]; exact hst.fact 3 (hdep 3 (by decide +kernel))
      obtain ⟨on, cn, hvn⟩ := hvnf
      rw [hvn] at v4
      simp [opAt, v4]
      exact ⟨by simp [NewR.phi, updV], by rw [hk]; exact hs⟩
    · -- 5
      have s6 := nofact 6 5 (by decide +kernel) hSi
      have s2 := hdep 2 (by decide +kernel)
      have v2 : a 34 = val 2 := hst.slot 2 34 (by decide +kernel) s2
      have v4 : a 36 = .int .i64 ((0 : Nat) : Int) := by rw [hst.slot 4 36 (by decide +kernel) (hdep 4 (by decide +kernel))]; exact hst.fact 4 (hdep 4 (by decide +kernel))
      obtain ⟨X, hX⟩ : ∃ X, NewR.G init 0 6 nt vh vn B S val = IntsH .u64 (val 2) init * X ∧ ∀ v, NewR.G init 0 6 nt vh vn B (setL S 5) (updV val 5 v) = IntsH .u64 v (init ++ List.replicate 0 0) * X := by
        refine ⟨NewR.mapP S val vh vn * (NewR.pc (S 9) (IntsH .u64 (val 9) (List.replicate 6 0)) * (NewR.pc (S 11) (IntsH .u64 (val 11) (List.replicate 1 0)) * (NewR.pc (S 13) (IntsH .u64 (val 13) (List.replicate 1 0)) *
          (NewR.pc (S 15) (IntsH .u64 (val 15) (List.replicate 1 0)) * (NewR.pc (S 18) (IntsH .u64 (val 18) (List.replicate nt 0)) * B))))), ?_, fun v => ?_⟩
        · simp only [NewR.G, NewR.dataP, hSi, s2, if_true, Bool.false_eq_true, if_false]
          ac_rfl
        · have hf : NewR.fS (setL S 5) (updV val 5 v) vh vn = NewR.fS S val vh vn := by funext key; simp [NewR.fS, setL, updV, s6]
          simp only [NewR.G, NewR.mapP, NewR.dataP, NewR.pc, hf]
          simp only [setL, updV, Nat.reduceEqDiff, if_true, if_false]
          ac_rfl
      rw [hX.1] at hs
      obtain ⟨v', A4, e1, e2, e3⟩ := IntsH.appendZ (P := Try.prog) (t := 57) (u := 3) (kq := .i64) 0 Try.underlying57 Try.underlying3 Try.info38 Try.zero38 rfl hs (by omega) (by simp) hw3
      simp [opAt, v2, v4]
      simp at e1
      simp [e1]
      rw [hX.2]
      exact ⟨trivial, e2⟩
    · -- 6
      have s24 := nofact 24 6 (by decide +kernel) hSi
      have s25 := nofact 25 24 (by decide +kernel) s24
      have s26 := nofact 26 25 (by decide +kernel) s25
      have s0 := hdep 0 (by decide +kernel)
      have sp := hdep 5 (by decide +kernel)
      obtain ⟨r, hr⟩ := hst.fact 0 s0
      have v0 : a 32 = .map (some r) := by rw [hst.slot 0 32 (by decide +kernel) s0]; exact hr
      have vx : a 37 = val 5 := hst.slot 5 37 (by decide +kernel) sp
      obtain ⟨X, hX1, hX2⟩ : ∃ X, NewR.G init 0 6 nt vh vn B S val = MapI .i64 r (NewR.fS S val vh vn) * X ∧ ∀ v, NewR.G init 0 6 nt vh vn B (setL S 6) (updV val 6 v) = MapI .i64 r (updI (NewR.fS S val vh vn) 1 (val 5)) * X := by
        refine ⟨(NewR.dataP S val init 0 * (NewR.pc (S 9) (IntsH .u64 (val 9) (List.replicate 6 0)) * (NewR.pc (S 11) (IntsH .u64 (val 11) (List.replicate 1 0)) * (NewR.pc (S 13) (IntsH .u64 (val 13) (List.replicate 1 0)) *
          (NewR.pc (S 15) (IntsH .u64 (val 15) (List.replicate 1 0)) * (NewR.pc (S 18) (IntsH .u64 (val 18) (List.replicate nt 0)) * B)))))), ?_, fun v => ?_⟩
        · simp only [NewR.G, NewR.mapP, s26, s25, s24, s0, hr, NewR.rOf, if_true, Bool.false_eq_true, if_false]
        · have hf : NewR.fS (setL S 6) (updV val 6 v) vh vn = updI (NewR.fS S val vh vn) 1 (val 5) := by
            funext key
            simp only [NewR.fS, setL, updV, updI, Nat.reduceEqDiff, if_true, if_false]
            by_cases hkey : key = 1
            · subst hkey; simp [sp]
            · simp [hkey]
          simp only [NewR.G, NewR.mapP, NewR.dataP, NewR.pc, hf]
          simp only [setL, updV, s26, s25, s24, s0, hr, NewR.rOf, Nat.reduceEqDiff, if_true, if_false, Bool.false_eq_true]
      rw [hX1] at hs
      obtain ⟨A4, e1, e2, _⟩ := MapI.update (P := Try.prog) (t := 99) hs Try.underlying99 Try.underlying3 1 (val 5)
      simp [-amapUpdate, opAt, v0, vx, e1]
      rw [hX2]
      exact ⟨trivial, e2⟩
    · -- 7
      have hk : ∀ v, NewR.G init 0 6 nt vh vn B (setL S 7) (updV val 7 v) = NewR.G init 0 6 nt vh vn B S val := fun v => by
        have hf : NewR.fS (setL S 7) (updV val 7 v) vh vn = NewR.fS S val vh vn := by funext key; simp [NewR.fS, setL, updV]
        simp [NewR.G, NewR.mapP, NewR.dataP, NewR.pc, hf]
        simp [setL, updV]
      simp [opAt, o3, hk]
      first | exact ⟨by simp [NewR.phi, updV], hs⟩ | (simp [NewR.phi, updV]; exact hs)
    · -- 8
      have hk : ∀ v, NewR.G init 0 6 nt vh vn B (setL S 8) (updV val 8 v) = NewR.G init 0 6 nt vh vn B S val := fun v => by
        have hf : NewR.fS (setL S 8) (updV val 8 v) vh vn = NewR.fS S val vh vn := by funext key; simp [NewR.fS, setL, updV]
        simp [NewR.G, NewR.mapP, NewR.dataP, NewR.pc, hf]
        simp [setL, updV]
      have v8 : a 38 = .pointer (some ⟨A.next, 1, none⟩) := by rw [hst.slot 7 38 (by decide +kernel) (hdep 7 (by decide +kernel))]; exact hst.fact 7 (hdep 7 (by decide +kernel))
      have hgc : A3.get A.next = some (.cells cfgV.cells.toList true 1) := by
        have h' := hBs.left
        rw [hB] at h'
        exact h'.right.right.get
      simp [opAt, v8, hgc, cfgV, AW.row_get, hk]
      first | exact ⟨by simp [NewR.phi, updV], hs⟩ | (simp [NewR.phi, updV]; exact hs)
    · -- 9
      have sI := nofact 10 9 (by decide +kernel) hSi
      have vd : a 39 = .int .i64 ((6 : Nat) : Int) := by rw [hst.slot 8 39 (by decide +kernel) (hdep 8 (by decide +kernel))]; exact hst.fact 8 (hdep 8 (by decide +kernel))
      have hk : ∀ v, NewR.G init 0 6 nt vh vn B (setL S 9) (updV val 9 v) = IntsH .u64 v (List.replicate 6 0) * NewR.G init 0 6 nt vh vn B S val := fun v => by
        have hf : NewR.fS (setL S 9) (updV val 9 v) vh vn = NewR.fS S val vh vn := by funext key; simp [NewR.fS, setL, updV, sI]
        simp only [NewR.G, NewR.mapP, NewR.dataP, NewR.pc, hf]
        simp only [setL, updV, hSi, Nat.reduceEqDiff, if_true, if_false, Bool.false_eq_true, hemp_mul]
        ac_rfl
      obtain ⟨v', A4, e1, e2, e3, _⟩ := IntsH.make (P := Try.prog) (t := 57) (k1 := .i64) (k2 := .i64) 6 Try.underlying57 Try.info38 Try.zero38 rfl (by simp) (by omega) hs hw3
      have e1' : amake Try.prog A3 57 (.int .i64 6) (.int .i64 6) = some (v', A4) := e1
      simp [-amake, opAt, vd, e1']
      rw [hk]
      exact ⟨trivial, e2⟩
    · -- 10
      have s24 := nofact 24 10 (by decide +kernel) hSi
      have s25 := nofact 25 24 (by decide +kernel) s24
      have s26 := nofact 26 25 (by decide +kernel) s25
      have s0 := hdep 0 (by decide +kernel)
      have sp := hdep 9 (by decide +kernel)
      obtain ⟨r, hr⟩ := hst.fact 0 s0
      have v0 : a 32 = .map (some r) := by rw [hst.slot 0 32 (by decide +kernel) s0]; exact hr
      have vx : a 40 = val 9 := hst.slot 9 40 (by decide +kernel) sp
      obtain ⟨X, hX1, hX2⟩ : ∃ X, NewR.G init 0 6 nt vh vn B S val = MapI .i64 r (NewR.fS S val vh vn) * X ∧ ∀ v, NewR.G init 0 6 nt vh vn B (setL S 10) (updV val 10 v) = MapI .i64 r (updI (NewR.fS S val vh vn) 2 (val 9)) * X := by
        refine ⟨(NewR.dataP S val init 0 * (NewR.pc (S 9) (IntsH .u64 (val 9) (List.replicate 6 0)) * (NewR.pc (S 11) (IntsH .u64 (val 11) (List.replicate 1 0)) * (NewR.pc (S 13) (IntsH .u64 (val 13) (List.replicate 1 0)) *
          (NewR.pc (S 15) (IntsH .u64 (val 15) (List.replicate 1 0)) * (NewR.pc (S 18) (IntsH .u64 (val 18) (List.replicate nt 0)) * B)))))), ?_, fun v => ?_⟩
        · simp only [NewR.G, NewR.mapP, s26, s25, s24, s0, hr, NewR.rOf, if_true, Bool.false_eq_true, if_false]
        · have hf : NewR.fS (setL S 10) (updV val 10 v) vh vn = updI (NewR.fS S val vh vn) 2 (val 9) := by
            funext key
            simp only [NewR.fS, setL, updV, updI, Nat.reduceEqDiff, if_true, if_false]
            by_cases hkey : key = 2
            · subst hkey; simp [sp]
            · simp [hkey]
          simp only [NewR.G, NewR.mapP, NewR.dataP, NewR.pc, hf]
          simp only [setL, updV, s26, s25, s24, s0, hr, NewR.rOf, Nat.reduceEqDiff, if_true, if_false, Bool.false_eq_true]
      rw [hX1] at hs
      obtain ⟨A4, e1, e2, _⟩ := MapI.update (P := Try.prog) (t := 99) hs Try.underlying99 Try.underlying3 2 (val 9)
      simp [-amapUpdate, opAt, v0, vx, e1]
      rw [hX2]
      exact ⟨trivial, e2⟩
    · -- 11
      have sI := nofact 12 11 (by decide +kernel) hSi
      have hk : ∀ v, NewR.G init 0 6 nt vh vn B (setL S 11) (updV val 11 v) = IntsH .u64 v (List.replicate 1 0) * NewR.G init 0 6 nt vh vn B S val := fun v => by
        have hf : NewR.fS (setL S 11) (updV val 11 v) vh vn = NewR.fS S val vh vn := by funext key; simp [NewR.fS, setL, updV, sI]
        simp only [NewR.G, NewR.mapP, NewR.dataP, NewR.pc, hf]
        simp only [setL, updV, hSi, Nat.reduceEqDiff, if_true, if_false, Bool.false_eq_true, hemp_mul]
        ac_rfl
      obtain ⟨v', A4, e1, e2, e3, _⟩ := IntsH.make (P := Try.prog) (t := 57) (k1 := .i64) (k2 := .i64) 1 Try.underlying57 Try.info38 Try.zero38 rfl (by simp) (by omega) hs hw3
      have e1' : amake Try.prog A3 57 (.int .i64 1) (.int .i64 1) = some (v', A4) := e1
      simp [-amake, opAt, e1']
      rw [hk]
      exact ⟨trivial, e2⟩
    · -- 12
      have s24 := nofact 24 12 (by decide +kernel) hSi
      have s25 := nofact 25 24 (by decide +kernel) s24
      have s26 := nofact 26 25 (by decide +kernel) s25
      have s0 := hdep 0 (by decide +kernel)
      have sp := hdep 11 (by decide +kernel)
      obtain ⟨r, hr⟩ := hst.fact 0 s0
      have v0 : a 32 = .map (some r) := by rw [hst.slot 0 32 (by decide +kernel) s0]; exact hr
      have vx : a 41 = val 11 := hst.slot 11 41 (by decide +kernel) sp
      obtain ⟨X, hX1, hX2⟩ : ∃ X, NewR.G init 0 6 nt vh vn B S val = MapI .i64 r (NewR.fS S val vh vn) * X ∧ ∀ v, NewR.G init 0 6 nt vh vn B (setL S 12) (updV val 12 v) = MapI .i64 r (updI (NewR.fS S val vh vn) 3 (val 11)) * X := by
        refine ⟨(NewR.dataP S val init 0 * (NewR.pc (S 9) (IntsH .u64 (val 9) (List.replicate 6 0)) * (NewR.pc (S 11) (IntsH .u64 (val 11) (List.replicate 1 0)) * (NewR.pc (S 13) (IntsH .u64 (val 13) (List.replicate 1 0)) *
          (NewR.pc (S 15) (IntsH .u64 (val 15) (List.replicate 1 0)) * (NewR.pc (S 18) (IntsH .u64 (val 18) (List.replicate nt 0)) * B)))))), ?_, fun v => ?_⟩
        · simp only [NewR.G, NewR.mapP, s26, s25, s24, s0, hr, NewR.rOf, if_true, Bool.false_eq_true, if_false]
        · have hf : NewR.fS (setL S 12) (updV val 12 v) vh vn = updI (NewR.fS S val vh vn) 3 (val 11) := by
            funext key
            simp only [NewR.fS, setL, updV, updI, Nat.reduceEqDiff, if_true, if_false]
            by_cases hkey : key = 3
            · subst hkey; simp [sp]
            · simp [hkey]
          simp only [NewR.G, NewR.mapP, NewR.dataP, NewR.pc, hf]
          simp only [setL, updV, s26, s25, s24, s0, hr, NewR.rOf, Nat.reduceEqDiff, if_true, if_false, Bool.false_eq_true]
      rw [hX1] at hs
      obtain ⟨A4, e1, e2, _⟩ := MapI.update (P := Try.prog) (t := 99) hs Try.underlying99 Try.underlying3 3 (val 11)
      simp [-amapUpdate, opAt, v0, vx, e1]
      rw [hX2]
      exact ⟨trivial, e2⟩
    · -- 13
      have sI := nofact 14 13 (by decide +kernel) hSi
      have hk : ∀ v, NewR.G init 0 6 nt vh vn B (setL S 13) (updV val 13 v) = IntsH .u64 v (List.replicate 1 0) * NewR.G init 0 6 nt vh vn B S val := fun v => by
        have hf : NewR.fS (setL S 13) (updV val 13 v) vh vn = NewR.fS S val vh vn := by funext key; simp [NewR.fS, setL, updV, sI]
        simp only [NewR.G, NewR.mapP, NewR.dataP, NewR.pc, hf]
        simp only [setL, updV, hSi, Nat.reduceEqDiff, if_true, if_false, Bool.false_eq_true, hemp_mul]
        ac_rfl
      obtain ⟨v', A4, e1, e2, e3, _⟩ := IntsH.make (P := Try.prog) (t := 57) (k1 := .i64) (k2 := .i64) 1 Try.underlying57 Try.info38 Try.zero38 rfl (by simp) (by omega) hs hw3
      have e1' : amake Try.prog A3 57 (.int .i64 1) (.int .i64 1) = some (v', A4) := e1
      simp [-amake, opAt, e1']
      rw [hk]
      exact ⟨trivial, e2⟩
    · -- 14
      have s24 := nofact 24 14 (by decide +kernel) hSi
      have s25 := nofact 25 24 (by decide +kernel) s24
      have s26 := nofact 26 25 (by decide +kernel) s25
      have s0 := hdep 0 (by decide +kernel)
      have sp := hdep 13 (by decide +kernel)
      obtain ⟨r, hr⟩ := hst.fact 0 s0
      have v0 : a 32 = .map (some r) := by rw [hst.slot 0 32 (by decide +kernel) s0]; exact hr
      have vx : a 42 = val 13 := hst.slot 13 42 (by decide +kernel) sp
      obtain ⟨X, hX1, hX2⟩ : ∃ X, NewR.G init 0 6 nt vh vn B S val = MapI .i64 r (NewR.fS S val vh vn) * X ∧ ∀ v, NewR.G init 0 6 nt vh vn B (setL S 14) (updV val 14 v) = MapI .i64 r (updI (NewR.fS S val vh vn) 4 (val 13)) * X := by
        refine ⟨(NewR.dataP S val init 0 * (NewR.pc (S 9) (IntsH .u64 (val 9) (List.replicate 6 0)) * (NewR.pc (S 11) (IntsH .u64 (val 11) (List.replicate 1 0)) * (NewR.pc (S 13) (IntsH .u64 (val 13) (List.replicate 1 0)) *
          (NewR.pc (S 15) (IntsH .u64 (val 15) (List.replicate 1 0)) * (NewR.pc (S 18) (IntsH .u64 (val 18) (List.replicate nt 0)) * B)))))), ?_, fun v => ?_⟩
        · simp only [NewR.G, NewR.mapP, s26, s25, s24, s0, hr, NewR.rOf, if_true, Bool.false_eq_true, if_false]
        · have hf : NewR.fS (setL S 14) (updV val 14 v) vh vn = updI (NewR.fS S val vh vn) 4 (val 13) := by
            funext key
            simp only [NewR.fS, setL, updV, updI, Nat.reduceEqDiff, if_true, if_false]
            by_cases hkey : key = 4
            · subst hkey; simp [sp]
            · simp [hkey]
          simp only [NewR.G, NewR.mapP, NewR.dataP, NewR.pc, hf]
          simp only [setL, updV, s26, s25, s24, s0, hr, NewR.rOf, Nat.reduceEqDiff, if_true, if_false, Bool.false_eq_true]
      rw [hX1] at hs
      obtain ⟨A4, e1, e2, _⟩ := MapI.update (P := Try.prog) (t := 99) hs Try.underlying99 Try.underlying3 4 (val 13)
      simp [-amapUpdate, opAt, v0, vx, e1]
      rw [hX2]
      exact ⟨trivial, e2⟩
    · -- 15
      have sI := nofact 16 15 (by decide +kernel) hSi
      have hk : ∀ v, NewR.G init 0 6 nt vh vn B (setL S 15) (updV val 15 v) = IntsH .u64 v (List.replicate 1 0) * NewR.G init 0 6 nt vh vn B S val := fun v => by
        have hf : NewR.fS (setL S 15) (updV val 15 v) vh vn = NewR.fS S val vh vn := by funext key; simp [NewR.fS, setL, updV, sI]
        simp only [NewR.G, NewR.mapP, NewR.dataP, NewR.pc, hf]
        simp only [setL, updV, hSi, Nat.reduceEqDiff, if_true, if_false, Bool.false_eq_true, hemp_mul]
        ac_rfl
      obtain ⟨v', A4, e1, e2, e3, _⟩ := IntsH.make (P := Try.prog) (t := 57) (k1 := .i64) (k2 := .i64) 1 Try.underlying57 Try.info38 Try.zero38 rfl (by simp) (by omega) hs hw3
      have e1' : amake Try.prog A3 57 (.int .i64 1) (.int .i64 1) = some (v', A4) := e1
      simp [-amake, opAt, e1']
      rw [hk]
      exact ⟨trivial, e2⟩
    · -- 16
      have s24 := nofact 24 16 (by decide +kernel) hSi
      have s25 := nofact 25 24 (by decide +kernel) s24
      have s26 := nofact 26 25 (by decide +kernel) s25
      have s0 := hdep 0 (by decide +kernel)
      have sp := hdep 15 (by decide +kernel)
      obtain ⟨r, hr⟩ := hst.fact 0 s0
      have v0 : a 32 = .map (some r) := by rw [hst.slot 0 32 (by decide +kernel) s0]; exact hr
      have vx : a 43 = val 15 := hst.slot 15 43 (by decide +kernel) sp
      obtain ⟨X, hX1, hX2⟩ : ∃ X, NewR.G init 0 6 nt vh vn B S val = MapI .i64 r (NewR.fS S val vh vn) * X ∧ ∀ v, NewR.G init 0 6 nt vh vn B (setL S 16) (updV val 16 v) = MapI .i64 r (updI (NewR.fS S val vh vn) 5 (val 15)) * X := by
        refine ⟨(NewR.dataP S val init 0 * (NewR.pc (S 9) (IntsH .u64 (val 9) (List.replicate 6 0)) * (NewR.pc (S 11) (IntsH .u64 (val 11) (List.replicate 1 0)) * (NewR.pc (S 13) (IntsH .u64 (val 13) (List.replicate 1 0)) *
          (NewR.pc (S 15) (IntsH .u64 (val 15) (List.replicate 1 0)) * (NewR.pc (S 18) (IntsH .u64 (val 18) (List.replicate nt 0)) * B)))))), ?_, fun v => ?_⟩
        · simp only [NewR.G, NewR.mapP, s26, s25, s24, s0, hr, NewR.rOf, if_true, Bool.false_eq_true, if_false]
        · have hf : NewR.fS (setL S 16) (updV val 16 v) vh vn = updI (NewR.fS S val vh vn) 5 (val 15) := by
            funext key
            simp only [NewR.fS, setL, updV, updI, Nat.reduceEqDiff, if_true, if_false]
            by_cases hkey : key = 5
            · subst hkey; simp [sp]
            · simp [hkey]
          simp only [NewR.G, NewR.mapP, NewR.dataP, NewR.pc, hf]
          simp only [setL, updV, s26, s25, s24, s0, hr, NewR.rOf, Nat.reduceEqDiff, if_true, if_false, Bool.false_eq_true]
      rw [hX1] at hs
      obtain ⟨A4, e1, e2, _⟩ := MapI.update (P := Try.prog) (t := 99) hs Try.underlying99 Try.underlying3 5 (val 15)
      simp [-amapUpdate, opAt, v0, vx, e1]
      rw [hX2]
      exact ⟨trivial, e2⟩
    · -- 17
      have hk : ∀ v, NewR.G init 0 6 nt vh vn B (setL S 17) (updV val 17 v) = NewR.G init 0 6 nt vh vn B S val := fun v => by
        have hf : NewR.fS (setL S 17) (updV val 17 v) vh vn = NewR.fS S val vh vn := by funext key; simp [NewR.fS, setL, updV]
        simp [NewR.G, NewR.mapP, NewR.dataP, NewR.pc, hf]
        simp [setL, updV]
      simp [opAt, o1, hk]
      first | exact ⟨by simp [NewR.phi, updV], hs⟩ | (simp [NewR.phi, updV]; exact hs)
    · -- 18
      have sI := nofact 19 18 (by decide +kernel) hSi
      have vd : a 44 = .int .i64 ((nt : Nat) : Int) := by rw [hst.slot 17 44 (by decide +kernel) (hdep 17 (by decide +kernel))]; exact hst.fact 17 (hdep 17 (by decide +kernel))
      have hk : ∀ v, NewR.G init 0 6 nt vh vn B (setL S 18) (updV val 18 v) = IntsH .u64 v (List.replicate nt 0) * NewR.G init 0 6 nt vh vn B S val := fun v => by
        have hf : NewR.fS (setL S 18) (updV val 18 v) vh vn = NewR.fS S val vh vn := by funext key; simp [NewR.fS, setL, updV, sI]
        simp only [NewR.G, NewR.mapP, NewR.dataP, NewR.pc, hf]
        simp only [setL, updV, hSi, Nat.reduceEqDiff, if_true, if_false, Bool.false_eq_true, hemp_mul]
        ac_rfl
      obtain ⟨v', A4, e1, e2, e3, _⟩ := IntsH.make (P := Try.prog) (t := 57) (k1 := .i64) (k2 := .i64) nt Try.underlying57 Try.info38 Try.zero38 rfl (by simp) (by omega) hs hw3
      have e1' : amake Try.prog A3 57 (.int .i64 (nt : Int)) (.int .i64 (nt : Int)) = some (v', A4) := e1
      simp [-amake, opAt, vd, e1']
      rw [hk]
      exact ⟨trivial, e2⟩
    · -- 19
      have s24 := nofact 24 19 (by decide +kernel) hSi
      have s25 := nofact 25 24 (by decide +kernel) s24
      have s26 := nofact 26 25 (by decide +kernel) s25
      have s0 := hdep 0 (by decide +kernel)
      have sp := hdep 18 (by decide +kernel)
      obtain ⟨r, hr⟩ := hst.fact 0 s0
      have v0 : a 32 = .map (some r) := by rw [hst.slot 0 32 (by decide +kernel) s0]; exact hr
      have vx : a 45 = val 18 := hst.slot 18 45 (by decide +kernel) sp
      obtain ⟨X, hX1, hX2⟩ : ∃ X, NewR.G init 0 6 nt vh vn B S val = MapI .i64 r (NewR.fS S val vh vn) * X ∧ ∀ v, NewR.G init 0 6 nt vh vn B (setL S 19) (updV val 19 v) = MapI .i64 r (updI (NewR.fS S val vh vn) 6 (val 18)) * X := by
        refine ⟨(NewR.dataP S val init 0 * (NewR.pc (S 9) (IntsH .u64 (val 9) (List.replicate 6 0)) * (NewR.pc (S 11) (IntsH .u64 (val 11) (List.replicate 1 0)) * (NewR.pc (S 13) (IntsH .u64 (val 13) (List.replicate 1 0)) *
          (NewR.pc (S 15) (IntsH .u64 (val 15) (List.replicate 1 0)) * (NewR.pc (S 18) (IntsH .u64 (val 18) (List.replicate nt 0)) * B)))))), ?_, fun v => ?_⟩
        · simp only [NewR.G, NewR.mapP, s26, s25, s24, s0, hr, NewR.rOf, if_true, Bool.false_eq_true, if_false]
        · have hf : NewR.fS (setL S 19) (updV val 19 v) vh vn = updI (NewR.fS S val vh vn) 6 (val 18) := by
            funext key
            simp only [NewR.fS, setL, updV, updI, Nat.reduceEqDiff, if_true, if_false]
            by_cases hkey : key = 6
            · subst hkey; simp [sp]
            · simp [hkey]
          simp only [NewR.G, NewR.mapP, NewR.dataP, NewR.pc, hf]
          simp only [setL, updV, s26, s25, s24, s0, hr, NewR.rOf, Nat.reduceEqDiff, if_true, if_false, Bool.false_eq_true]
      rw [hX1] at hs
      obtain ⟨A4, e1, e2, _⟩ := MapI.update (P := Try.prog) (t := 99) hs Try.underlying99 Try.underlying3 6 (val 18)
      simp [-amapUpdate, opAt, v0, vx, e1]
      rw [hX2]
      exact ⟨trivial, e2⟩
    · -- 20
      have hk : ∀ v, NewR.G init 0 6 nt vh vn B (setL S 20) (updV val 20 v) = NewR.G init 0 6 nt vh vn B S val := fun v => by
        have hf : NewR.fS (setL S 20) (updV val 20 v) vh vn = NewR.fS S val vh vn := by funext key; simp [NewR.fS, setL, updV]
        simp [NewR.G, NewR.mapP, NewR.dataP, NewR.pc, hf]
        simp [setL, updV]
      simp [opAt, o9, hk]
      first | exact ⟨by simp [NewR.phi, updV], hs⟩ | (simp [NewR.phi, updV]; exact hs)
    · -- 21
      have s24 := nofact 24 21 (by decide +kernel) hSi
      have s25 := nofact 25 24 (by decide +kernel) s24
      have s26 := nofact 26 25 (by decide +kernel) s25
      have s0 := hdep 0 (by decide +kernel)
      have sp := hdep 20 (by decide +kernel)
      obtain ⟨r, hr⟩ := hst.fact 0 s0
      have v0 : a 32 = .map (some r) := by rw [hst.slot 0 32 (by decide +kernel) s0]; exact hr
      have vx : a 46 = vh := by rw [hst.slot 20 46 (by decide +kernel) sp]; exact hst.fact 20 sp
      obtain ⟨X, hX1, hX2⟩ : ∃ X, NewR.G init 0 6 nt vh vn B S val = MapI .i64 r (NewR.fS S val vh vn) * X ∧ ∀ v, NewR.G init 0 6 nt vh vn B (setL S 21) (updV val 21 v) = MapI .i64 r (updI (NewR.fS S val vh vn) 7 vh) * X := by
        refine ⟨(NewR.dataP S val init 0 * (NewR.pc (S 9) (IntsH .u64 (val 9) (List.replicate 6 0)) * (NewR.pc (S 11) (IntsH .u64 (val 11) (List.replicate 1 0)) * (NewR.pc (S 13) (IntsH .u64 (val 13) (List.replicate 1 0)) *
          (NewR.pc (S 15) (IntsH .u64 (val 15) (List.replicate 1 0)) * (NewR.pc (S 18) (IntsH .u64 (val 18) (List.replicate nt 0)) * B)))))), ?_, fun v => ?_⟩
        · simp only [NewR.G, NewR.mapP, s26, s25, s24, s0, hr, NewR.rOf, if_true, Bool.false_eq_true, if_false]
        · have hf : NewR.fS (setL S 21) (updV val 21 v) vh vn = updI (NewR.fS S val vh vn) 7 vh := by
            funext key
            simp only [NewR.fS, setL, updV, updI, Nat.reduceEqDiff, if_true, if_false]
            by_cases hkey : key = 7
            · subst hkey; simp [sp]
            · simp [hkey]
          simp only [NewR.G, NewR.mapP, NewR.dataP, NewR.pc, hf]
          simp only [setL, updV, s26, s25, s24, s0, hr, NewR.rOf, Nat.reduceEqDiff, if_true, if_false, Bool.false_eq_true]
      rw [hX1] at hs
      obtain ⟨A4, e1, e2, _⟩ := MapI.update (P := Try.prog) (t := 99) hs Try.underlying99 Try.underlying3 7 vh
      simp [-amapUpdate, opAt, v0, vx, e1]
      rw [hX2]
      exact ⟨trivial, e2⟩
    · -- 22
      have hk : ∀ v, NewR.G init 0 6 nt vh vn B (setL S 22) (updV val 22 v) = NewR.G init 0 6 nt vh vn B S val := fun v => by
        have hf : NewR.fS (setL S 22) (updV val 22 v) vh vn = NewR.fS S val vh vn := by funext key; simp [NewR.fS, setL, updV]
        simp [NewR.G, NewR.mapP, NewR.dataP, NewR.pc, hf]
        simp [setL, updV]
      simp [opAt, o10, hk]
      first | exact ⟨by simp [NewR.phi, updV], hs⟩ | (simp [NewR.phi, updV]; exact hs)
    · -- 23
      have s24 := nofact 24 23 (by decide +kernel) hSi
      have s25 := nofact 25 24 (by decide +kernel) s24
      have s26 := nofact 26 25 (by decide +kernel) s25
      have s0 := hdep 0 (by decide +kernel)
      have sp := hdep 22 (by decide +kernel)
      obtain ⟨r, hr⟩ := hst.fact 0 s0
      have v0 : a 32 = .map (some r) := by rw [hst.slot 0 32 (by decide +kernel) s0]; exact hr
      have vx : a 47 = vn := by rw [hst.slot 22 47 (by decide +kernel) sp]; exact hst.fact 22 sp
      obtain ⟨X, hX1, hX2⟩ : ∃ X, NewR.G init 0 6 nt vh vn B S val = MapI .i64 r (NewR.fS S val vh vn) * X ∧ ∀ v, NewR.G init 0 6 nt vh vn B (setL S 23) (updV val 23 v) = MapI .i64 r (updI (NewR.fS S val vh vn) 8 vn) * X := by
        refine ⟨(NewR.dataP S val init 0 * (NewR.pc (S 9) (IntsH .u64 (val 9) (List.replicate 6 0)) * (NewR.pc (S 11) (IntsH .u64 (val 11) (List.replicate 1 0)) * (NewR.pc (S 13) (IntsH .u64 (val 13) (List.replicate 1 0)) *
          (NewR.pc (S 15) (IntsH .u64 (val 15) (List.replicate 1 0)) * (NewR.pc (S 18) (IntsH .u64 (val 18) (List.replicate nt 0)) * B)))))), ?_, fun v => ?_⟩
        · simp only [NewR.G, NewR.mapP, s26, s25, s24, s0, hr, NewR.rOf, if_true, Bool.false_eq_true, if_false]
        · have hf : NewR.fS (setL S 23) (updV val 23 v) vh vn = updI (NewR.fS S val vh vn) 8 vn := by
            funext key
            simp only [NewR.fS, setL, updV, updI, Nat.reduceEqDiff, if_true, if_false]
            by_cases hkey : key = 8
            · subst hkey; simp [sp]
            · simp [hkey]
          simp only [NewR.G, NewR.mapP, NewR.dataP, NewR.pc, hf]
          simp only [setL, updV, s26, s25, s24, s0, hr, NewR.rOf, Nat.reduceEqDiff, if_true, if_false, Bool.false_eq_true]
      rw [hX1] at hs
      obtain ⟨A4, e1, e2, _⟩ := MapI.update (P := Try.prog) (t := 99) hs Try.underlying99 Try.underlying3 8 vn
      simp [-amapUpdate, opAt, v0, vx, e1]
      rw [hX2]
      exact ⟨trivial, e2⟩
    · -- 24
      have s25 := nofact 25 24 (by decide +kernel) hSi
      have s26 := nofact 26 25 (by decide +kernel) s25
      have s0 := hdep 0 (by decide +kernel)
      obtain ⟨r, hr⟩ := hst.fact 0 s0
      have v0 : a 32 = .map (some r) := by rw [hst.slot 0 32 (by decide +kernel) s0]; exact hr
      have hk : NewR.G init 0 6 nt vh vn B (setL S 24) (updV val 24 (.map (some r))) = NewR.G init 0 6 nt vh vn B S val := by
        have hf : NewR.fS (setL S 24) (updV val 24 (.map (some r))) vh vn = NewR.fS S val vh vn := by funext key; simp [NewR.fS, setL, updV]
        simp only [NewR.G, NewR.mapP, NewR.dataP, NewR.pc, hf]
        simp only [setL, updV, s26, s25, hSi, s0, hr, NewR.rOf, Nat.reduceEqDiff, if_true, if_false, Bool.false_eq_true]
      simp [opAt, v0, hk]
      exact ⟨⟨r, by simp [updV]⟩, hs⟩
    · -- 25
      have s26 := nofact 26 25 (by decide +kernel) hSi
      have s24 := hdep 24 (by decide +kernel)
      obtain ⟨r, hr⟩ := hst.fact 24 s24
      have v0 : a 48 = .map (some r) := by rw [hst.slot 24 48 (by decide +kernel) s24]; exact hr
      have hk : NewR.G init 0 6 nt vh vn B (setL S 25) (updV val 25 (.agg #[.map (some r)])) = NewR.G init 0 6 nt vh vn B S val := by
        have hf : NewR.fS (setL S 25) (updV val 25 (.agg #[.map (some r)])) vh vn = NewR.fS S val vh vn := by funext key; simp [NewR.fS, setL, updV]
        simp only [NewR.G, NewR.mapP, NewR.dataP, NewR.pc, hf]
        simp only [setL, updV, s26, hSi, s24, hr, NewR.rOf, NewR.r25, Nat.reduceEqDiff, if_true, if_false, Bool.false_eq_true]
        rfl
      simp [opAt, v0, hk]
      exact ⟨⟨r, by simp [updV]⟩, hs⟩
    · -- 26
      have s25 := hdep 25 (by decide +kernel)
      obtain ⟨r, hr⟩ := hst.fact 25 s25
      have v0 : a 49 = .agg #[.map (some r)] := by rw [hst.slot 25 49 (by decide +kernel) s25]; exact hr
      obtain ⟨X, hX1, hX2⟩ : ∃ X, NewR.G init 0 6 nt vh vn B S val = MapI .i64 r (NewR.fS S val vh vn) * X ∧ NewR.G init 0 6 nt vh vn B (setL S 26) (updV val 26 (.pointer (some ⟨A3.next, 0, none⟩))) =
          (hex fun r => pt A3.next (.cells [.map (some r)] true 1) * MapI .i64 r (NewR.fS S val vh vn)) * X := by
        refine ⟨(NewR.dataP S val init 0 * (NewR.pc (S 9) (IntsH .u64 (val 9) (List.replicate 6 0)) * (NewR.pc (S 11) (IntsH .u64 (val 11) (List.replicate 1 0)) * (NewR.pc (S 13) (IntsH .u64 (val 13) (List.replicate 1 0)) *
          (NewR.pc (S 15) (IntsH .u64 (val 15) (List.replicate 1 0)) * (NewR.pc (S 18) (IntsH .u64 (val 18) (List.replicate nt 0)) * B)))))), ?_, ?_⟩
        · simp only [NewR.G, NewR.mapP, hSi, s25, hr, NewR.r25, if_true, Bool.false_eq_true, if_false]
          rfl
        · have hf : NewR.fS (setL S 26) (updV val 26 (.pointer (some ⟨A3.next, 0, none⟩))) vh vn = NewR.fS S val vh vn := by funext key; simp [NewR.fS, setL, updV]
          simp only [NewR.G, NewR.mapP, NewR.dataP, NewR.pc, hf]
          simp only [setL, updV, NewR.bOf, Nat.reduceEqDiff, if_true, if_false]
      rw [hX1] at hs
      simp [opAt, v0]
      rw [hX2]
      refine ⟨⟨A3.next, by simp [updV]⟩, ?_⟩
      rw [Sat.ex]
      refine ⟨r, ?_⟩
      rw [HP.mul_assoc]
      exact hs.alloc hw3 _
    · -- 27
      have hk : ∀ v, NewR.G init 0 6 nt vh vn B (setL S 27) (updV val 27 v) = NewR.G init 0 6 nt vh vn B S val := fun v => by
        have hf : NewR.fS (setL S 27) (updV val 27 v) vh vn = NewR.fS S val vh vn := by funext key; simp [NewR.fS, setL, updV]
        simp [NewR.G, NewR.mapP, NewR.dataP, NewR.pc, hf]
        simp [setL, updV]
      have v26 : a 50 = val 26 := hst.slot 26 50 (by decide +kernel) (hdep 26 (by decide +kernel))
      simp [opAt, v26, hk]
      first | exact ⟨by simp [NewR.phi, updV], hs⟩ | (simp [NewR.phi, updV]; exact hs)
    · -- 28
      have hk : ∀ v, NewR.G init 0 6 nt vh vn B (setL S 28) (updV val 28 v) = NewR.G init 0 6 nt vh vn B S val := fun v => by
        have hf : NewR.fS (setL S 28) (updV val 28 v) vh vn = NewR.fS S val vh vn := by funext key; simp [NewR.fS, setL, updV]
        simp [NewR.G, NewR.mapP, NewR.dataP, NewR.pc, hf]
        simp [setL, updV]
      simp [opAt, o1, hk]
      first | exact ⟨by simp [NewR.phi, updV], hs⟩ | (simp [NewR.phi, updV]; exact hs)
  · intro S val a A3 hall hst hw3 hs
    have hS' : ∀ k, k < 29 → S k = true := fun k hk => hall k hk
    obtain ⟨b, hb⟩ := hst.fact 26 (hS' 26 (by omega))
    have h27 := hst.fact 27 (hS' 27 (by omega))
    have a6 : a 6 = .pointer (some ⟨b, 0, none⟩) := by rw [hst.slot 27 6 (by decide +kernel) (hS' 27 (by omega)), h27, hb]
    have a7 : a 7 = .int .i64 0 := by rw [hst.slot 28 7 (by decide +kernel) (hS' 28 (by omega))]; exact hst.fact 28 (hS' 28 (by omega))
    simp only [AThen_normal]
    refine awp_ret ?_
    refine ⟨_, by first | (simp [a6, a7]; done) | (simp [a6, a7]; rfl), b, rfl, ?_⟩
    have hmap : NewR.fS S val vh vn = memF (fun k => if k = 0 then val 5 else if k = 1 then val 9 else if k = 2 then val 11 else if k = 3 then val 13 else if k = 4 then val 15 else if k = 5 then val 18 else if k = 6 then vh else vn) := by
      funext key
      simp only [NewR.fS, memF, hS' 6 (by omega), hS' 5 (by omega), hS' 10 (by omega), hS' 9 (by omega), hS' 12 (by omega), hS' 11 (by omega), hS' 14 (by omega), hS' 13 (by omega), hS' 16 (by omega), hS' 15 (by omega), hS' 19 (by omega), hS' 18 (by omega), hS' 21 (by omega), hS' 23 (by omega), and_self, if_true]
      by_cases hk : 1 ≤ key ∧ key ≤ 8
      · have : key = 1 ∨ key = 2 ∨ key = 3 ∨ key = 4 ∨ key = 5 ∨ key = 6 ∨ key = 7 ∨ key = 8 := by omega
        rcases this with rfl | rfl | rfl | rfl | rfl | rfl | rfl | rfl <;> rfl
      · rw [if_neg hk, if_neg (by omega), if_neg (by omega), if_neg (by omega), if_neg (by omega), if_neg (by omega), if_neg (by omega), if_neg (by omega), if_neg (by omega)]
    have hs2 : Sat A3 ((hex fun r => pt b (.cells [.map (some r)] true 1) * MapI .i64 r (NewR.fS S val vh vn)) * (IntsH .u64 (val 5) (init ++ List.replicate 0 0) * (IntsH .u64 (val 9) (List.replicate 6 0) * (IntsH .u64 (val 11) (List.replicate 1 0) *
        (IntsH .u64 (val 13) (List.replicate 1 0) * (IntsH .u64 (val 15) (List.replicate 1 0) * (IntsH .u64 (val 18) (List.replicate nt 0) * B))))))) := by
      refine hs.cast ?_
      simp only [NewR.G, NewR.mapP, NewR.dataP, NewR.pc, hS' 26 (by omega), hS' 5 (by omega), hS' 9 (by omega), hS' 11 (by omega), hS' 13 (by omega), hS' 15 (by omega), hS' 18 (by omega), if_true, hb, NewR.bOf]
    rw [Sat.ex] at hs2
    obtain ⟨r, hs3⟩ := hs2
    rw [hB, hmap] at hs3
    refine MemH.close (r := r) (vs := fun k => if k = 0 then val 5 else if k = 1 then val 9 else if k = 2 then val 11 else if k = 3 then val 13 else if k = 4 then val 15 else if k = 5 then val 18 else if k = 6 then vh else vn) ?_
    simp only [bstar, hemp_mul, Nat.reduceEqDiff, if_true, if_false]
    have r1 : List.replicate 1 (0 : Int) = [0] := rfl
    rw [r1, List.replicate_zero, List.append_nil] at hs3
    exact Sat.right (P := pt A.next (.cells cfgV.cells.toList true 1)) (hs3.cast (by ac_rfl))

end Go.Stx
