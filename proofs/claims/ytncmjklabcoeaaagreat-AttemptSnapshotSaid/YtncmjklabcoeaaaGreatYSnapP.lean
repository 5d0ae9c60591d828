/-
  The shared reads of an attempt belong to one state of memory: the plain law.
-/
import Derived.Test.YtncmjklabcoeaaaGreatYAbortP
namespace Go.Stx
open Go Go.Proofs
attribute [local irreducible] fj cm aH bB dK ei
set_option linter.unusedVariables false
set_option linter.unusedSimpArgs false

/-! ### What an attempt holds -/

def lkL (s : aD) : List Int := match s.aA with
  | .fF => match s.aG with
    | some l => l.aj.take l.dH.length
    | none => []
  | .dI | .dG _ | .cN | .et _ => s.aj
  | .cK w => w.os
  | _ => []
def lkW (s : aD) : List Int := match s.aA with
  | .fF | .dI | .dG _ | .cN | .et _ => s.dH
  | .cK w => w.ws
  | _ => []
def cmS (s : aD) : Bool := match s.aA with
  | .et _ | .ij => true
  | .cK _ => s.ai
  | _ => false
def tkS (s : aD) : Option Int := match s.aA with
  | .dI => match s.aE with
    | some t => if t.pT = true then some t.gP else none
    | none => none
  | .dG _ | .cN | .et _ | .cK _ | .ij | .fm => match s.aE with
    | some t => some t.gP
    | none => none
  | _ => none
def dnS (s : aD) : Bool := match s.aA with
  | .dG _ | .cN | .et _ | .cK _ | .ij | .fm => true
  | _ => false
def lgS (c : bG) (s : aD) : Prop := match s.aA with
  | .fF | .dI | .dG _ | .cN | .et _ => s.iv = true → ∀ a ∈ s.aM.bl, fJ c a ∈ s.aj
  | _ => True
def orW (M : Mm) (x : Int) : Int := (M 1).getD x.toNat 0
def ckF (M : Mm) : Int := (M 2).getD 0 0

structure TInv (c : bG) (s : aD) (M : Mm) : Prop where
  nod : (lkL s).Nodup
  lk : ∀ i, i < (lkL s).length → orW M ((lkL s).getD i 0) % 64 = s.ag + 1 ∧ (cmS s = false → orW M ((lkL s).getD i 0) = (lkW s).getD i 0 + s.ag + 1 ∧ (lkW s).getD i 0 % 64 = 0)
  cm : cmS s = true → s.ao = ckF M
  lg : lgS c s
  tk : ∀ n, tkS s = some n → n < tkF M ∧ (dnS s = true → n = svF M)

/-- What a step of one thread does, as far as the others can see it. -/
structure Eff (c : bG) (s : aD) (M : Mm) (s' : aD) (M' : Mm) : Prop where
  ti : TInv c s' M'
  H2 : ckF M' = ckF M ∨ (cmS s = true ∧ ckF M ≤ ckF M')
  sv : svF M' = svF M ∨ dnS s = true
  tkn : tkF M ≤ tkF M'
  tks : tkS s' = none ∨ tkS s' = tkS s ∨ tkS s' = some (tkF M)
  m1 : ∀ j : Nat, (M' 1).getD j 0 = (M 1).getD j 0 ∨ (M 1).getD j 0 % 64 = 0 ∨ (M 1).getD j 0 % 64 = s.ag + 1
  sy : ∀ o rv : Int, rv ≤ ckF M → (rv < orW M o / 64 ∨ (cmS s = true ∧ o ∈ lkL s)) → (rv < orW M' o / 64 ∨ (cmS s' = true ∧ o ∈ lkL s'))
  m0 : ∀ j : Nat, (M' 0).getD j 0 = (M 0).getD j 0 ∨ (cmS s' = true ∧ fJ c j ∈ lkL s')

def EffR (c : bG) (s : aD) (M : Mm) (r : ri) : Prop := Eff c s M r.2.2.1 r.2.2.2
theorem EffR.of {c : bG} {s : aD} {M : Mm} {a : bq} {ph : Int} {s' : aD} {M' : Mm} (h : Eff c s M s' M') : EffR c s M (a, ph, s', M') := h

/-- Nothing held. -/
structure Quiet (s : aD) : Prop where
  l : lkL s = []
  c : cmS s = false
  t : tkS s = none
  d : dnS s = false
theorem Calm.quiet {s : aD} (h : Calm s) : Quiet s := by
  unfold Calm at h
  revert h
  cases hd : s.aA <;> intro h <;> first
    | exact h.elim
    | skip
  all_goals first
    | (refine ⟨?_, ?_, ?_, ?_⟩ <;> simp [lkL, cmS, tkS, dnS, hd]; done)
    | skip
  · obtain ⟨_, l, h4, h5⟩ := h
    refine ⟨?_, ?_, ?_, ?_⟩ <;> simp [lkL, cmS, tkS, dnS, hd, h4, h5]
  · obtain ⟨h3, t, h4, h5⟩ := h
    refine ⟨?_, ?_, ?_, ?_⟩ <;> simp [lkL, cmS, tkS, dnS, hd, h3, h4, h5]

/-- What is logged lies below what is to be locked. -/
def Cal2 (s : aD) : Prop := match s.aA with
  | .fF => ∀ a ∈ s.aM.bl, fJ s.cf a ∈ s.aj
  | .dI => s.iv = false
  | .dG _ | .cN | .et _ => False
  | _ => True
theorem Cal2.lg {c : bG} {s : aD} (h : Cal2 s) (hc : s.cf = c) : lgS c s := by
  unfold Cal2 at h
  unfold lgS
  subst hc
  revert h
  cases s.aA <;> intro h <;> first
    | exact h.elim
    | trivial
    | exact fun _ => h
    | exact fun e => by rw [h] at e; cases e

theorem finish_cal2 (s : aD) : Cal2 (gg s) := by
  unfold gg
  split <;> exact trivial
theorem undo_cal2 (s : aD) (ax : Int) : Cal2 (gy s ax) := finish_cal2 _
theorem end_cal2 {s : aD} (h : fe s) (ax : Int) : Cal2 (nN s ax) := by
  unfold nN
  split
  · intro a ha
    exact ((qw (s.aM.bl.map (fJ s.cf))).2 _).2 (List.mem_map.2 ⟨a, ha, rfl⟩)
  · rename_i hs
    show aD.iv _ = false
    have : (decide (ax = 1) && decide (0 < s.aM.bl.length)) = false := by simpa using hs
    exact this
theorem PreA.cal2 {s : aD} (h : PreA s) : Cal2 s := by unfold Cal2; rw [h.2]; trivial
theorem put_pre2 {s : aD} (h : PreA s) (a v : Int) : ((iI s a v).1 = true → PreA (iI s a v).2) ∧ Cal2 (iI s a v).2 := by
  unfold iI
  split
  · have : PreA { s with aM := (di s.aM a v).2 } := ⟨h.1.to rfl rfl rfl rfl rfl, h.2⟩
    exact ⟨fun _ => this, this.cal2⟩
  · exact ⟨fun e => (by cases e), undo_cal2 s 3⟩
theorem freed_cal2 {s : aD} (h : PreA s) (b st : Int) : Cal2 (jX s b st) := by
  unfold jX
  split
  · exact end_cal2 h.1 8
  · split
    · exact undo_cal2 s 3
    · have := put_pre2 h (s.cf.aF + b) 0
      split
      · rename_i e
        have h2 := this.1 e
        exact PreA.cal2 ⟨h2.1.to rfl rfl rfl rfl rfl, h2.2⟩
      · exact this.2
theorem zeros_pre2 : ∀ (n : Nat) (a : Int) (s : aD), PreA s → ((hY n a s).1 = true → PreA (hY n a s).2) ∧ Cal2 (hY n a s).2
  | 0, _, s, h => ⟨fun _ => h, h.cal2⟩
  | n + 1, a, s, h => by
    unfold hY
    have := put_pre2 h a 0
    split
    · rename_i e
      exact zeros_pre2 n (a + 1) _ (this.1 e)
    · exact ⟨fun e => (by cases e), this.2⟩
theorem alloc_cal2 {s : aD} (h : PreA s) (dB gi : Int) : Cal2 (fV s dB gi) := by
  unfold fV
  split
  · exact undo_cal2 s 4
  · have h1 : PreA { s with ac := s.ac ++ [gi] } := ⟨h.1.to rfl rfl rfl rfl rfl, h.2⟩
    have := put_pre2 h1 (s.cf.aF + gi) (dB + 1)
    dsimp only
    split
    · rename_i e
      have hz := zeros_pre2 (2 ^ dB.toNat) (eL s.cf gi) _ (this.1 e)
      split
      · rename_i e2
        have h2 := hz.1 e2
        exact PreA.cal2 ⟨h2.1.to rfl rfl rfl rfl rfl, h2.2⟩
      · exact hz.2
    · exact this.2
theorem loc_cal2 {s : aD} (h : PreA s) (l : vu) : Cal2 (nK s l) := by
  cases l with
  | fu a v =>
    unfold nK
    dsimp only
    split
    · exact end_cal2 h.1 7
    · exact (put_pre2 h a v).2
  | fy => exact end_cal2 h.1 7
  | Gw => exact end_cal2 h.1 8
  | cC ax => exact end_cal2 h.1 ax
  | take v => exact PreA.cal2 ⟨h.1.to rfl rfl rfl rfl rfl, h.2⟩
  | r9 => exact undo_cal2 s 3
  | cM b v => exact freed_cal2 h b v
theorem use_cal2 {s : aD} (h : PreA s) (v : Int) (u : qX) : Cal2 (AD s v u) := by
  cases u with
  | take => exact PreA.cal2 ⟨h.1.to rfl rfl rfl rfl rfl, h.2⟩
  | cM b => exact freed_cal2 h b v

/-! ### The steps -/

section
variable {c : bG} {nt k : Nat} {s : aD} {M : Mm}
theorem Eff.quiet {s' : aD} {M' : Mm} (h : Quiet s) (h' : Quiet s') (hl : lgS c s') (hM : Like M M') : Eff c s M s' M' := by
  obtain ⟨e0, e1, e2, e3, e4⟩ := hM
  refine ⟨⟨by rw [h'.l]; exact List.nodup_nil, fun i hi => (by rw [h'.l] at hi; simp at hi), fun e => (by rw [h'.c] at e; cases e), hl, fun n e => (by rw [h'.t] at e; cases e)⟩, .inl (by unfold ckF; rw [e2]), .inl (by unfold svF; rw [e4]), by unfold tkF; rw [e3]; exact Int.le_refl _, .inl h'.t, fun j => .inl (by rw [e1]), fun o rv _ h1 => ?_, fun j => .inl (by rw [e0])⟩
  rcases h1 with h1 | ⟨h1, _⟩
  · exact .inl (by unfold orW at *; rw [e1]; exact h1)
  · rw [h.c] at h1; cases h1
theorem Eff.calm {s' : aD} {M' : Mm} (h : Quiet s) (h1 : Calm s') (h2 : Cal2 s') (hc : s'.cf = c) (hM : Like M M') : Eff c s M s' M' := Eff.quiet h h1.quiet (h2.lg hc) hM

theorem enter_like (e : dC) (M : Mm) : Like M (go e M).2.2 := by
  unfold go
  split
  · exact .op M (by omega)
  · split
    · exact .refl M
    · split
      · exact .op M (by omega)
      · exact .refl M
theorem pop_like (p : mN) (M : Mm) : Like M (fx p M).2.2 := by
  unfold fx
  split
  · exact .refl M
  · split
    · exact .refl M
    · split
      · exact .op M (by omega)
      · exact .refl M
theorem push_like (p : kM) (M : Mm) : Like M (dE p M).2.2 := by
  unfold dE
  split
  · exact .refl M
  · split
    · exact .op M (by omega)
    · split
      · exact .op M (by omega)
      · exact .refl M

/-- The lists at the states that hold all. -/
theorem lk_all {s : aD} (h : (match s.aA with | .dI | .dG _ | .cN | .et _ => True | _ => False)) : lkL s = s.aj ∧ lkW s = s.dH := by
  unfold lkL lkW
  revert h
  cases s.aA <;> intro h <;> first
    | exact h.elim
    | exact ⟨rfl, rfl⟩
theorem tz.oldz {l : eM} (h : tz k l) (i : Nat) (hi : i < l.dH.length) : l.dH.getD i 0 % 64 = 0 := (h.dH _ (zN hi)).2

theorem turn_eff (hM : oR c nt k M) (hk : k < 2^40) (h : oW c k s) (t : fL) (hs : s.aE = some t) (h1 : t.done = false) (hd : s.aA = .dI) (hT : TInv c s M) : EffR c s M (im s M t) := by
  have hl := hT.lk
  have hn := hT.nod
  have hg := hT.lg
  have e0 : lkL s = s.aj := by unfold lkL; rw [hd]
  have e1 : lkW s = s.dH := by unfold lkW; rw [hd]
  have e2 : cmS s = false := by unfold cmS; rw [hd]
  have e3 : dnS s = false := by unfold dnS; rw [hd]
  have e4 : tkS s = if t.pT = true then some t.gP else none := by unfold tkS; rw [hd, hs]
  unfold lgS at hg
  rw [hd] at hg
  rw [e0] at hn
  rw [e0, e1, e2] at hl
  unfold im gn
  rw [if_neg (by rw [h1]; decide)]
  split
  · rename_i zz
    have htk' : t.pT = false := zz
    have hm : ∀ kk, kk ≠ 3 → Tf M 4 0 1 kk = M kk := fun kk VU => opM_ne (by omega)
    have dg : dw M 4 0 = true := hasCell_of (by omega) (by omega) (by show (0 : Int) < ((M 3).length : Int); rw [hM.l3]; decide)
    have hgt : (N8 M 4 0 1).fI = tkF M := (opAcc_has dg).1
    have ht := hM.SA
    have fz : Tf M 4 0 1 3 = (M 3).set 0 (tkF M + 1) := by
      have : Tf M 4 0 1 3 = (M 3).set 0 (IntKind.u64.wrap (tkF M + 1)) := opM_set dg rfl
      rw [this, au (by unfold tkF; omega) (by unfold tkF; omega)]
    have htk2 : tkF (Tf M 4 0 1) = tkF M + 1 := by unfold tkF; rw [fz, getD_set, if_pos ⟨rfl, by rw [hM.l3]; omega⟩]; rfl
    refine EffR.of ?_
    rw [if_neg (by dsimp only; rw [h1]; decide)]
    show Eff c s M { s with aE := some { t with pT := true, gP := (N8 M 4 0 1).fI } } (Tf M 4 0 1)
    have f0 : lkL { s with aE := some { t with pT := true, gP := (N8 M 4 0 1).fI } } = s.aj := by unfold lkL; rw [show ({ s with aE := some { t with pT := true, gP := (N8 M 4 0 1).fI } } : aD).aA = s.aA from rfl, hd]
    have f1 : lkW { s with aE := some { t with pT := true, gP := (N8 M 4 0 1).fI } } = s.dH := by unfold lkW; rw [show ({ s with aE := some { t with pT := true, gP := (N8 M 4 0 1).fI } } : aD).aA = s.aA from rfl, hd]; rfl
    have f2 : cmS { s with aE := some { t with pT := true, gP := (N8 M 4 0 1).fI } } = false := by unfold cmS; rw [show ({ s with aE := some { t with pT := true, gP := (N8 M 4 0 1).fI } } : aD).aA = s.aA from rfl, hd]
    have f3 : dnS { s with aE := some { t with pT := true, gP := (N8 M 4 0 1).fI } } = false := by unfold dnS; rw [show ({ s with aE := some { t with pT := true, gP := (N8 M 4 0 1).fI } } : aD).aA = s.aA from rfl, hd]
    have f4 : tkS { s with aE := some { t with pT := true, gP := (N8 M 4 0 1).fI } } = some (tkF M) := by unfold tkS; rw [show ({ s with aE := some { t with pT := true, gP := (N8 M 4 0 1).fI } } : aD).aA = s.aA from rfl, hd, ← hgt]; rfl
    have f5 : lgS c { s with aE := some { t with pT := true, gP := (N8 M 4 0 1).fI } } := by unfold lgS; rw [show ({ s with aE := some { t with pT := true, gP := (N8 M 4 0 1).fI } } : aD).aA = s.aA from rfl, hd]; exact hg
    refine ⟨⟨by rw [f0]; exact hn, ?_, fun e => (by rw [f2] at e; cases e), f5, ?_⟩, .inl (by unfold ckF; rw [hm 2 (by omega)]), .inl (by unfold svF; rw [hm 4 (by omega)]), by rw [htk2]; omega, .inr (.inr f4), fun j => .inl (by rw [hm 1 (by omega)]), fun o rv _ h2 => ?_, fun j => .inl (by rw [hm 0 (by omega)])⟩
    · rw [f0, f1, f2]
      unfold orW
      rw [hm 1 (by omega)]
      exact hl
    · intro n XV
      rw [f4] at XV
      injection XV with XV
      rw [htk2, ← XV]
      exact ⟨by omega, fun e => (by rw [f3] at e; cases e)⟩
    · rcases h2 with h2 | ⟨h2, _⟩
      · left; unfold orW; rw [hm 1 (by omega)]; exact h2
      · rw [e2] at h2; cases h2
  · rename_i zz
    have htk' : t.pT = true := by simpa using zz
    rw [if_pos htk'] at e4
    obtain ⟨a1, a2⟩ := hT.tk _ e4
    -- any state that holds the same and has the same ticket
    have key : ∀ s' : aD, lkL s' = s.aj → lkW s' = s.dH → cmS s' = false → lgS c s' → tkS s' = some t.gP → s'.ag = s.ag → (dnS s' = true → t.gP = svF M) → Eff c s M s' M := by
      intro s' g0 g1 g2 g3 g4 g5 g6
      refine ⟨⟨by rw [g0]; exact hn, by rw [g0, g1, g2, g5]; exact hl, fun e => (by rw [g2] at e; cases e), g3, fun n e => ?_⟩, .inl rfl, .inl rfl, Int.le_refl _, .inr (.inl (g4.trans e4.symm)), fun j => .inl rfl, fun o rv _ h2 => ?_, fun j => .inl rfl⟩
      · rw [g4] at e
        injection e with e
        subst e
        exact ⟨a1, g6⟩
      · rcases h2 with h2 | ⟨h2, _⟩
        · exact .inl h2
        · rw [e2] at h2; cases h2
    refine EffR.of ?_
    dsimp only
    split
    · rename_i jx
      have VF : t.gP = svF M := by
        have dg : dw M 5 0 = true := hasCell_of (by omega) (by omega) (by show (0 : Int) < ((M 4).length : Int); rw [hM.l4]; decide)
        have : (gX M 5 0).fI = svF M := (opAcc_has dg).1
        have h3 : decide ((gX M 5 0).fI = t.gP) = true := jx
        have h4 := of_decide_eq_true h3
        rw [← h4, this]
      by_cases hz : s.set.length = 0
      · rw [if_pos hz]
        exact key _ rfl rfl rfl hg rfl rfl fun _ => VF
      · rw [if_neg hz]
        exact key _ rfl rfl rfl hg rfl rfl fun _ => VF
    · refine key _ ?_ ?_ ?_ ?_ ?_ rfl ?_
      · show lkL { s with aE := _ } = _; unfold lkL; dsimp only; rw [hd]
      · show lkW { s with aE := _ } = _; unfold lkW; dsimp only; rw [hd]; rfl
      · show cmS { s with aE := _ } = _; unfold cmS; dsimp only; rw [hd]
      · show lgS c { s with aE := _ }; unfold lgS; dsimp only; rw [hd]; exact hg
      · show tkS { s with aE := _ } = _; unfold tkS; dsimp only; rw [hd]; dsimp only; rw [if_pos htk']
      · intro e
        have : dnS { s with aE := some { t with done := decide ((gX M 5 0).fI = t.gP) } } = false := by unfold dnS; dsimp only; rw [hd]
        rw [this] at e; cases e

/-- Giving back, all of it held. -/
theorem restore_eff {s1 : aD} (h0 : lkL s = s1.aj) (h1 : lkW s = s1.dH) (h2 : cmS s = false) (h3 : s1.ag = s.ag) (h4 : s1.ai = true → s1.aj = []) {n : Int} (h5 : tkS s = some n) {t : fL} (h6 : s1.aE = some t) (h7 : t.gP = n) (h8 : dnS s = true) (hT : TInv c s M) : Eff c s M (fH s1) M := by
  have hl := hT.lk
  have hn := hT.nod
  rw [h0] at hn
  rw [h0, h1, h2] at hl
  have ht := hT.tk n h5
  have hv : ∀ o rv : Int, rv ≤ ckF M → (rv < orW M o / 64 ∨ (cmS s = true ∧ o ∈ lkL s)) → rv < orW M o / 64 := fun o rv _ h => by
    rcases h with h | ⟨h, _⟩
    · exact h
    · rw [h2] at h; cases h
  unfold fH
  split
  · refine ⟨⟨List.nodup_nil, fun i hi => (by simp [lkL] at hi), fun e => (by cases e), trivial, fun m e => ?_⟩, .inl rfl, .inl rfl, Int.le_refl _, .inr (.inl ?_), fun j => .inl rfl, fun o rv h9 GS => .inl (hv o rv h9 GS), fun j => .inl rfl⟩
    · have e : tkS { s1 with aA := .fm } = some m := e
      unfold tkS at e
      dsimp only at e
      rw [h6] at e
      injection e with e
      rw [← e, h7]
      exact ⟨ht.1, fun _ => ht.2 h8⟩
    · rw [h5]
      unfold tkS
      dsimp only
      rw [h6]
      exact congrArg some h7
  · rename_i ke
    have s9 : s1.ai = false := by
      cases e : s1.ai with
      | false => rfl
      | true => rw [h4 e] at ke; exact absurd rfl ke
    refine ⟨⟨hn, fun i hi => ?_, fun e => ?_, trivial, fun m e => ?_⟩, .inl rfl, .inl rfl, Int.le_refl _, .inr (.inl ?_), fun j => .inl rfl, fun o rv h9 GS => .inl (hv o rv h9 GS), fun j => .inl rfl⟩
    · have := hl i hi
      show orW M (s1.aj.getD i 0) % 64 = s1.ag + 1 ∧ (_ → orW M (s1.aj.getD i 0) = s1.dH.getD i 0 + s1.ag + 1 ∧ s1.dH.getD i 0 % 64 = 0)
      rw [h3]
      exact ⟨this.1, fun _ => this.2 rfl⟩
    · have e : s1.ai = true := e
      rw [s9] at e; cases e
    · have e : tkS { s1 with aA := .cK ⟨s1.aj, s1.dH⟩ } = some m := e
      unfold tkS at e
      dsimp only at e
      rw [h6] at e
      injection e with e
      rw [← e, h7]
      exact ⟨ht.1, fun _ => ht.2 h8⟩
    · rw [h5]
      unfold tkS
      dsimp only
      rw [h6]
      exact congrArg some h7

theorem check_eff (ck : ft) (RW : s.ai = false) (t : fL) (ht : s.aE = some t) (hd : s.aA = .dG ck) (hT : TInv c s M) : EffR c s M (hU s M ck) := by
  have hm : (eR ck M).2.2 = M := by unfold eR; split <;> rfl
  have e0 : lkL s = s.aj := by unfold lkL; rw [hd]
  have e1 : lkW s = s.dH := by unfold lkW; rw [hd]
  have e2 : cmS s = false := by unfold cmS; rw [hd]
  have e3 : dnS s = true := by unfold dnS; rw [hd]
  have e4 : tkS s = some t.gP := by unfold tkS; rw [hd]; dsimp only; rw [ht]
  have hg := hT.lg
  unfold lgS at hg
  rw [hd] at hg
  unfold hU
  dsimp only
  rw [hm]
  refine EffR.of ?_
  split
  · exact restore_eff e0 e1 e2 rfl (fun e => by rw [show s.ai = true from e] at RW; cases RW) e4 (t := t) ht rfl e3 hT
  · have hl := hT.lk
    have hn := hT.nod
    rw [e0] at hn
    rw [e0, e1, e2] at hl
    have zz := hT.tk _ e4
    have key : ∀ s' : aD, lkL s' = s.aj → lkW s' = s.dH → cmS s' = false → lgS c s' → tkS s' = some t.gP → s'.ag = s.ag → Eff c s M s' M := by
      intro s' g0 g1 g2 g3 g4 g5
      refine ⟨⟨by rw [g0]; exact hn, by rw [g0, g1, g2, g5]; exact hl, fun e => (by rw [g2] at e; cases e), g3, fun n e => ?_⟩, .inl rfl, .inl rfl, Int.le_refl _, .inr (.inl (g4.trans e4.symm)), fun j => .inl rfl, fun o rv _ h2 => ?_, fun j => .inl rfl⟩
      · rw [g4] at e
        injection e with e
        subst e
        exact ⟨zz.1, fun _ => zz.2 e3⟩
      · rcases h2 with h2 | ⟨h2, _⟩
        · exact .inl h2
        · rw [e2] at h2; cases h2
    have e5 : ∀ d, (match d with | .dG _ | .cN => True | _ => False) → tkS { s with aA := d } = some t.gP := by
      intro d Gd
      unfold tkS
      dsimp only
      revert Gd
      cases d <;> intro Gd <;> first
        | exact Gd.elim
        | (dsimp only; rw [ht])
    split
    · exact key _ rfl rfl rfl hg (e5 .cN trivial) rfl
    · exact key _ rfl rfl rfl hg (e5 (.dG _) trivial) rfl
theorem decide_eff (hM : oR c nt k M) (RW : s.ai = false) (OF : s.iv = true ↔ 0 < s.aj.length) (t : fL) (ht : s.aE = some t) (hd : s.aA = .cN) (hT : TInv c s M) : EffR c s M (fb s M) := by
  have e0 : lkL s = s.aj := by unfold lkL; rw [hd]
  have e1 : lkW s = s.dH := by unfold lkW; rw [hd]
  have e2 : cmS s = false := by unfold cmS; rw [hd]
  have e3 : dnS s = true := by unfold dnS; rw [hd]
  have e4 : tkS s = some t.gP := by unfold tkS; rw [hd]; dsimp only; rw [ht]
  have hg := hT.lg
  unfold lgS at hg
  rw [hd] at hg
  unfold fb
  dsimp only
  refine EffR.of ?_
  split
  · exact restore_eff e0 e1 e2 rfl (fun e => by rw [show s.ai = true from e] at RW; cases RW) e4 (t := t) ht rfl e3 hT
  · split
    · rename_i dn
      have hl := hT.lk
      have hn := hT.nod
      rw [e0] at hn
      rw [e0, e1, e2] at hl
      have zz := hT.tk _ e4
      have dg : dw M 3 0 = true := hasCell_of (by omega) (by omega) (by show (0 : Int) < ((M 2).length : Int); rw [hM.l2]; decide)
      have hgt : (gX M 3 0).fI = ckF M := (opAcc_has dg).1
      refine ⟨⟨hn, fun i hi => ⟨(hl i hi).1, fun e => (by cases e)⟩, fun _ => hgt, hg, fun n e => ?_⟩, .inl rfl, .inl rfl, Int.le_refl _, .inr (.inl ?_), fun j => .inl rfl, fun o rv _ h2 => ?_, fun j => .inl rfl⟩
      · have e : (match s.aE with | some t => some t.gP | none => none) = some n := e
        rw [ht] at e
        injection e with e
        subst e
        exact ⟨zz.1, fun _ => zz.2 e3⟩
      · rw [e4]
        show (match s.aE with | some t => some t.gP | none => none) = _
        rw [ht]
      · rcases h2 with h2 | ⟨h2, _⟩
        · exact .inl h2
        · rw [e2] at h2; cases h2
    · rename_i dn
      refine restore_eff e0 e1 e2 rfl (fun e => ?_) e4 (t := t) ht rfl e3 hT
      have : ¬ 0 < s.aj.length := fun e => dn (OF.2 e)
      exact List.eq_nil_of_length_eq_zero (by show s.aj.length = 0; omega)

theorem lock_eff (hM : oR c nt k M) (hk : k < 2^40) (hb : iW c k s) (l : eM) (hs : s.aG = some l) (BE : s.aE = none) (ho : l.aj = s.aj) (hth : l.ag = s.ag) (dQ : l.dH.length < l.aj.length) (hI : tz k l) (hd : s.aA = .fF) (hT : TInv c s M) : EffR c s M (jk s M l) := by
  have e0 : lkL s = l.aj.take l.dH.length := by unfold lkL; rw [hd]; dsimp only; rw [hs]
  have e1 : lkW s = l.dH := by unfold lkW; rw [hd]; dsimp only; unfold aD.dH; rw [hs]
  have e2 : cmS s = false := by unfold cmS; rw [hd]
  have e3 : tkS s = none := by unfold tkS; rw [hd]
  have e4 : dnS s = false := by unfold dnS; rw [hd]
  have hg := hT.lg
  unfold lgS at hg
  rw [hd] at hg
  have hl := hT.lk
  have hn := hT.nod
  rw [e0] at hn
  rw [e0, e1, e2] at hl
  have hx : ew l ∈ s.aj := by
    unfold ew
    rw [← ho, List.getD_eq_getElem?_getD, List.getElem?_eq_getElem dQ]
    exact List.getElem_mem dQ
  have hxr := hb.Q8 _ hx
  have dg : dw M 2 (ew l) = true := hasCell_of (by omega) hxr.1 (by show _ < ((M 1).length : Int); rw [hM.l1]; exact hxr.2)
  have Uy : ¬ l.done = true := by simp only [eM.done, decide_eq_true_eq]; omega
  have xy : ∀ (l2 : eM) (M' : Mm), l2.aj = l.aj → M' 0 = M 0 → M' 2 = M 2 → M' 3 = M 3 → M' 4 = M 4 → (l2.aj.take l2.dH.length).Nodup →
      (∀ i, i < (l2.aj.take l2.dH.length).length → orW M' ((l2.aj.take l2.dH.length).getD i 0) % 64 = s.ag + 1 ∧ (orW M' ((l2.aj.take l2.dH.length).getD i 0) = l2.dH.getD i 0 + s.ag + 1 ∧ l2.dH.getD i 0 % 64 = 0)) →
      (∀ j : Nat, (M' 1).getD j 0 = (M 1).getD j 0 ∨ (M 1).getD j 0 % 64 = 0 ∨ (M 1).getD j 0 % 64 = s.ag + 1) → (∀ o : Int, orW M' o / 64 = orW M o / 64) →
      Eff c s M (if l2.done = true then { { s with aG := some l2 } with aE := some ⟨false, 0, false⟩, aA := .dI } else { s with aG := some l2 }) M' := by
    intro l2 M' f1 f2 f3 f4 f5 f6 f7 f8 f9
    have key : ∀ s' : aD, lkL s' = l2.aj.take l2.dH.length → lkW s' = l2.dH → cmS s' = false → lgS c s' → tkS s' = none → s'.ag = s.ag → Eff c s M s' M' := by
      intro s' g0 g1 g2 g3 g4 g5
      refine ⟨⟨by rw [g0]; exact f6, fun i hi => ?_, fun e => (by rw [g2] at e; cases e), g3, fun n e => (by rw [g4] at e; cases e)⟩, .inl (by unfold ckF; rw [f3]), .inl (by unfold svF; rw [f5]), by unfold tkF; rw [f4]; exact Int.le_refl _, .inl g4, f8, fun o rv _ h2 => ?_, fun j => .inl (by rw [f2])⟩
      · rw [g0] at hi ⊢
        rw [g1, g5]
        exact ⟨(f7 i hi).1, fun _ => (f7 i hi).2⟩
      · rcases h2 with h2 | ⟨h2, _⟩
        · left; rw [f9]; exact h2
        · rw [e2] at h2; cases h2
    split
    · rename_i jx
      simp only [eM.done, decide_eq_true_eq] at jx
      refine key _ ?_ rfl rfl hg rfl rfl
      show s.aj = _
      rw [jx, List.take_length, ← ho, f1]
    · refine key _ ?_ ?_ ?_ ?_ ?_ rfl
      · unfold lkL; dsimp only; rw [hd]
      · unfold lkW; dsimp only; rw [hd]; rfl
      · unfold cmS; dsimp only; rw [hd]
      · unfold lgS; dsimp only; rw [hd]; exact hg
      · unfold tkS; dsimp only; rw [hd]
  unfold jk dF
  rw [if_neg Uy]
  have XY : ∀ i, i < (l.aj.take l.dH.length).length → orW M ((l.aj.take l.dH.length).getD i 0) % 64 = s.ag + 1 ∧ (orW M ((l.aj.take l.dH.length).getD i 0) = l.dH.getD i 0 + s.ag + 1 ∧ l.dH.getD i 0 % 64 = 0) := fun i hi => ⟨(hl i hi).1, (hl i hi).2 rfl⟩
  split
  · exact EffR.of (xy { l with d8 := _, fg := _ } M rfl rfl rfl rfl rfl hn XY (fun j => .inl rfl) fun o => rfl)
  · rename_i uT
    have RM : l.fg = true := by simpa using uT
    refine EffR.of ?_
    have hm : ∀ kk, kk ≠ 1 → kd M 2 (ew l) (hQ l.d8 (jD l)) kk = M kk := fun kk VU => opM_ne (by omega)
    obtain ⟨PN, hdone⟩ := opAcc_has (eV := 3) (g := hQ l.d8 (jD l)) dg
    by_cases Xw : (de M 3 2 (ew l) (hQ l.d8 (jD l))).done = true
    · have hseen : orW M (ew l) = l.d8 := by
        rw [hdone] at Xw
        exact of_decide_eq_true Xw
      have hz := hI.load RM
      have ht := hb.G2
      have jM := zt (by omega) hI RM (by rw [hth]; exact ht)
      rw [hth] at jM
      have Yu := hI.d8.1
      simp only [Xw, if_true]
      have f1 : kd M 2 (ew l) (hQ l.d8 (jD l)) 1 = (M 1).set (ew l).toNat (jD l) := opM_set dg (by rw [← hdone]; exact Xw)
      have cU : (ew l).toNat < (M 1).length := by have := hM.l1; omega
      have uc : ∀ o : Int, orW (kd M 2 (ew l) (hQ l.d8 (jD l))) o = if (ew l).toNat = o.toNat then l.d8 + s.ag + 1 else orW M o := by
        intro o
        unfold orW
        rw [f1, getD_set]
        by_cases h : (ew l).toNat = o.toNat
        · rw [if_pos ⟨h, cU⟩, if_pos h, jM]
        · rw [if_neg (by omega), if_neg h]
      have f2 : l.aj.take (l.dH ++ [l.d8]).length = l.aj.take l.dH.length ++ [ew l] := by
        rw [List.length_append, List.length_singleton, List.take_add_one, List.getElem?_eq_getElem dQ]
        unfold ew
        rw [List.getD_eq_getElem?_getD, List.getElem?_eq_getElem dQ]
        rfl
      have hlt2 : (l.aj.take l.dH.length).length = l.dH.length := by simp; omega
      -- no place that is held is this one
      have ke : ∀ i, i < l.dH.length → (ew l).toNat ≠ ((l.aj.take l.dH.length).getD i 0).toNat := by
        intro i hi e
        have h1 := (XY i (by omega)).1
        have h2 : orW M ((l.aj.take l.dH.length).getD i 0) = orW M (ew l) := by unfold orW; rw [e]
        rw [h2, hseen] at h1
        omega
      refine xy { l with fg := false, dH := l.dH ++ [l.d8] } _ rfl (hm 0 (by omega)) (hm 2 (by omega)) (hm 3 (by omega)) (hm 4 (by omega)) ?_ ?_ ?_ ?_
      · show (l.aj.take (l.dH ++ [l.d8]).length).Nodup
        rw [f2]
        refine JA hn fun JJ => ?_
        obtain ⟨i, hi, zG⟩ := List.getElem_of_mem JJ
        refine ke i (by omega) ?_
        rw [List.getD_eq_getElem?_getD, List.getElem?_eq_getElem hi]
        show _ = (_ : Int).toNat
        rw [show (some (l.aj.take l.dH.length)[i]).getD 0 = (l.aj.take l.dH.length)[i] from rfl, zG]
      · intro i hi
        dsimp only at hi ⊢
        rw [f2] at hi ⊢
        simp only [List.length_append, List.length_singleton, hlt2] at hi
        by_cases LG : i < l.dH.length
        · have g1 : (l.aj.take l.dH.length ++ [ew l]).getD i 0 = (l.aj.take l.dH.length).getD i 0 := by simp only [List.getD_eq_getElem?_getD]; rw [List.getElem?_append_left (by omega)]
          have g2 : (l.dH ++ [l.d8]).getD i 0 = l.dH.getD i 0 := by simp only [List.getD_eq_getElem?_getD]; rw [List.getElem?_append_left LG]
          rw [g1, g2, uc, if_neg (ke i LG)]
          exact XY i (by omega)
        · have zG : i = l.dH.length := by omega
          subst zG
          have g1 : (l.aj.take l.dH.length ++ [ew l]).getD l.dH.length 0 = ew l := by
            rw [List.getD_eq_getElem?_getD, List.getElem?_append_right (by omega)]
            simp [hlt2]
          have g2 : (l.dH ++ [l.d8]).getD l.dH.length 0 = l.d8 := by simp [List.getD_eq_getElem?_getD]
          rw [g1, g2, uc, if_pos rfl]
          exact ⟨by omega, rfl, hz⟩
      · intro j
        by_cases h : (ew l).toNat = j
        · right; left
          have : (M 1).getD j 0 = l.d8 := by rw [← h]; exact hseen
          rw [this]; exact hz
        · left
          rw [f1, getD_set, if_neg (by omega)]
      · intro o
        rw [uc]
        split
        · rename_i h
          have : orW M o = l.d8 := by rw [← hseen]; unfold orW; rw [h]
          rw [this]
          omega
        · rfl
    · simp only [Xw, if_false]
      have f1 : kd M 2 (ew l) (hQ l.d8 (jD l)) = M := opM_not (by rw [← hdone]; simpa using Xw)
      rw [f1]
      exact xy { l with fg := false } M rfl rfl rfl rfl rfl hn XY (fun j => .inl rfl) fun o => rfl

theorem write_eff (hM : oR c nt k M) (hb : iW c k s) (w : gL) (mf : s.ai = true ∧ s.iv = true) (t : fL) (ht : s.aE = some t) (q : Nat) (hq : q < s.aM.bl.length) (hw : w = ⟨s.aM.bl.drop q, s.aM.df.drop q⟩) (hd : s.aA = .et w) (hT : TInv c s M) : EffR c s M (iZ s M w) := by
  have e0 : lkL s = s.aj := by unfold lkL; rw [hd]
  have e2 : cmS s = true := by unfold cmS; rw [hd]
  have e3 : dnS s = true := by unfold dnS; rw [hd]
  have e4 : tkS s = some t.gP := by unfold tkS; rw [hd]; dsimp only; rw [ht]
  have hg := hT.lg
  unfold lgS at hg
  rw [hd] at hg
  have hl := hT.lk
  have hn := hT.nod
  rw [e0] at hn
  rw [e0, e2] at hl
  have zz := hT.tk _ e4
  have oE : 0 < w.os.length := by rw [hw]; simp; omega
  have JI : w.os.getD 0 0 ∈ s.aM.bl := by
    have : w.os.getD 0 0 ∈ w.os := zN oE
    rw [hw] at this ⊢
    exact List.mem_of_mem_drop this
  have har := hb.I6 _ JI
  unfold iZ lq
  rw [if_neg (by simp only [gL.done, decide_eq_true_eq]; omega)]
  dsimp only
  refine EffR.of ?_
  have hm : ∀ kk, kk ≠ 0 → kd M 1 (w.os.getD 0 0) (eD (w.ws.getD 0 0)) kk = M kk := fun kk VU => opM_ne (by omega)
  have key : ∀ s' : aD, lkL s' = s.aj → cmS s' = true → lgS c s' → tkS s' = some t.gP → s'.ag = s.ag → s'.ao = s.ao → Eff c s M s' (kd M 1 (w.os.getD 0 0) (eD (w.ws.getD 0 0))) := by
    intro s' g0 g1 g2 g3 g4 g5
    have uc : ∀ o, orW (kd M 1 (w.os.getD 0 0) (eD (w.ws.getD 0 0))) o = orW M o := fun o => by unfold orW; rw [hm 1 (by omega)]
    have zJ : ckF (kd M 1 (w.os.getD 0 0) (eD (w.ws.getD 0 0))) = ckF M := by unfold ckF; rw [hm 2 (by omega)]
    have htf : tkF (kd M 1 (w.os.getD 0 0) (eD (w.ws.getD 0 0))) = tkF M := by unfold tkF; rw [hm 3 (by omega)]
    have hsf : svF (kd M 1 (w.os.getD 0 0) (eD (w.ws.getD 0 0))) = svF M := by unfold svF; rw [hm 4 (by omega)]
    refine ⟨⟨by rw [g0]; exact hn, fun i hi => ?_, fun _ => ?_, g2, fun n e => ?_⟩, .inl zJ, .inl hsf, by rw [htf]; exact Int.le_refl _, .inr (.inl (g3.trans e4.symm)), fun j => .inl (by rw [hm 1 (by omega)]), fun o rv _ h2 => ?_, fun j => ?_⟩
    · rw [g0] at hi ⊢
      rw [uc, g4]
      exact ⟨(hl i hi).1, fun e => by rw [g1] at e; cases e⟩
    · rw [g5, zJ]; exact hT.cm e2
    · rw [g3] at e
      injection e with e
      subst e
      rw [htf, hsf]
      exact ⟨zz.1, fun _ => zz.2 e3⟩
    · rw [uc]
      rcases h2 with h2 | ⟨_, h2⟩
      · exact .inl h2
      · rw [e0] at h2
        exact .inr ⟨g1, by rw [g0]; exact h2⟩
    · rcases y5 M 1 (w.os.getD 0 0) (eD (w.ws.getD 0 0)) 0 j with h | ⟨_, _, h, _⟩
      · exact .inl h
      · right
        refine ⟨g1, ?_⟩
        rw [g0]
        have : (j : Int) = w.os.getD 0 0 := by omega
        rw [this]
        exact hg mf.2 _ JI
  have e5 : ∀ d, (match d with | .et _ | .cK _ => True | _ => False) → tkS { s with aA := d } = some t.gP := by
    intro d Gd
    unfold tkS
    dsimp only
    revert Gd
    cases d <;> intro Gd <;> first
      | exact Gd.elim
      | (dsimp only; rw [ht])
  split
  · exact key _ rfl mf.1 trivial (e5 (.cK _) trivial) rfl rfl
  · exact key _ rfl rfl hg (e5 (.et _) trivial) rfl rfl

theorem rel_eff (hM : oR c nt k M) (hk : k < 2^40) (hb : iW c k s) (w : gL) (mf : s.ai = true → s.iv = true) (t : fL) (ht : s.aE = some t) (q : Nat) (VJ : q < s.aj.length) (hw : w = ⟨s.aj.drop q, (lB s).drop q⟩) (hd : s.aA = .cK w) (hT : TInv c s M) : EffR c s M (lC s M w) := by
  have e0 : lkL s = w.os := by unfold lkL; rw [hd]
  have e1 : lkW s = w.ws := by unfold lkW; rw [hd]
  have e2 : cmS s = s.ai := by unfold cmS; rw [hd]
  have e3 : dnS s = true := by unfold dnS; rw [hd]
  have e4 : tkS s = some t.gP := by unfold tkS; rw [hd]; dsimp only; rw [ht]
  have hl := hT.lk
  have hn := hT.nod
  rw [e0] at hn
  rw [e0, e1, e2] at hl
  have zz := hT.tk _ e4
  have Zt := hT.cm
  rw [e2] at Zt
  have oE : 0 < w.os.length := by rw [hw]; simp; omega
  have kE : ∀ x ∈ w.os, 0 ≤ x ∧ x < c.aj := fun x hx => hb.Q8 x (by rw [hw] at hx; exact List.mem_of_mem_drop hx)
  have hxr := kE _ (zN oE)
  have PF := hM.l1
  have dg : dw M 2 (w.os.getD 0 0) = true := hasCell_of (by omega) hxr.1 (by show _ < ((M 1).length : Int); rw [PF]; exact hxr.2)
  have hv0 : s.ai = true → w.ws.getD 0 0 = (ckF M + 1) * 64 := by
    intro e
    have h1 := xT hb hk ⟨e, mf e⟩
    have h2 := Zt e
    have h3 := hb.H2
    have e5 : (lB s).drop q = List.replicate (s.aj.length - q) (gN s.sy) := by unfold lB; rw [if_pos e, List.drop_replicate]
    rw [hw]
    show ((lB s).drop q).getD 0 0 = _
    rw [e5, List.getD_eq_getElem?_getD, List.getElem?_replicate_of_lt (by omega)]
    show gN s.sy = _
    rw [h1, ← h2]
    unfold gN
    rw [if_pos (by omega)]
  have JF : 0 ≤ s.sy ↔ s.ai = true := by
    constructor
    · intro h
      cases e : s.ai with
      | true => rfl
      | false => unfold aD.sy at h; rw [if_neg (by rw [e]; simp)] at h; omega
    · intro e
      rw [xT hb hk ⟨e, mf e⟩]
      have := hb.H2
      omega
  obtain ⟨x, xs, Nr⟩ : ∃ x xs, w.os = x :: xs := by
    cases h : w.os with
    | nil => rw [h] at oE; simp at oE
    | cons x xs => exact ⟨x, xs, rfl⟩
  have II : w.os.getD 0 0 = x := by rw [Nr]; rfl
  have QD := hl 0 oE
  rw [II] at QD hxr dg
  have cU : x.toNat < (M 1).length := by omega
  unfold lC j3
  rw [if_neg (by simp only [gL.done, decide_eq_true_eq]; omega)]
  dsimp only
  rw [II]
  refine EffR.of ?_
  have hm : ∀ kk, kk ≠ 1 → kd M 2 x (eD (w.ws.getD 0 0)) kk = M kk := fun kk VU => opM_ne (by omega)
  have f1 : kd M 2 x (eD (w.ws.getD 0 0)) 1 = (M 1).set x.toNat (w.ws.getD 0 0) := opM_set dg rfl
  have uc : ∀ o : Int, orW (kd M 2 x (eD (w.ws.getD 0 0))) o = if x.toNat = o.toNat then w.ws.getD 0 0 else orW M o := by
    intro o
    unfold orW
    rw [f1, getD_set]
    by_cases h : x.toNat = o.toNat
    · rw [if_pos ⟨h, cU⟩, if_pos h]
    · rw [if_neg (by omega), if_neg h]
  have zJ : ckF (kd M 2 x (eD (w.ws.getD 0 0))) = ckF M := by unfold ckF; rw [hm 2 (by omega)]
  have htf : tkF (kd M 2 x (eD (w.ws.getD 0 0))) = tkF M := by unfold tkF; rw [hm 3 (by omega)]
  have hsf : svF (kd M 2 x (eD (w.ws.getD 0 0))) = svF M := by unfold svF; rw [hm 4 (by omega)]
  rw [Nr] at hn hl kE
  have XL := List.nodup_cons.1 hn
  have key : ∀ s' : aD, lkL s' = xs → lkW s' = w.ws.tail ∨ xs = [] → (s.ai = true ∧ xs ≠ [] → cmS s' = true) → (cmS s' = true → s.ai = true) → lgS c s' → tkS s' = some t.gP → s'.ag = s.ag → s'.ao = s.ao → Eff c s M s' (kd M 2 x (eD (w.ws.getD 0 0))) := by
    intro s' g0 g1 g2 g3 g4 g5 g6 g7
    refine ⟨⟨by rw [g0]; exact XL.2, fun i hi => ?_, fun e => ?_, g4, fun n e => ?_⟩, .inl zJ, .inl hsf, by rw [htf]; exact Int.le_refl _, .inr (.inl (g5.trans e4.symm)), fun j => ?_, fun o rv XA h2 => ?_, fun j => .inl (by rw [hm 0 (by omega)])⟩
    · rw [g0] at hi ⊢
      have h1 := hl (i + 1) (by simp; omega)
      rw [List.getD_cons_succ] at h1
      have JI : xs.getD i 0 ∈ xs := zN hi
      have ke : ¬ x.toNat = (xs.getD i 0).toNat := by
        intro e
        have h3 := (kE (xs.getD i 0) (List.mem_cons_of_mem _ JI)).1
        have : x = xs.getD i 0 := by omega
        rw [← this] at JI
        exact XL.1 JI
      rw [uc, if_neg ke, g6]
      refine ⟨h1.1, fun e => ?_⟩
      rcases g1 with g1 | g1
      · have s9 : s.ai = false := by
          cases h : s.ai with
          | false => rfl
          | true =>
            have := g2 ⟨h, fun e => by rw [e] at hi; simp at hi⟩
            rw [this] at e; cases e
        have h4 := h1.2 s9
        rw [g1]
        have h5 : w.ws.tail.getD i 0 = w.ws.getD (i + 1) 0 := by cases w.ws <;> simp
        rw [h5]
        exact h4
      · rw [g1] at hi; simp at hi
    · rw [g7, zJ]; exact Zt (g3 e)
    · rw [g5] at e
      injection e with e
      subst e
      rw [htf, hsf]
      exact ⟨zz.1, fun _ => zz.2 e3⟩
    · by_cases h : x.toNat = j
      · right; right
        have : (M 1).getD j 0 = orW M x := by unfold orW; rw [h]
        rw [this]; exact QD.1
      · left
        rw [f1, getD_set, if_neg (by omega)]
    · rw [e2, e0, Nr] at h2
      by_cases h : x.toNat = o.toNat
      · left
        rw [uc, if_pos h]
        cases hdv : s.ai with
        | true => rw [hv0 hdv]; omega
        | false =>
          rcases h2 with h2 | ⟨h2, _⟩
          · have h3 := QD.2 hdv
            have h4 : orW M o = orW M x := by unfold orW; rw [h]
            have h5 := hb.G2
            rw [h4] at h2
            omega
          · rw [hdv] at h2; cases h2
      · rw [uc, if_neg h]
        rcases h2 with h2 | ⟨h2, h3⟩
        · exact .inl h2
        · right
          rcases List.mem_cons.1 h3 with h3 | h3
          · exact absurd (by rw [h3]) h
          · exact ⟨g2 ⟨h2, fun e => by rw [e] at h3; simp at h3⟩, by rw [g0]; exact h3⟩
  have e5 : ∀ d, (match d with | .cK _ | .ij | .fm => True | _ => False) → tkS { s with aA := d } = some t.gP := by
    intro d Gd
    unfold tkS
    dsimp only
    revert Gd
    cases d <;> intro Gd <;> first
      | exact Gd.elim
      | (dsimp only; rw [ht])
  have Rt : w.os.tail = xs := by rw [Nr]; rfl
  rw [Rt]
  by_cases jx : gL.done ⟨xs, w.ws.tail⟩ = true
  · have hxs : xs = [] := List.eq_nil_of_length_eq_zero (by simpa [gL.done] using jx)
    rw [if_pos jx]
    by_cases hv : 0 ≤ s.sy
    · rw [if_pos hv]
      exact key _ hxs.symm (.inr hxs) (fun h => absurd hxs h.2) (fun _ => JF.1 hv) trivial (e5 .ij trivial) rfl rfl
    · rw [if_neg hv]
      exact key _ hxs.symm (.inr hxs) (fun h => absurd hxs h.2) (fun e => by cases e) trivial (e5 .fm trivial) rfl rfl
  · rw [if_neg jx]
    exact key _ rfl (.inl rfl) (fun h => h.1) (fun e => e) trivial (e5 (.cK _) trivial) rfl rfl

theorem stamp_eff (hM : oR c nt k M) (hk : k < 2^40) (hb : iW c k s) (t : fL) (ht : s.aE = some t) (hd : s.aA = .ij) (hT : TInv c s M) (a : bq) (ph : Int) : EffR c s M (a, ph, { s with aA := .fm }, ww M 3 0 (IntKind.u64.wrap (s.ao + 1))) := by
  refine EffR.of ?_
  have e2 : cmS s = true := by unfold cmS; rw [hd]
  have e3 : dnS s = true := by unfold dnS; rw [hd]
  have e4 : tkS s = some t.gP := by unfold tkS; rw [hd]; dsimp only; rw [ht]
  have e0 : lkL s = [] := by unfold lkL; rw [hd]
  have zz := hT.tk _ e4
  have Zt := hT.cm e2
  have zJ := hb.H2
  have hm : ∀ kk, kk ≠ 2 → ww M 3 0 (IntKind.u64.wrap (s.ao + 1)) kk = M kk := fun kk VU => opM_ne (by omega)
  have dg : dw M 3 0 = true := hasCell_of (by omega) (by omega) (by show (0 : Int) < ((M 2).length : Int); rw [hM.l2]; decide)
  have f1 : ww M 3 0 (IntKind.u64.wrap (s.ao + 1)) 2 = (M 2).set 0 (IntKind.u64.wrap (s.ao + 1)) := opM_set dg rfl
  have BG : ckF (ww M 3 0 (IntKind.u64.wrap (s.ao + 1))) = ckF M + 1 := by unfold ckF at *; rw [f1, getD_set, if_pos ⟨rfl, by rw [hM.l2]; omega⟩, au (by omega) (by omega), Zt]
  have f4 : tkS { s with aA := .fm } = some t.gP := by unfold tkS; dsimp only; rw [ht]
  refine ⟨⟨List.nodup_nil, fun i hi => (by simp [lkL] at hi), fun e => (by cases e), trivial, fun n e => ?_⟩, .inr ⟨e2, by rw [BG]; omega⟩, .inl (by unfold svF; rw [hm 4 (by omega)]), by unfold tkF; rw [hm 3 (by omega)]; exact Int.le_refl _, .inr (.inl (f4.trans e4.symm)), fun j => .inl (by rw [hm 1 (by omega)]), fun o rv _ h2 => ?_, fun j => .inl (by rw [hm 0 (by omega)])⟩
  · rw [f4] at e
    injection e with e
    subst e
    unfold tkF svF at *
    rw [hm 3 (by omega), hm 4 (by omega)]
    exact ⟨zz.1, fun _ => zz.2 e3⟩
  · rcases h2 with h2 | ⟨_, h2⟩
    · left; unfold orW at *; rw [hm 1 (by omega)]; exact h2
    · rw [e0] at h2; simp at h2
theorem pass_eff (hb : iW c k s) (t : fL) (ht : s.aE = some t) (hd : s.aA = .fm) (gt : (gg s).cf = c) (a : bq) (ph v : Int) : EffR c s M (a, ph, gg s, ww M 5 0 v) := by
  refine EffR.of ?_
  have e2 : cmS s = false := by unfold cmS; rw [hd]
  have e3 : dnS s = true := by unfold dnS; rw [hd]
  have hq := (finish_calm s).quiet
  have hm : ∀ kk, kk ≠ 4 → ww M 5 0 v kk = M kk := fun kk VU => opM_ne (by omega)
  refine ⟨⟨by rw [hq.l]; exact List.nodup_nil, fun i hi => (by rw [hq.l] at hi; simp at hi), fun e => (by rw [hq.c] at e; cases e), (finish_cal2 s).lg gt, fun n e => (by rw [hq.t] at e; cases e)⟩, .inl (by unfold ckF; rw [hm 2 (by omega)]), .inr e3, by unfold tkF; rw [hm 3 (by omega)]; exact Int.le_refl _, .inl hq.t, fun j => .inl (by rw [hm 1 (by omega)]), fun o rv _ h1 => ?_, fun j => .inl (by rw [hm 0 (by omega)])⟩
  rcases h1 with h1 | ⟨h1, _⟩
  · left; unfold orW at *; rw [hm 1 (by omega)]; exact h1
  · rw [e2] at h1; cases h1
end

/-! ### Three threads -/

abbrev Ths := Nat → Option aD
def upT (f : Ths) (t : Nat) (s : aD) : Ths := fun u => if u = t then some s else f u
theorem upT_self (f : Ths) (t : Nat) (s : aD) : upT f t s t = some s := if_pos rfl
theorem upT_ne (f : Ths) {t u : Nat} (s : aD) (h : u ≠ t) : upT f t s u = f u := if_neg h
/-- Behind this version, or about to be. -/
def EfS (f : Ths) (M : Mm) (o rv : Int) : Prop := rv < orW M o / 64 ∨ ∃ u s, f u = some s ∧ cmS s = true ∧ o ∈ lkL s
def hasSn (s : aD) : Prop := ∃ e, s.br = some e ∧ 2 ≤ e.cj

structure SnT (c : bG) (f : Ths) (sn : List Int) (rd : Int) (s : aD) (M : Mm) : Prop where
  has : s.av ≠ 0 → s.aA = .ej ∨ hasSn s
  e0 : E0 s
  rv : hasSn s → 0 ≤ s.rv ∧ s.rv ≤ ckF M
  len : hasSn s → sn.length = (M 0).length
  dat : hasSn s → ∀ a : Nat, (M 0).getD a 0 = sn.getD a 0 ∨ EfS f M (fJ c a) s.rv
  rea : ∀ r u, s.aA = .bz r u → (∀ b, u = .cM b → c.aF ≤ r.cA) ∧ (1 ≤ r.cj → r.d8 % 64 = 0 ∧ r.d8 / 64 ≤ s.rv) ∧
    (r.cj = 2 → rd = r.cA ∧ (r.value = sn.getD r.cA.toNat 0 ∨ EfS f M (fJ c r.cA) s.rv))

structure SnI (c : bG) (k : Nat) (f : Ths) (sn : Nat → List Int) (rd : Nat → Int) (M : Mm) : Prop where
  mok : oR c 3 k M
  ok : ∀ t s, f t = some s → oW c k s ∧ s.ag = t ∧ t < 3
  ti : ∀ t s, f t = some s → TInv c s M
  dis : ∀ t u s r n m, f t = some s → f u = some r → t ≠ u → tkS s = some n → tkS r = some m → n ≠ m
  sn : ∀ t s, f t = some s → SnT c f (sn t) (rd t) s M
  cC : ∀ t s, f t = some s → s.av = 2 → s.aA = .bm

theorem fin_step {s : aD} {M : Mm} (h : s.av = 2 → s.aA = .bm) : (cD s M).2.2.1.av = 2 → (cD s M).2.2.1.aA = .bm := by
  intro e
  rw [BL] at e
  cases hd : s.aA with
  | fW => unfold cD; rw [hd]
  | _ =>
    rw [hd] at e
    have h2 := h e
    unfold cD
    rw [h2]
    exact h2
theorem cm_dn {s : aD} (h : cmS s = true) : dnS s = true := by
  unfold cmS at h
  unfold dnS
  revert h
  cases s.aA <;> intro h <;> first
    | rfl
    | cases h
theorem dn_tk {c : bG} {k : Nat} {s : aD} (h : oW c k s) (hd : dnS s = true) : ∃ n, tkS s = some n := by
  have hD := h.d
  unfold dnS at hd
  unfold tkS
  revert hd hD
  cases s.aA <;> intro hd hD <;> first
    | (cases hd; done)
    | skip
  · obtain ⟨_, _, ⟨t, ht⟩, _⟩ := hD; dsimp only; rw [ht]; exact ⟨_, rfl⟩
  · obtain ⟨_, _, t, ht⟩ := hD; dsimp only; rw [ht]; exact ⟨_, rfl⟩
  · obtain ⟨_, _, _, ⟨t, ht⟩, _⟩ := hD; dsimp only; rw [ht]; exact ⟨_, rfl⟩
  · obtain ⟨_, _, _, ⟨t, ht⟩, _⟩ := hD; dsimp only; rw [ht]; exact ⟨_, rfl⟩
  · obtain ⟨_, _, t, ht⟩ := hD; dsimp only; rw [ht]; exact ⟨_, rfl⟩
  · obtain ⟨_, t, ht⟩ := hD; dsimp only; rw [ht]; exact ⟨_, rfl⟩

section
variable {c : bG} {k : Nat} {f : Ths} {sn : Nat → List Int} {rd : Nat → Int} {M M' : Mm} {v : Nat} {s s' : aD}
/-- Only one thread has its turn. -/
theorem SnI.bu (h : SnI c k f sn rd M) {t u : Nat} {s r : aD} (hs : f t = some s) (hr : f u = some r) (h1 : dnS s = true) (h2 : dnS r = true) : t = u := by
  apply Classical.byContradiction
  intro ke
  obtain ⟨n, hn⟩ := dn_tk (h.ok t s hs).1 h1
  obtain ⟨m, hm⟩ := dn_tk (h.ok u r hr).1 h2
  have e1 := ((h.ti t s hs).tk n hn).2 h1
  have e2 := ((h.ti u r hr).tk m hm).2 h2
  exact h.dis t u s r n m hs hr ke hn hm (e1.trans e2.symm)
/-- What is behind a version stays so. -/
theorem SnI.ef (h : SnI c k f sn rd M) (hv : f v = some s) (he : Eff c s M s' M') {o rv : Int} (XA : rv ≤ ckF M) (h1 : EfS f M o rv) : EfS (upT f v s') M' o rv := by
  rcases h1 with h1 | ⟨u, r, hu, hc, ho⟩
  · rcases he.sy o rv XA (.inl h1) with h2 | ⟨h2, h3⟩
    · exact .inl h2
    · exact .inr ⟨v, s', upT_self f v s', h2, h3⟩
  · by_cases ke : u = v
    · subst ke
      rw [hv] at hu
      injection hu with hu
      subst hu
      rcases he.sy o rv XA (.inr ⟨hc, ho⟩) with h2 | ⟨h2, h3⟩
      · exact .inl h2
      · exact .inr ⟨u, s', upT_self f u s', h2, h3⟩
    · exact .inr ⟨u, r, (upT_ne f s' ke).trans hu, hc, ho⟩
theorem SnI.ck (h : SnI c k f sn rd M) (he : Eff c s M s' M') : ckF M ≤ ckF M' := by
  rcases he.H2 with h1 | ⟨_, h1⟩
  · omega
  · exact h1
/-- What the others keep, when one thread steps. -/
theorem SnI.Ok (h : SnI c k f sn rd M) (hv : f v = some s) (he : Eff c s M s' M') (hth : s'.ag = s.ag) (hl : (M' 0).length = (M 0).length) {t : Nat} {r : aD} (ht : f t = some r) (ke : t ≠ v) : TInv c r M' ∧ SnT c (upT f v s') (sn t) (rd t) r M' := by
  have hT := h.ti t r ht
  have hS := h.sn t r ht
  obtain ⟨hA, ht1, Zi⟩ := h.ok t r ht
  obtain ⟨_, vN, Kl⟩ := h.ok v s hv
  have zJ := h.ck he
  have uc : ∀ i, i < (lkL r).length → orW M' ((lkL r).getD i 0) = orW M ((lkL r).getD i 0) := by
    intro i hi
    have h1 := (hT.lk i hi).1
    rcases he.m1 ((lkL r).getD i 0).toNat with h2 | h2 | h2
    · exact h2
    · have h3 : orW M ((lkL r).getD i 0) % 64 = 0 := h2
      have := hA.b.G2
      omega
    · have h3 : orW M ((lkL r).getD i 0) % 64 = s.ag + 1 := h2
      omega
  refine ⟨⟨hT.nod, fun i hi => ?_, fun e => ?_, hT.lg, fun n e => ?_⟩, ⟨hS.has, hS.e0, fun e => ?_, fun e => ?_, fun e a => ?_, fun q u hq => ?_⟩⟩
  · rw [uc i hi]; exact hT.lk i hi
  · rcases he.H2 with h1 | ⟨h1, _⟩
    · rw [h1]; exact hT.cm e
    · exact absurd (h.bu ht hv (cm_dn e) (cm_dn h1)) ke
  · obtain ⟨h1, h2⟩ := hT.tk n e
    refine ⟨by have := he.tkn; omega, fun e2 => ?_⟩
    rcases he.sv with h3 | h3
    · rw [h3]; exact h2 e2
    · exact absurd (h.bu ht hv e2 h3) ke
  · have := hS.rv e; omega
  · rw [hl]; exact hS.len e
  · have XA := (hS.rv e).2
    rcases he.m0 a with h1 | ⟨h1, h2⟩
    · rcases hS.dat e a with h3 | h3
      · exact .inl (h1.trans h3)
      · exact .inr (h.ef hv he XA h3)
    · exact .inr (.inr ⟨v, s', upT_self f v s', h1, h2⟩)
  · obtain ⟨h1, h2, h3⟩ := hS.rea q u hq
    refine ⟨h1, h2, fun e => ⟨(h3 e).1, ?_⟩⟩
    have hn : hasSn r := by
      have dn : r.av ≠ 0 := fun e0 => by
        have := (hS.e0 e0).2
        rw [hq] at this; cases this
      rcases hS.has dn with h4 | h4
      · rw [hq] at h4; cases h4
      · exact h4
    rcases (h3 e).2 with h4 | h4
    · exact .inl h4
    · exact .inr (h.ef hv he (hS.rv hn).2 h4)
/-- One thread steps: what holds of all, when it is known what holds of this one. -/
theorem SnI.Ii (h : SnI c k f sn rd M) (hv : f v = some s) (he : Eff c s M s' M') (hA : oW c (k + 1) s') (hM : oR c 3 (k + 1) M') (hth : s'.ag = s.ag) (hf : s'.av = 2 → s'.aA = .bm) {sn' : Nat → List Int} {rd' : Nat → Int} (Xy : ∀ t, t ≠ v → sn' t = sn t) (Mt : ∀ t, t ≠ v → rd' t = rd t)
    (hS : SnT c (upT f v s') (sn' v) (rd' v) s' M') : SnI c (k + 1) (upT f v s') sn' rd' M' := by
  have hl : (M' 0).length = (M 0).length := by have h1 := hM.l0; have h2 := h.mok.l0; omega
  refine ⟨hM, fun t r hr => ?_, fun t r hr => ?_, ?_, fun t r hr => ?_, fun t r hr => ?_⟩
  · by_cases ke : t = v
    · subst ke
      rw [upT_self] at hr
      injection hr with hr
      subst hr
      exact ⟨hA, hth.trans (h.ok t s hv).2.1, (h.ok t s hv).2.2⟩
    · rw [upT_ne f s' ke] at hr
      obtain ⟨h1, h2⟩ := h.ok t r hr
      exact ⟨h1.mono (Nat.le_succ k), h2⟩
  · by_cases ke : t = v
    · subst ke
      rw [upT_self] at hr
      injection hr with hr
      subst hr
      exact he.ti
    · rw [upT_ne f s' ke] at hr
      exact (h.Ok hv he hth hl hr ke).1
  · -- tickets
    have key : ∀ u r m n, f u = some r → u ≠ v → tkS r = some m → tkS s' = some n → n ≠ m := by
      intro u r m n hu ke hm hn
      rcases he.tks with h1 | h1 | h1
      · rw [h1] at hn; cases hn
      · rw [h1] at hn
        exact h.dis v u s r n m hv hu (Ne.symm ke) hn hm
      · rw [h1] at hn
        injection hn with hn
        have := ((h.ti u r hu).tk m hm).1
        omega
    intro t u r1 r2 n m h1 h2 ke hn hm
    by_cases ht : t = v
    · subst ht
      rw [upT_self] at h1
      injection h1 with h1
      subst h1
      rw [upT_ne f s' (Ne.symm ke)] at h2
      exact key u r2 m n h2 (Ne.symm ke) hm hn
    · rw [upT_ne f s' ht] at h1
      by_cases hu : u = v
      · subst hu
        rw [upT_self] at h2
        injection h2 with h2
        subst h2
        exact (key t r1 n m h1 ht hn hm).symm
      · rw [upT_ne f s' hu] at h2
        exact h.dis t u r1 r2 n m h1 h2 ke hn hm
  · by_cases ke : t = v
    · subst ke
      rw [upT_self] at hr
      injection hr with hr
      subst hr
      exact hS
    · rw [upT_ne f s' ke] at hr
      rw [Xy t ke, Mt t ke]
      exact (h.Ok hv he hth hl hr ke).2
  · by_cases ke : t = v
    · subst ke
      rw [upT_self] at hr
      injection hr with hr
      subst hr
      exact hf
    · rw [upT_ne f s' ke] at hr
      exact h.cC t r hr
end

/-! ### The one that steps -/

section
variable {c : bG} {nt k : Nat} {s : aD} {M : Mm}
theorem quiet_of {s : aD} (h : match s.aA with | .bm | .jV _ | .ej | .bz _ _ | .eE _ | .eZ _ | .fW => True | _ => False) : Quiet s := by
  revert h
  cases hd : s.aA <;> intro h <;> first
    | exact h.elim
    | (refine ⟨?_, ?_, ?_, ?_⟩ <;> simp [lkL, cmS, tkS, dnS, hd])
theorem EffR.calm {r : ri} (h : Quiet s) (h1 : Calm r.2.2.1 ∧ Cal2 r.2.2.1 ∧ Like M r.2.2.2) (hc : r.2.2.1.cf = c) : EffR c s M r := Eff.calm h h1.1 h1.2.1 hc h1.2.2
theorem read_cc (r : dY) (u : qX) (he : fe s) : Calm (dZ s M r u).2.2.1 ∧ Cal2 (dZ s M r u).2.2.1 ∧ Like M (dZ s M r u).2.2.2 := by
  have hm : Like M (cB r M).2.2 := by rw [(rJ r M).2.2.2]; exact .refl M
  unfold dZ
  dsimp only
  split
  · exact ⟨trivial, trivial, hm⟩
  · split
    · exact ⟨undo_calm _ _, undo_cal2 _ _, hm⟩
    · split
      · have hp : PreA { (if r.cA < s.cf.aF ∧ ¬ r.cA ∈ s.ah then { { s with aA := .bz (cB r M).2.1 u } with ah := s.ah ++ [r.cA] } else { s with aA := .bz (cB r M).2.1 u }) with set := (cr s.cf.ah.toNat s.set r.dl).2, aA := .bm } := by
          refine ⟨?_, rfl⟩
          split <;> exact he.to rfl rfl rfl rfl rfl
        exact ⟨use_calm hp _ _, use_cal2 hp _ _, hm⟩
      · exact ⟨undo_calm _ _, undo_cal2 _ _, hm⟩
theorem pop_cc (p : mN) (he : fe s) : Calm (mE s M p).2.2.1 ∧ Cal2 (mE s M p).2.2.1 ∧ Like M (mE s M p).2.2.2 := by
  have hm := pop_like p M
  unfold mE
  dsimp only
  split
  · have hp : PreA { s with aA := .bm } := ⟨he.to rfl rfl rfl rfl rfl, rfl⟩
    exact ⟨alloc_calm hp _ _, alloc_cal2 hp _ _, hm⟩
  · exact ⟨trivial, trivial, hm⟩
theorem push_cc (p : kM) : Calm (kv s M p).2.2.1 ∧ Cal2 (kv s M p).2.2.1 ∧ Like M (kv s M p).2.2.2 := by
  have hm := push_like p M
  unfold kv
  dsimp only
  split
  · exact ⟨finish_calm _, finish_cal2 _, hm⟩
  · exact ⟨trivial, trivial, hm⟩
theorem enter_cc (e : dC) (hd : s.aA = .ej) : Calm (gD s M e).2.2.1 ∧ Cal2 (gD s M e).2.2.1 ∧ Like M (gD s M e).2.2.2 := by
  have hm := enter_like e M
  unfold gD
  dsimp only
  split
  · exact ⟨trivial, trivial, hm⟩
  · refine ⟨?_, ?_, hm⟩
    · unfold Calm; dsimp only; rw [hd]; trivial
    · unfold Cal2; dsimp only; rw [hd]; trivial

theorem step_eff (hc : dt c) (hk : k < 2^40) (h : oW c k s) (hM : oR c nt k M) (hT : TInv c s M) : EffR c s M (cD s M) := by
  have hb := h.b
  have hd := h.d
  have gt : (cD s M).2.2.1.cf = c := (BY hc hk h hM).1.b.cf
  revert gt
  unfold cD
  cases e : s.aA with
  | bm =>
    intro gt
    exact EffR.of (Eff.quiet (quiet_of (by rw [e]; trivial)) (quiet_of (by rw [e]; trivial)) (by unfold lgS; rw [e]; trivial) (.refl M))
  | jV l =>
    intro gt
    rw [e] at hd
    have hp : PreA { s with aA := .bm } := ⟨hd.1.to rfl rfl rfl rfl rfl, rfl⟩
    exact EffR.calm (quiet_of (by rw [e]; trivial)) ⟨loc_calm hp l, loc_cal2 hp l, .refl M⟩ gt
  | ej =>
    rw [e] at hd
    obtain ⟨h0, en, h1, _⟩ := hd
    dsimp only
    rw [h1]
    intro gt
    exact EffR.calm (quiet_of (by rw [e]; trivial)) (enter_cc en e) gt
  | bz r u =>
    intro gt
    rw [e] at hd
    exact EffR.calm (quiet_of (by rw [e]; trivial)) (read_cc r u hd.1) gt
  | eE p =>
    intro gt
    rw [e] at hd
    exact EffR.calm (quiet_of (by rw [e]; trivial)) (pop_cc p hd.1) gt
  | fF =>
    rw [e] at hd
    obtain ⟨h0, OL, l, h1, h2, h3, h4, h5⟩ := hd
    dsimp only
    rw [h1]
    intro _
    exact lock_eff hM hk hb l h1 h0.1 h2 h3 h4 h5 e hT
  | dI =>
    rw [e] at hd
    obtain ⟨h0, hl, t, h1, h2, h3⟩ := hd
    dsimp only
    rw [h1]
    intro _
    exact turn_eff hM hk h t h1 h2 e hT
  | dG ck =>
    intro _
    rw [e] at hd
    obtain ⟨h0, hl, ⟨t, ht⟩, _⟩ := hd
    exact check_eff ck h0.2 t ht e hT
  | cN =>
    intro _
    rw [e] at hd
    obtain ⟨h0, hl, t, ht⟩ := hd
    exact decide_eff hM h0.2 hl.2 t ht e hT
  | et w =>
    intro _
    rw [e] at hd
    obtain ⟨h0, mf, hl, ⟨t, ht⟩, q, h1, h2⟩ := hd
    exact write_eff hM hb w mf t ht q h1 h2 e hT
  | cK w =>
    intro _
    rw [e] at hd
    obtain ⟨h0, mf, hl, ⟨t, ht⟩, q, h1, h2⟩ := hd
    exact rel_eff hM hk hb w mf t ht q h1 h2 e hT
  | ij =>
    intro _
    rw [e] at hd
    obtain ⟨h0, mf, t, ht⟩ := hd
    exact stamp_eff hM hk hb t ht e hT _ _
  | fm =>
    intro gt
    rw [e] at hd
    obtain ⟨h0, t, ht⟩ := hd
    exact pass_eff hb t ht e gt _ _ _
  | eZ p =>
    intro gt
    exact EffR.calm (quiet_of (by rw [e]; trivial)) (push_cc p) gt
  | fW =>
    intro gt
    exact EffR.calm (quiet_of (by rw [e]; trivial)) ⟨trivial, trivial, .op M (by omega)⟩ gt
end

theorem finishS_ent (s : aD) : (gg s).br = s.br := by unfold gg; split <;> rfl
theorem undoS_ent (s : aD) (ax : Int) : (gy s ax).br = s.br := finishS_ent _
theorem endS_ent (s : aD) (ax : Int) : (nN s ax).br = s.br := by unfold nN; split <;> rfl
theorem restoreS_ent (s : aD) : (fH s).br = s.br := by unfold fH; split <;> rfl
theorem putS_ent (s : aD) (a v : Int) : (iI s a v).2.br = s.br := by
  unfold iI
  split
  · rfl
  · exact undoS_ent s 3
theorem freedS_ent (s : aD) (b st : Int) : (jX s b st).br = s.br := by
  unfold jX
  split
  · exact endS_ent s 8
  · split
    · exact undoS_ent s 3
    · split
      · exact putS_ent s _ 0
      · exact putS_ent s _ 0
theorem zerosS_ent : ∀ (n : Nat) (a : Int) (s : aD), (hY n a s).2.br = s.br
  | 0, _, _ => rfl
  | n + 1, a, s => by
    unfold hY
    split
    · rw [zerosS_ent n]; exact putS_ent s a 0
    · exact putS_ent s a 0
theorem allocatedS_ent (s : aD) (dB gi : Int) : (fV s dB gi).br = s.br := by
  unfold fV
  split
  · exact undoS_ent s 4
  · dsimp only
    split
    · split
      · show (hY _ _ _).2.br = _
        rw [zerosS_ent]; exact putS_ent { s with ac := s.ac ++ [gi] } _ _
      · rw [zerosS_ent]; exact putS_ent { s with ac := s.ac ++ [gi] } _ _
    · exact putS_ent { s with ac := s.ac ++ [gi] } _ _
theorem locS_ent (s : aD) (l : vu) : (nK s l).br = s.br := by
  cases l with
  | fu a v =>
    unfold nK
    dsimp only
    split
    · exact endS_ent s 7
    · exact putS_ent s a v
  | fy => exact endS_ent s 7
  | Gw => exact endS_ent s 8
  | cC ax => exact endS_ent s ax
  | take v => rfl
  | r9 => exact undoS_ent s 3
  | cM b v => exact freedS_ent s b v
theorem useS_ent (s : aD) (v : Int) (u : qX) : (AD s v u).br = s.br := by
  cases u with
  | take => rfl
  | cM b => exact freedS_ent s b v
theorem attStep_ent (s : aD) (M : Mm) (ke : s.aA ≠ .ej) : (cD s M).2.2.1.br = s.br := by
  unfold cD
  cases hd : s.aA with
  | fW => rfl
  | bm => rfl
  | jV k => exact locS_ent _ k
  | ej => exact absurd hd ke
  | bz r u =>
    show (dZ s M r u).2.2.1.br = s.br
    unfold dZ
    dsimp only
    split
    · rfl
    · split
      · exact undoS_ent _ 9
      · split
        · dsimp only
          rw [useS_ent]
          split <;> rfl
        · dsimp only
          rw [undoS_ent]
          split <;> rfl
  | eE p =>
    show (mE s M p).2.2.1.br = s.br
    unfold mE
    dsimp only
    split
    · rw [allocatedS_ent]
    · rfl
  | fF =>
    dsimp only
    cases s.aG with
    | none => rfl
    | some l =>
      dsimp only [jk]
      split <;> rfl
  | dI =>
    dsimp only
    cases s.aE with
    | none => rfl
    | some t =>
      dsimp only [im]
      split <;> rfl
  | dG ck =>
    show (hU s M ck).2.2.1.br = s.br
    unfold hU
    dsimp only
    split
    · rw [restoreS_ent]
    · split <;> rfl
  | cN =>
    show (fb s M).2.2.1.br = s.br
    unfold fb
    dsimp only
    split
    · rw [restoreS_ent]
    · split
      · rfl
      · rw [restoreS_ent]
  | et w =>
    show (iZ s M w).2.2.1.br = s.br
    unfold iZ
    dsimp only
    split <;> rfl
  | cK w => rfl
  | ij => rfl
  | fm => exact finishS_ent s
  | eZ p =>
    show (kv s M p).2.2.1.br = s.br
    unfold kv
    dsimp only
    split
    · rw [finishS_ent]
    · rfl

/-! ### The one that steps: what it has read -/

section
variable {c : bG} {k : Nat} {f : Ths} {sn : Nat → List Int} {rd : Nat → Int} {M M' : Mm} {v : Nat} {s s' : aD}
/-- The general case: no new snapshot. -/
theorem SnI.self (h : SnI c k f sn rd M) (hv : f v = some s) (he : Eff c s M s' M') (hl : (M' 0).length = (M 0).length) (Xy : hasSn s' → hasSn s ∧ s'.rv = s.rv) (dn : s'.av ≠ 0 → s'.aA = .ej ∨ hasSn s') (hE : E0 s') {rd' : Int}
    (OA : ∀ r u, s'.aA = .bz r u → (∀ b, u = .cM b → c.aF ≤ r.cA) ∧ (1 ≤ r.cj → r.d8 % 64 = 0 ∧ r.d8 / 64 ≤ s'.rv) ∧
      (r.cj = 2 → rd' = r.cA ∧ (r.value = (sn v).getD r.cA.toNat 0 ∨ EfS (upT f v s') M' (fJ c r.cA) s'.rv))) : SnT c (upT f v s') (sn v) rd' s' M' := by
  have hS := h.sn v s hv
  have zJ := h.ck he
  refine ⟨dn, hE, fun e => ?_, fun e => ?_, fun e a => ?_, OA⟩
  · obtain ⟨h1, h2⟩ := Xy e
    have := hS.rv h1
    rw [h2]; omega
  · rw [hl]; exact hS.len (Xy e).1
  · obtain ⟨h1, h2⟩ := Xy e
    rw [h2]
    rcases he.m0 a with h3 | ⟨h3, h4⟩
    · rcases hS.dat h1 a with h5 | h5
      · exact .inl (h3.trans h5)
      · exact .inr (h.ef hv he (hS.rv h1).2 h5)
    · exact .inr (.inr ⟨v, s', upT_self f v s', h3, h4⟩)
theorem hasSn_ent {s s' : aD} (h : s'.br = s.br) : (hasSn s' ↔ hasSn s) ∧ s'.rv = s.rv := by
  unfold hasSn aD.rv
  rw [h]
  exact ⟨Iff.rfl, rfl⟩
/-- Which phase tells what. -/
theorem enter_ph (e : dC) (M : Mm) (pE : 0 ≤ e.cj ∧ e.cj ≤ 2) : (gD s M e).2.1 = 4 ∨ ((gD s M e).2.1 = 2 ∧ e.cj = 0) ∨ (((gD s M e).2.1 = 3 ∨ (gD s M e).2.1 = 2) ∧ e.cj = 1) := by
  unfold gD
  rcases u9 e M pE with ⟨h0, e0⟩ | ⟨h0, e0⟩ | ⟨h0, e0⟩
  · rw [e0]
    dsimp only
    rw [if_neg (by decide)]
    right; left
    refine ⟨?_, h0⟩
    dsimp only
    rw [if_neg]
    unfold dC.kc
    rw [if_pos (by omega), if_pos (by show (1 : Int) ≤ 1; omega)]
    simp
  · rw [e0]
    dsimp only
    rw [if_neg (by decide)]
    right; right
    refine ⟨?_, h0⟩
    dsimp only
    split
    · exact .inl rfl
    · exact .inr rfl
  · rw [e0]
    dsimp only
    rw [if_pos rfl]
    exact .inl rfl
end

/-- No read has begun. -/
def Cal3 (s : aD) : Prop := ∀ r u, s.aA ≠ .bz r u
theorem finish_cal3 (s : aD) : Cal3 (gg s) := by
  unfold gg
  split <;> exact fun r u e => (by cases e)
theorem undo_cal3 (s : aD) (ax : Int) : Cal3 (gy s ax) := finish_cal3 _
theorem end_cal3 {s : aD} (h : fe s) (ax : Int) : Cal3 (nN s ax) := by
  unfold nN
  split <;> exact fun r u e => (by cases e)
theorem restore_cal3 (s : aD) : Cal3 (fH s) := by
  unfold fH
  split <;> exact fun r u e => (by cases e)
theorem PreA.cal3 {s : aD} (h : PreA s) : Cal3 s := fun r u e => by rw [h.2] at e; cases e
theorem put_pre3 {s : aD} (h : PreA s) (a v : Int) : ((iI s a v).1 = true → PreA (iI s a v).2) ∧ Cal3 (iI s a v).2 := by
  unfold iI
  split
  · have : PreA { s with aM := (di s.aM a v).2 } := ⟨h.1.to rfl rfl rfl rfl rfl, h.2⟩
    exact ⟨fun _ => this, this.cal3⟩
  · exact ⟨fun e => (by cases e), undo_cal3 s 3⟩
theorem freed_cal3 {s : aD} (h : PreA s) (b st : Int) : Cal3 (jX s b st) := by
  unfold jX
  split
  · exact end_cal3 h.1 8
  · split
    · exact undo_cal3 s 3
    · have := put_pre3 h (s.cf.aF + b) 0
      split
      · rename_i e
        have h2 := this.1 e
        exact PreA.cal3 ⟨h2.1.to rfl rfl rfl rfl rfl, h2.2⟩
      · exact this.2
theorem zeros_pre3 : ∀ (n : Nat) (a : Int) (s : aD), PreA s → ((hY n a s).1 = true → PreA (hY n a s).2) ∧ Cal3 (hY n a s).2
  | 0, _, s, h => ⟨fun _ => h, h.cal3⟩
  | n + 1, a, s, h => by
    unfold hY
    have := put_pre3 h a 0
    split
    · rename_i e
      exact zeros_pre3 n (a + 1) _ (this.1 e)
    · exact ⟨fun e => (by cases e), this.2⟩
theorem alloc_cal3 {s : aD} (h : PreA s) (dB gi : Int) : Cal3 (fV s dB gi) := by
  unfold fV
  split
  · exact undo_cal3 s 4
  · have h1 : PreA { s with ac := s.ac ++ [gi] } := ⟨h.1.to rfl rfl rfl rfl rfl, h.2⟩
    have := put_pre3 h1 (s.cf.aF + gi) (dB + 1)
    dsimp only
    split
    · rename_i e
      have hz := zeros_pre3 (2 ^ dB.toNat) (eL s.cf gi) _ (this.1 e)
      split
      · rename_i e2
        have h2 := hz.1 e2
        exact PreA.cal3 ⟨h2.1.to rfl rfl rfl rfl rfl, h2.2⟩
      · exact hz.2
    · exact this.2
theorem loc_cal3 {s : aD} (h : PreA s) (l : vu) : Cal3 (nK s l) := by
  cases l with
  | fu a v =>
    unfold nK
    dsimp only
    split
    · exact end_cal3 h.1 7
    · exact (put_pre3 h a v).2
  | fy => exact end_cal3 h.1 7
  | Gw => exact end_cal3 h.1 8
  | cC ax => exact end_cal3 h.1 ax
  | take v => exact PreA.cal3 ⟨h.1.to rfl rfl rfl rfl rfl, h.2⟩
  | r9 => exact undo_cal3 s 3
  | cM b v => exact freed_cal3 h b v
theorem use_cal3 {s : aD} (h : PreA s) (v : Int) (u : qX) : Cal3 (AD s v u) := by
  cases u with
  | take => exact PreA.cal3 ⟨h.1.to rfl rfl rfl rfl rfl, h.2⟩
  | cM b => exact freed_cal3 h b v
theorem no_read {c : bG} {k : Nat} {s : aD} {M : Mm} (h : oW c k s) (ke : Cal3 s) : Cal3 (cD s M).2.2.1 := by
  have hd := h.d
  unfold cD
  cases e : s.aA with
  | bm => exact ke
  | jV l =>
    rw [e] at hd
    exact loc_cal3 (s := { s with aA := .bm }) ⟨hd.1.to rfl rfl rfl rfl rfl, rfl⟩ l
  | ej =>
    dsimp only
    cases s.br with
    | none => exact ke
    | some en =>
      dsimp only [gD]
      split
      · exact fun r u e => (by cases e)
      · exact ke
  | bz r u => exact absurd e (ke r u)
  | eE p =>
    rw [e] at hd
    show Cal3 (mE s M p).2.2.1
    unfold mE
    dsimp only
    split
    · exact alloc_cal3 (s := { s with aA := .bm }) ⟨hd.1.to rfl rfl rfl rfl rfl, rfl⟩ _ _
    · exact fun r u e => (by cases e)
  | fF =>
    dsimp only
    cases s.aG with
    | none => exact ke
    | some l =>
      dsimp only [jk]
      split
      · exact fun r u e => (by cases e)
      · exact ke
  | dI =>
    dsimp only
    cases s.aE with
    | none => exact ke
    | some t =>
      dsimp only [im]
      split
      · intro r u e
        dsimp only at e
        split at e <;> cases e
      · exact ke
  | dG ck =>
    show Cal3 (hU s M ck).2.2.1
    unfold hU
    dsimp only
    split
    · exact restore_cal3 _
    · split <;> exact fun r u e => (by cases e)
  | cN =>
    show Cal3 (fb s M).2.2.1
    unfold fb
    dsimp only
    split
    · exact restore_cal3 _
    · split
      · exact fun r u e => (by cases e)
      · exact restore_cal3 _
  | et w =>
    show Cal3 (iZ s M w).2.2.1
    unfold iZ
    dsimp only
    split <;> exact fun r u e => (by cases e)
  | cK w =>
    intro r u e
    have e : (if (j3 w M).2.1.done = true then (if 0 ≤ s.sy then ba.ij else .fm) else .cK (j3 w M).2.1) = .bz r u := e
    split at e
    · split at e <;> cases e
    · cases e
  | ij => exact fun r u e => (by cases e)
  | fm => exact finish_cal3 s
  | eZ p =>
    show Cal3 (kv s M p).2.2.1
    unfold kv
    dsimp only
    split
    · exact finish_cal3 _
    · exact fun r u e => (by cases e)
  | fW => exact fun r u e => (by cases e)
theorem ph_other {s : aD} {M : Mm} (h1 : s.aA ≠ .ej) (h2 : Cal3 s) : (cD s M).2.1 ≠ 3 ∧ (cD s M).2.1 ≠ 6 ∧ (cD s M).2.1 ≠ 7 := by
  have hpop : ∀ a : bq, gZ a ≠ 3 ∧ gZ a ≠ 6 ∧ gZ a ≠ 7 := fun a => by unfold gZ; split <;> (try split) <;> decide
  have hpush : ∀ a : bq, gu a ≠ 3 ∧ gu a ≠ 6 ∧ gu a ≠ 7 := fun a => by unfold gu; split <;> (try split) <;> decide
  unfold cD
  cases e : s.aA with
  | ej => exact absurd e h1
  | bz r u => exact absurd e (h2 r u)
  | eE p => exact hpop _
  | eZ p => exact hpush _
  | fF =>
    dsimp only
    cases s.aG with
    | none => exact (by show (0 : Int) ≠ 3 ∧ (0 : Int) ≠ 6 ∧ (0 : Int) ≠ 7; decide)
    | some l => dsimp only [jk]; split <;> decide
  | dI =>
    dsimp only
    cases s.aE with
    | none => exact (by show (0 : Int) ≠ 3 ∧ (0 : Int) ≠ 6 ∧ (0 : Int) ≠ 7; decide)
    | some t => dsimp only [im]; split <;> decide
  | dG ck => show (15 : Int) ≠ 3 ∧ (15 : Int) ≠ 6 ∧ (15 : Int) ≠ 7; decide
  | cN => show (16 : Int) ≠ 3 ∧ (16 : Int) ≠ 6 ∧ (16 : Int) ≠ 7; decide
  | et w => show (17 : Int) ≠ 3 ∧ (17 : Int) ≠ 6 ∧ (17 : Int) ≠ 7; decide
  | cK w => show (18 : Int) ≠ 3 ∧ (18 : Int) ≠ 6 ∧ (18 : Int) ≠ 7; decide
  | bm => show (0 : Int) ≠ 3 ∧ (0 : Int) ≠ 6 ∧ (0 : Int) ≠ 7; decide
  | jV l => show (0 : Int) ≠ 3 ∧ (0 : Int) ≠ 6 ∧ (0 : Int) ≠ 7; decide
  | ij => show (19 : Int) ≠ 3 ∧ (19 : Int) ≠ 6 ∧ (19 : Int) ≠ 7; decide
  | fm => show (20 : Int) ≠ 3 ∧ (20 : Int) ≠ 6 ∧ (20 : Int) ≠ 7; decide
  | fW => show (24 : Int) ≠ 3 ∧ (24 : Int) ≠ 6 ∧ (24 : Int) ≠ 7; decide

/-! ### A step, whole -/

def upS {α : Type} (g : Nat → α) (v : Nat) (x : α) : Nat → α := fun t => if t = v then x else g t
theorem upS_self {α : Type} (g : Nat → α) (v : Nat) (x : α) : upS g v x v = x := if_pos rfl
theorem upS_ne {α : Type} (g : Nat → α) {v t : Nat} (x : α) (h : t ≠ v) : upS g v x t = g t := if_neg h
/-- What is checked. -/
def AgOk (c : bG) (sn : List Int) (rd : Int) (r : ri) : Prop := r.2.1 = 7 → r.2.2.1.ax ≠ 9 → rd < c.aF → r.2.2.1.Gu = false → 0 ≤ rd ∧ rd < sn.length ∧ r.2.2.1.value = sn.getD rd.toNat 0
/-- What a step is to give. -/
def StG (c : bG) (k : Nat) (f : Ths) (sn : Nat → List Int) (rd : Nat → Int) (v : Nat) (r : ri) : Prop :=
  SnI c (k + 1) (upT f v r.2.2.1) (if r.2.1 = 3 then upS sn v (r.2.2.2 0) else sn) (if r.2.1 = 6 then upS rd v r.1.cc else rd) r.2.2.2 ∧ AgOk c (sn v) (rd v) r

section
variable {c : bG} {k : Nat} {f : Ths} {sn : Nat → List Int} {rd : Nat → Int} {M M' : Mm} {v : Nat} {s s' : aD}
theorem SnI.live (h : SnI c k f sn rd M) (hv : f v = some s) (hd : s.aA ≠ .bm) (he : s.aA ≠ .ej) : hasSn s := by
  have hS := h.sn v s hv
  have dn : s.av ≠ 0 := fun e0 => hd (hS.e0 e0).2
  rcases hS.has dn with h1 | h1
  · exact absurd h1 he
  · exact h1
theorem SnI.step_other (hc : dt c) (hk : k < 2^40) (h : SnI c k f sn rd M) (hv : f v = some s) (h1 : s.aA ≠ .ej) (h2 : Cal3 s) : StG c k f sn rd v (cD s M) := by
  obtain ⟨hA, ht, EJ⟩ := h.ok v s hv
  have he : Eff c s M (cD s M).2.2.1 (cD s M).2.2.2 := step_eff hc hk hA h.mok (h.ti v s hv)
  obtain ⟨kL, S7⟩ := BY hc hk hA h.mok
  obtain ⟨p1, p2, p3⟩ := ph_other (M := M) h1 h2
  have RT := hasSn_ent (attStep_ent s M h1)
  have hS := h.sn v s hv
  have hl : ((cD s M).2.2.2 0).length = (M 0).length := by have h1 := S7.l0; have h2 := h.mok.l0; omega
  refine ⟨?_, fun e => absurd e p3⟩
  rw [if_neg p1, if_neg p2]
  refine h.Ii hv he kL S7 (attStep_thread s M) (fin_step (h.cC v s hv)) (fun _ _ => rfl) (fun _ _ => rfl) (h.self hv he hl (fun e => ⟨RT.1.1 e, RT.2⟩) (fun e => ?_) (hS.e0.step M) fun r u e => absurd e (no_read hA h2 r u))
  by_cases h0 : s.av = 0
  · have h3 := (hS.e0 h0).2
    have h4 : cD s M = (bq.zero, 0, s, M) := by unfold cD; rw [h3]
    rw [h4] at e
    exact absurd h0 e
  · rcases hS.has h0 with h3 | h3
    · exact absurd h3 h1
    · exact .inr (RT.1.2 h3)
theorem SnI.step_enter (hc : dt c) (hk : k < 2^40) (h : SnI c k f sn rd M) (hv : f v = some s) (hd : s.aA = .ej) : StG c k f sn rd v (cD s M) := by
  obtain ⟨hA, ht, EJ⟩ := h.ok v s hv
  have he : Eff c s M (cD s M).2.2.1 (cD s M).2.2.2 := step_eff hc hk hA h.mok (h.ti v s hv)
  obtain ⟨kL, S7⟩ := BY hc hk hA h.mok
  have hS := h.sn v s hv
  have hD := hA.d
  rw [hd] at hD
  obtain ⟨_, e, h1, h2, h3, h4⟩ := hD
  have ma := hS.e0.step M
  have hthr := attStep_thread s M
  have hfin := fin_step (M := M) (h.cC v s hv)
  have hl : ((cD s M).2.2.2 0).length = (M 0).length := by have h1 := S7.l0; have h2 := h.mok.l0; omega
  have pE : cD s M = gD s M e := by unfold cD; rw [hd]; dsimp only; rw [h1]
  rw [pE] at he kL S7 ma hthr hfin hl ⊢
  unfold gD at he kL S7 ma hthr hfin hl ⊢
  have XA : ∀ e' : dC, ∀ d : ba, ({ { s with br := some e' } with aA := d } : aD).rv = e'.kc := fun _ _ => rfl
  rcases u9 e M h3 with ⟨h0, e0⟩ | ⟨h0, e0⟩ | ⟨h0, e0⟩
  · rw [e0] at he kL S7 ma hthr hfin hl ⊢
    dsimp only at he kL S7 ma hthr hfin hl ⊢
    rw [if_neg (by decide)] at he kL S7 ma hthr hfin hl ⊢
    have Xy : ¬ e.kc ≠ ({ e with cj := 1 } : dC).kc := by
      unfold dC.kc
      rw [if_pos (by omega), if_pos (by show (1 : Int) ≤ 1; omega)]
      simp
    refine ⟨?_, fun e => ?_⟩
    · dsimp only
      rw [if_neg Xy, if_neg (by decide), if_neg (by decide)]
      refine h.Ii hv he kL S7 hthr hfin (fun _ _ => rfl) (fun _ _ => rfl) (h.self hv he hl (fun e => ?_) (fun _ => .inl hd) ma fun r u e => ?_)
      · obtain ⟨e', h5, h6⟩ := e
        injection h5 with h5
        subst h5
        exact absurd h6 (by show ¬ (2 : Int) ≤ 1; omega)
      · have : s.aA = .bz r u := e
        rw [hd] at this; cases this
    · dsimp only at e
      rw [if_neg Xy] at e
      exact absurd e (by decide)
  · rw [e0] at he kL S7 ma hthr hfin hl ⊢
    dsimp only at he kL S7 ma hthr hfin hl ⊢
    rw [if_neg (by decide)] at he kL S7 ma hthr hfin hl ⊢
    have dg : dw M 3 0 = true := hasCell_of (by omega) (by omega) (by show (0 : Int) < ((M 2).length : Int); rw [h.mok.l2]; decide)
    have hgt : (gX M 3 0).fI = ckF M := (opAcc_has dg).1
    have zJ : 0 ≤ ckF M ∧ ckF M ≤ k := h.mok.H2
    have zB : ({ e with cj := 2, ao := (gX M 3 0).fI } : dC).kc = ckF M := by
      unfold dC.kc
      rw [if_neg (by show ¬ (2 : Int) ≤ 1; omega)]
      show IntKind.i64.wrap (gX M 3 0).fI = _
      rw [hgt, ak (by omega) (by omega)]
    have Xy : e.kc ≠ ({ e with cj := 2, ao := (gX M 3 0).fI } : dC).kc := by
      rw [zB]
      unfold dC.kc
      rw [if_pos (by omega)]
      omega
    refine ⟨?_, fun e => ?_⟩
    · dsimp only
      rw [if_pos Xy, if_pos rfl, if_neg (by decide)]
      refine h.Ii hv he kL S7 hthr hfin (fun t ht => upS_ne sn _ ht) (fun _ _ => rfl) ?_
      rw [upS_self]
      have hrv' : ({ s with br := some ({ e with cj := 2, ao := (gX M 3 0).fI } : dC) } : aD).rv = ckF M := zB
      refine ⟨fun _ => .inl hd, ma, fun _ => ?_, fun _ => rfl, fun _ a => .inl rfl, fun r u e => ?_⟩
      · rw [hrv']; exact ⟨zJ.1, Int.le_refl _⟩
      · have : s.aA = .bz r u := e
        rw [hd] at this; cases this
    · dsimp only at e
      rw [if_pos Xy] at e
      exact absurd e (by decide)
  · rw [e0] at he kL S7 ma hthr hfin hl ⊢
    dsimp only at he kL S7 ma hthr hfin hl ⊢
    rw [if_pos rfl] at he kL S7 ma hthr hfin hl ⊢
    refine ⟨?_, fun e => absurd e (by show ¬ (4 : Int) = 7; decide)⟩
    dsimp only
    rw [if_neg (by decide), if_neg (by decide)]
    have F4 : hasSn s := ⟨e, h1, by omega⟩
    have HK : hasSn { { s with br := some ({ e with cj := 3 } : dC) } with aA := .bm } := ⟨_, rfl, by show (2 : Int) ≤ 3; omega⟩
    have hrv2 : ({ { s with br := some ({ e with cj := 3 } : dC) } with aA := .bm } : aD).rv = s.rv := by
      have e1 : s.rv = e.kc := by unfold aD.rv; rw [h1]
      rw [e1]
      show ({ e with cj := 3 } : dC).kc = _
      unfold dC.kc
      rw [if_neg (by show ¬ (3 : Int) ≤ 1; omega), if_neg (by omega)]
    refine h.Ii hv he kL S7 hthr hfin (fun _ _ => rfl) (fun _ _ => rfl) (h.self hv he hl (fun _ => ⟨F4, hrv2⟩) (fun _ => .inr HK) ma fun r u e => by cases e)
end

section
variable {c : bG} {k : Nat} {f : Ths} {sn : Nat → List Int} {rd : Nat → Int} {M M' : Mm} {v : Nat} {s s' : aD}
/-- What is behind no version is free for this reader. -/
theorem SnI.clean (h : SnI c k f sn rd M) {o rv x : Int} (hx : orW M o = x) (h0 : x % 64 = 0) (h1 : x / 64 ≤ rv) : ¬ EfS f M o rv := by
  rintro (h2 | ⟨u, r, hu, hc, ho⟩)
  · rw [hx] at h2; omega
  · obtain ⟨i, hi, zG⟩ := List.getElem_of_mem ho
    have h3 := ((h.ti u r hu).lk i hi).1
    have h4 : (lkL r).getD i 0 = o := by rw [List.getD_eq_getElem?_getD, List.getElem?_eq_getElem hi]; exact zG
    rw [h4, hx] at h3
    have := (h.ok u r hu).1.b.G2
    omega
theorem use_take (s : aD) (x : Int) : (AD s x .take).value = x ∧ (AD s x .take).aA = s.aA := ⟨rfl, rfl⟩
theorem undo_busy (s : aD) (ax : Int) : (gy s ax).Gu = true := by
  unfold gy gg
  split <;> rfl
theorem undo_code (s : aD) (ax : Int) : (gy s ax).ax = ax := by
  unfold gy gg
  split <;> rfl
theorem SnI.step_read (hc : dt c) (hk : k < 2^40) (h : SnI c k f sn rd M) (hv : f v = some s) {r : dY} {u : qX} (hd : s.aA = .bz r u) : StG c k f sn rd v (cD s M) := by
  obtain ⟨hA, ht, EJ⟩ := h.ok v s hv
  have he : Eff c s M (cD s M).2.2.1 (cD s M).2.2.2 := step_eff hc hk hA h.mok (h.ti v s hv)
  obtain ⟨kL, S7⟩ := BY hc hk hA h.mok
  have ke : s.aA ≠ .ej := by rw [hd]; exact fun e => by cases e
  have RT := hasSn_ent (attStep_ent s M ke)
  have hS := h.sn v s hv
  have Xy : hasSn s := h.live hv (by rw [hd]; exact fun e => by cases e) ke
  have hD := hA.d
  rw [hd] at hD
  obtain ⟨hE, h1, h2, h3, h4, h5, h6⟩ := hD
  obtain ⟨g1, g2, g3⟩ := hS.rea r u hd
  have ma := hS.e0.step M
  have hthr := attStep_thread s M
  have hfin := fin_step (M := M) (h.cC v s hv)
  have hl : ((cD s M).2.2.2 0).length = (M 0).length := by have h1 := S7.l0; have h2 := h.mok.l0; omega
  have pE : cD s M = dZ s M r u := by unfold cD; rw [hd]
  have uc : 0 ≤ r.dl ∧ r.dl < c.aj := by rw [h2]; exact KS hc h5
  have dg : dw M 2 r.dl = true := hasCell_of (by omega) uc.1 (by show _ < ((M 1).length : Int); rw [h.mok.l1]; exact uc.2)
  have PN : (gX M 2 r.dl).fI = orW M r.dl := (opAcc_has dg).1
  have Uc := LP h.mok 1 r.dl gF
  have hMe : (cB r M).2.2 = M := (rJ r M).2.2.2
  rw [pE] at he kL S7 ma hthr hfin hl RT ⊢
  -- the general case: no value is to be checked, and nothing is read for a second time
  have gen : ∀ rd', (∀ q w, (dZ s M r u).2.2.1.aA = .bz q w → (∀ b, w = .cM b → c.aF ≤ q.cA) ∧ (1 ≤ q.cj → q.d8 % 64 = 0 ∧ q.d8 / 64 ≤ s.rv) ∧
      (q.cj = 2 → rd' = q.cA ∧ (q.value = (sn v).getD q.cA.toNat 0 ∨ EfS (upT f v (dZ s M r u).2.2.1) (dZ s M r u).2.2.2 (fJ c q.cA) s.rv))) →
      SnT c (upT f v (dZ s M r u).2.2.1) (sn v) rd' (dZ s M r u).2.2.1 (dZ s M r u).2.2.2 := by
    intro rd' OA
    exact h.self hv he hl (fun _ => ⟨Xy, RT.2⟩) (fun _ => .inr (RT.1.2 Xy)) ma fun q w e => by rw [RT.2]; exact OA q w e
  have BD : (dZ s M r u).2.1 = 5 + r.cj := by
    unfold dZ
    dsimp only
    split
    · rfl
    · split
      · rfl
      · split <;> rfl
  have Np : ¬ (dZ s M r u).2.1 = 3 := by rw [BD]; omega
  unfold StG
  rw [if_neg Np]
  by_cases h0 : r.cj = 0
  · have e0 : cB r M = (gX M 2 r.dl, if iF (gX M 2 r.dl).fI ≥ 0 ∨ ge (gX M 2 r.dl).fI > r.rv then { r with d8 := (gX M 2 r.dl).fI, du := true, cj := 3 } else { r with d8 := (gX M 2 r.dl).fI, cj := 1 }, M) := by unfold cB; rw [if_pos h0]
    rw [if_neg (by rw [BD]; omega)]
    refine ⟨h.Ii hv he kL S7 hthr hfin (fun _ _ => rfl) (fun _ _ => rfl) (gen _ fun q w e => ?_), fun e => by rw [BD] at e; omega⟩
    unfold dZ at e
    rw [e0] at e
    by_cases gt : iF (gX M 2 r.dl).fI ≥ 0 ∨ ge (gX M 2 r.dl).fI > r.rv
    · rw [if_pos gt] at e
      dsimp only at e
      rw [if_neg (by show ¬ decide ((3 : Int) = 3) = false; decide), if_pos rfl] at e
      exact absurd e (undo_cal3 _ _ q w)
    · rw [if_neg gt] at e
      dsimp only at e
      rw [if_pos (by show decide ((1 : Int) = 3) = false; decide)] at e
      injection e with e1 e2
      subst e1 e2
      refine ⟨g1, fun _ => ?_, fun e => absurd e (by show ¬ (1 : Int) = 2; omega)⟩
      have hz : (gX M 2 r.dl).fI % 64 = 0 := (DI Uc).1 (by
        show iF (gX M 2 r.dl).fI < 0
        omega)
      have hve := EW (by omega) Uc
      have hve' : ge (gX M 2 r.dl).fI = (gX M 2 r.dl).fI / 64 := hve
      refine ⟨hz, ?_⟩
      show (gX M 2 r.dl).fI / 64 ≤ s.rv
      rw [← hve', ← h6]
      omega
  · by_cases h01 : r.cj = 1
    · have e0 : cB r M = (gX M 1 r.cA, { r with value := (gX M 1 r.cA).fI, cj := 2 }, M) := by unfold cB; rw [if_neg h0, if_pos h01]
      rw [if_pos (by rw [BD]; omega)]
      refine ⟨h.Ii hv he kL S7 hthr hfin (fun _ _ => rfl) (fun t ht => upS_ne rd _ ht) ?_, fun e => by rw [BD] at e; omega⟩
      rw [upS_self]
      have UJ : 0 ≤ r.cA ∧ r.cA < ((M 0).length : Int) := by have := h.mok.l0; omega
      have iz : dw M 1 r.cA = true := hasCell_of (by omega) UJ.1 UJ.2
      have mn : (dZ s M r u).1.cc = r.cA := by
        have : (dZ s M r u).1 = gX M 1 r.cA := by
          unfold dZ
          rw [e0]
          dsimp only
          rw [if_pos (by show decide ((2 : Int) = 3) = false; decide)]
        rw [this]
        unfold gX de
        rw [if_pos iz]
      refine gen _ fun q w e => ?_
      have hdat := h.ef hv he (o := fJ c r.cA) (hS.rv Xy).2
      have Wd : (dZ s M r u).2.2.2 = M := by
        unfold dZ
        rw [e0]
        dsimp only
        rw [if_pos (by show decide ((2 : Int) = 3) = false; decide)]
      unfold dZ at e
      rw [e0] at e
      dsimp only at e
      rw [if_pos (by show decide ((2 : Int) = 3) = false; decide)] at e
      injection e with e1 e2
      subst e1 e2
      refine ⟨g1, fun _ => g2 (by omega), fun _ => ⟨mn, ?_⟩⟩
      show (gX M 1 r.cA).fI = (sn v).getD r.cA.toNat 0 ∨ EfS _ _ (fJ c r.cA) s.rv
      have hg : (gX M 1 r.cA).fI = (M 0).getD r.cA.toNat 0 := (opAcc_has iz).1
      rw [hg]
      rcases hS.dat Xy r.cA.toNat with h7 | h7
      · exact .inl h7
      · rw [Int.toNat_of_nonneg UJ.1] at h7
        exact .inr (hdat h7)
    · have h02 : r.cj = 2 := by omega
      obtain ⟨k1, k2⟩ := g3 h02
      obtain ⟨k3, k4⟩ := g2 (by omega)
      have e0 : cB r M = (gX M 2 r.dl, { r with du := decide ((gX M 2 r.dl).fI ≠ r.d8), cj := 3 }, M) := by unfold cB; rw [if_neg h0, if_neg h01, if_pos h02]
      rw [if_neg (by rw [BD]; omega)]
      refine ⟨h.Ii hv he kL S7 hthr hfin (fun _ _ => rfl) (fun _ _ => rfl) (gen _ fun q w e => ?_), fun _ qi hr hbz => ?_⟩
      · exfalso
        unfold dZ at e
        rw [e0] at e
        dsimp only at e
        rw [if_neg (by show ¬ decide ((3 : Int) = 3) = false; decide)] at e
        split at e
        · exact absurd e (undo_cal3 _ _ q w)
        · split at e
          · refine absurd e (use_cal3 ⟨?_, rfl⟩ _ _ q w)
            split <;> exact hE.to rfl rfl rfl rfl rfl
          · exact absurd e (undo_cal3 _ _ q w)
      · rw [k1] at hr ⊢
        have QD : r.cA < ((sn v).length : Int) := by
          have h7 := hS.len Xy
          have h8 := h.mok.l0
          rw [h7]; omega
        refine ⟨h5.1, QD, ?_⟩
        unfold dZ at qi hbz ⊢
        rw [e0] at qi hbz ⊢
        dsimp only at qi hbz ⊢
        rw [if_neg (by show ¬ decide ((3 : Int) = 3) = false; decide)] at qi hbz ⊢
        split at qi
        · exact absurd (undo_code _ _) qi
        · rename_i gt
          rw [if_neg gt] at hbz ⊢
          have Rw : (gX M 2 r.dl).fI = r.d8 := by simpa using gt
          split at hbz
          · rename_i fz
            rw [if_pos fz]
            cases hu : u with
            | cM b =>
              have := g1 b hu
              omega
            | take =>
              show (if (3 : Int) = 3 ∧ decide ((gX M 2 r.dl).fI ≠ r.d8) = false then r.value else 0) = _
              rw [if_pos ⟨rfl, by simpa using Rw⟩]
              rcases k2 with k2 | k2
              · exact k2
              · rw [← h2] at k2
                exact absurd k2 (h.clean (PN.symm.trans Rw) k3 k4)
          · rw [show aD.Gu (gy _ 3) = true from undo_busy _ 3] at hbz
            cases hbz
theorem SnI.step (hc : dt c) (hk : k < 2^40) (h : SnI c k f sn rd M) (hv : f v = some s) : StG c k f sn rd v (cD s M) := by
  by_cases h1 : s.aA = .ej
  · exact h.step_enter hc hk hv h1
  by_cases h2 : ∃ r u, s.aA = .bz r u
  · obtain ⟨r, u, h2⟩ := h2
    exact h.step_read hc hk hv h2
  · exact h.step_other hc hk hv h1 fun r u e => h2 ⟨r, u, e⟩
end

/-! ### Requests, and fresh attempts -/

theorem ask_sn {c : bG} (q : nc) {s : aD} (gt : s.cf = c) : (xB c q s).2 = s ∨ (Cal2 (xB c q s).2 ∧ (xB c q s).2.br = s.br ∧ ∀ r u, (xB c q s).2.aA = .bz r u → (∀ b, u = .cM b → c.aF ≤ r.cA) ∧ r.cj = 0) := by
  have rd : ∀ a, (Bn s a).2 = s ∨ (Cal2 (Bn s a).2 ∧ (Bn s a).2.br = s.br ∧ ∀ r u, (Bn s a).2.aA = .bz r u → (∀ b, u = .cM b → c.aF ≤ r.cA) ∧ r.cj = 0) := fun a => by
    unfold Bn
    split
    · right
      split
      · exact ⟨trivial, rfl, fun r u e => by cases e⟩
      · split
        · exact ⟨trivial, rfl, fun r u e => by cases e⟩
        · refine ⟨trivial, rfl, fun r u e => ?_⟩
          injection e with e1 e2
          subst e1 e2
          exact ⟨fun b e => (by cases e), rfl⟩
    · exact .inl rfl
  have wt : ∀ a v, (CF s a v).2 = s ∨ (Cal2 (CF s a v).2 ∧ (CF s a v).2.br = s.br ∧ ∀ r u, (CF s a v).2.aA = .bz r u → (∀ b, u = .cM b → c.aF ≤ r.cA) ∧ r.cj = 0) := fun a v => by
    unfold CF
    split
    · exact .inr ⟨trivial, rfl, fun r u e => by cases e⟩
    · exact .inl rfl
  have al : ∀ a, (An s a).2 = s ∨ (Cal2 (An s a).2 ∧ (An s a).2.br = s.br ∧ ∀ r u, (An s a).2.aA = .bz r u → (∀ b, u = .cM b → c.aF ≤ r.cA) ∧ r.cj = 0) := fun a => by
    unfold An
    split
    · split
      · exact .inl rfl
      · right
        split
        · exact ⟨trivial, rfl, fun r u e => by cases e⟩
        · exact ⟨trivial, rfl, fun r u e => by cases e⟩
    · exact .inl rfl
  have fr : ∀ a, (AB s a).2 = s ∨ (Cal2 (AB s a).2 ∧ (AB s a).2.br = s.br ∧ ∀ r u, (AB s a).2.aA = .bz r u → (∀ b, u = .cM b → c.aF ≤ r.cA) ∧ r.cj = 0) := fun a => by
    unfold AB
    split
    · right
      split
      · exact ⟨trivial, rfl, fun r u e => by cases e⟩
      · rename_i hf
        split
        · exact ⟨trivial, rfl, fun r u e => by cases e⟩
        · refine ⟨trivial, rfl, fun r u e => ?_⟩
          injection e with e1 e2
          subst e1 e2
          refine ⟨fun b _ => ?_, rfl⟩
          show c.aF ≤ s.cf.aF + gT s.cf a
          rw [gt] at hf ⊢
          omega
    · exact .inl rfl
  have ed : ∀ a, (xN s a).2 = s ∨ (Cal2 (xN s a).2 ∧ (xN s a).2.br = s.br ∧ ∀ r u, (xN s a).2.aA = .bz r u → (∀ b, u = .cM b → c.aF ≤ r.cA) ∧ r.cj = 0) := fun a => by
    unfold xN
    split
    · split
      · exact .inl rfl
      · exact .inr ⟨trivial, rfl, fun r u e => by cases e⟩
    · exact .inl rfl
  unfold xB
  repeat' split
  all_goals first | exact rd _ | exact wt _ _ | exact al _ | exact fr _ | exact ed _

section
variable {c : bG} {k : Nat} {f : Ths} {sn : Nat → List Int} {rd : Nat → Int} {M : Mm} {v : Nat} {s : aD}
theorem SnI.mono (h : SnI c k f sn rd M) : SnI c (k + 1) f sn rd M :=
  ⟨h.mok.mono (Nat.le_succ k), fun t s hs => ⟨(h.ok t s hs).1.mono (Nat.le_succ k), (h.ok t s hs).2⟩, h.ti, h.dis, h.sn, h.cC⟩
theorem upT_id {f : Ths} {v : Nat} {s : aD} (h : f v = some s) : upT f v s = f := by
  funext u
  unfold upT
  split
  · rename_i e; rw [e, h]
  · rfl
theorem SnI.ask (hc : dt c) (h : SnI c k f sn rd M) (hv : f v = some s) (q : nc) : SnI c (k + 1) (upT f v (xB c q s).2) sn rd M := by
  obtain ⟨hA, ht, EJ⟩ := h.ok v s hv
  have gt := hA.b.cf
  have kL := NZ hc hA q
  rcases ask_calm c q s with e | ⟨h1, h2, h3, h4⟩
  · rw [e, upT_id hv]; exact h.mono
  rcases ask_sn q gt with e | ⟨g1, g2, g3⟩
  · rw [e, upT_id hv]; exact h.mono
  have he : Eff c s M (xB c q s).2 M := Eff.calm (quiet_of (by rw [h1]; trivial)) h4 g1 kL.b.cf (.refl M)
  have RT := hasSn_ent g2
  have hS := h.sn v s hv
  refine h.Ii hv he (kL.mono (Nat.le_succ k)) (h.mok.mono (Nat.le_succ k)) (askS_thread c q s) (fun e => by omega) (fun _ _ => rfl) (fun _ _ => rfl) (h.self hv he rfl (fun e => ⟨RT.1.1 e, RT.2⟩) (fun e => ?_) (hS.e0.SE (Ma c q s)) fun r u e => ?_)
  · have h0 : s.av ≠ 0 := fun e0 => by
      -- what is fresh takes no request
      have h5 : s.jY 1 = false := by
        simp only [aD.jY, e0]
        simp
      have h6 : (xB c q s).2 = s := by
        unfold xB Bn CF An AB xN
        simp [h5]
      rw [h6] at h3
      omega
    rcases hS.has h0 with h5 | h5
    · rw [h1] at h5; cases h5
    · exact .inr (RT.1.2 h5)
  · obtain ⟨h5, h6⟩ := g3 r u e
    exact ⟨h5, fun e => by omega, fun e => by omega⟩
theorem SnI.add (hc : dt c) (h : SnI c k f sn rd M) (hv : v < 3) (hq : ∀ s, f v = some s → s.av = 2) : SnI c k (upT f v (jG (iD c v)).2) sn rd M := by
  have hA := Cy (tK hc k (v : Int) (by omega))
  obtain ⟨s', Qy⟩ : ∃ s', s' = (jG (iD c v)).2 := ⟨_, rfl⟩
  have hd : s'.aA = .ej := by rw [Qy]; rfl
  have dn : s'.av = 1 := by rw [Qy]; rfl
  have hth : s'.ag = v := by rw [Qy]; rfl
  have hen : ¬ hasSn s' := by
    rw [Qy]
    rintro ⟨e, h1, h2⟩
    injection h1 with h1
    subst h1
    exact absurd h2 (by show ¬ (2 : Int) ≤ 0; omega)
  rw [← Qy] at hA ⊢
  have hqu : Quiet s' := quiet_of (by rw [hd]; trivial)
  have hef : ∀ o rv, EfS f M o rv → EfS (upT f v s') M o rv := by
    rintro o rv (h1 | ⟨u, r, h1, h2, h3⟩)
    · exact .inl h1
    · by_cases ke : u = v
      · subst ke
        have h4 := h.cC u r h1 (hq r h1)
        have h5 := (quiet_of (s := r) (by rw [h4]; trivial)).c
        rw [h5] at h2; cases h2
      · exact .inr ⟨u, r, (upT_ne f s' ke).trans h1, h2, h3⟩
  refine ⟨h.mok, fun t r hr => ?_, fun t r hr => ?_, ?_, fun t r hr => ?_, fun t r hr => ?_⟩
  · by_cases ke : t = v
    · subst ke
      rw [upT_self] at hr
      injection hr with hr
      subst hr
      exact ⟨hA, hth, hv⟩
    · rw [upT_ne f s' ke] at hr; exact h.ok t r hr
  · by_cases ke : t = v
    · subst ke
      rw [upT_self] at hr
      injection hr with hr
      subst hr
      exact ⟨by rw [hqu.l]; exact List.nodup_nil, fun i hi => (by rw [hqu.l] at hi; simp at hi), fun e => (by rw [hqu.c] at e; cases e), by unfold lgS; rw [hd]; trivial, fun n e => (by rw [hqu.t] at e; cases e)⟩
    · rw [upT_ne f s' ke] at hr; exact h.ti t r hr
  · intro t u r1 r2 n m h1 h2 ke hn hm
    by_cases ht : t = v
    · subst ht
      rw [upT_self] at h1
      injection h1 with h1
      subst h1
      rw [hqu.t] at hn; cases hn
    · rw [upT_ne f s' ht] at h1
      by_cases hu : u = v
      · subst hu
        rw [upT_self] at h2
        injection h2 with h2
        subst h2
        rw [hqu.t] at hm; cases hm
      · rw [upT_ne f s' hu] at h2
        exact h.dis t u r1 r2 n m h1 h2 ke hn hm
  · by_cases ke : t = v
    · subst ke
      rw [upT_self] at hr
      injection hr with hr
      subst hr
      exact ⟨fun _ => .inl hd, fun e => by omega, fun e => absurd e hen, fun e => absurd e hen, fun e => absurd e hen, fun r u e => by rw [hd] at e; cases e⟩
    · rw [upT_ne f s' ke] at hr
      have hS := h.sn t r hr
      refine ⟨hS.has, hS.e0, hS.rv, hS.len, fun e a => ?_, fun q u hq => ?_⟩
      · rcases hS.dat e a with h1 | h1
        · exact .inl h1
        · exact .inr (hef _ _ h1)
      · obtain ⟨h1, h2, h3⟩ := hS.rea q u hq
        refine ⟨h1, h2, fun e => ⟨(h3 e).1, ?_⟩⟩
        rcases (h3 e).2 with h4 | h4
        · exact .inl h4
        · exact .inr (hef _ _ h4)
  · by_cases ke : t = v
    · subst ke
      rw [upT_self] at hr
      injection hr with hr
      subst hr
      exact fun e => by omega
    · rw [upT_ne f s' ke] at hr; exact h.cC t r hr
theorem SnI.start {c : bG} (hF : rj c) : SnI c 0 (fun _ => none) sn rd (km c 3 (hZ c)) :=
  ⟨B5 hF 3, fun t s e => (by cases e), fun t s e => (by cases e), fun t u s r n m e => (by cases e), fun t s e => (by cases e), fun t s e => (by cases e)⟩
end

end Go.Stx
