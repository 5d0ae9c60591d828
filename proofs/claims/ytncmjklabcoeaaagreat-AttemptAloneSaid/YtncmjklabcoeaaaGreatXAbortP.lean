/-
  What an attempt that is not committed leaves, when it is alone: the plain law.
-/
import Derived.Test.YtncmjklabcoeaaaGreatD44
namespace Go.Stx
open Go Go.Proofs
attribute [local irreducible] fj cm aH bB dK ei
set_option linter.unusedVariables false
set_option linter.unusedSimpArgs false

/-! ### The thread stays -/

theorem finishS_thread (s : aD) : (gg s).ag = s.ag := by unfold gg; split <;> rfl
theorem undoS_thread (s : aD) (ax : Int) : (gy s ax).ag = s.ag := finishS_thread _
theorem endS_thread (s : aD) (ax : Int) : (nN s ax).ag = s.ag := by unfold nN; split <;> rfl
theorem restoreS_thread (s : aD) : (fH s).ag = s.ag := by unfold fH; split <;> rfl
theorem putS_thread (s : aD) (a v : Int) : (iI s a v).2.ag = s.ag := by
  unfold iI
  split
  · rfl
  · exact undoS_thread s 3
theorem freedS_thread (s : aD) (b st : Int) : (jX s b st).ag = s.ag := by
  unfold jX
  split
  · exact endS_thread s 8
  · split
    · exact undoS_thread s 3
    · split
      · exact putS_thread s _ 0
      · exact putS_thread s _ 0
theorem zerosS_thread : ∀ (n : Nat) (a : Int) (s : aD), (hY n a s).2.ag = s.ag
  | 0, _, _ => rfl
  | n + 1, a, s => by
    unfold hY
    split
    · rw [zerosS_thread n]; exact putS_thread s a 0
    · exact putS_thread s a 0
theorem allocatedS_thread (s : aD) (dB gi : Int) : (fV s dB gi).ag = s.ag := by
  unfold fV
  split
  · exact undoS_thread s 4
  · dsimp only
    split
    · split
      · show (hY _ _ _).2.ag = _
        rw [zerosS_thread]; exact putS_thread { s with ac := s.ac ++ [gi] } _ _
      · rw [zerosS_thread]; exact putS_thread { s with ac := s.ac ++ [gi] } _ _
    · exact putS_thread { s with ac := s.ac ++ [gi] } _ _
theorem locS_thread (s : aD) (l : vu) : (nK s l).ag = s.ag := by
  cases l with
  | fu a v =>
    unfold nK
    dsimp only
    split
    · exact endS_thread s 7
    · exact putS_thread s a v
  | fy => exact endS_thread s 7
  | Gw => exact endS_thread s 8
  | cC ax => exact endS_thread s ax
  | take v => rfl
  | r9 => exact undoS_thread s 3
  | cM b v => exact freedS_thread s b v
theorem useS_thread (s : aD) (v : Int) (u : qX) : (AD s v u).ag = s.ag := by
  cases u with
  | take => rfl
  | cM b => exact freedS_thread s b v
theorem attStep_thread (s : aD) (M : Mm) : (cD s M).2.2.1.ag = s.ag := by
  unfold cD
  cases hd : s.aA with
  | fW => rfl
  | bm => rfl
  | jV k => exact locS_thread _ k
  | ej =>
    dsimp only
    cases s.br with
    | none => rfl
    | some e =>
      dsimp only [gD]
      split <;> rfl
  | bz r u =>
    show (dZ s M r u).2.2.1.ag = s.ag
    unfold dZ
    dsimp only
    split
    · rfl
    · split
      · exact undoS_thread _ 9
      · split
        · dsimp only
          rw [useS_thread]
          split <;> rfl
        · dsimp only
          rw [undoS_thread]
          split <;> rfl
  | eE p =>
    show (mE s M p).2.2.1.ag = s.ag
    unfold mE
    dsimp only
    split
    · rw [allocatedS_thread]
    · rfl
  | fF =>
    dsimp only
    cases s.aG with
    | none => rfl
    | some l =>
      dsimp only [jk]
      split <;> rfl
  | dI =>
    dsimp only
    cases s.aE with
    | none => rfl
    | some t =>
      dsimp only [im]
      split <;> rfl
  | dG ck =>
    show (hU s M ck).2.2.1.ag = s.ag
    unfold hU
    dsimp only
    split
    · rw [restoreS_thread]
    · split <;> rfl
  | cN =>
    show (fb s M).2.2.1.ag = s.ag
    unfold fb
    dsimp only
    split
    · rw [restoreS_thread]
    · split
      · rfl
      · rw [restoreS_thread]
  | et w =>
    show (iZ s M w).2.2.1.ag = s.ag
    unfold iZ
    dsimp only
    split <;> rfl
  | cK w => rfl
  | ij => rfl
  | fm => exact finishS_thread s
  | eZ p =>
    show (kv s M p).2.2.1.ag = s.ag
    unfold kv
    dsimp only
    split
    · rw [finishS_thread]
    · rfl
theorem askS_thread (c : bG) (q : nc) (s : aD) : (xB c q s).2.ag = s.ag := by
  unfold xB Bn CF An AB xN
  repeat' split
  all_goals rfl

def tkF (M : Mm) : Int := (M 3).getD 0 0
def svF (M : Mm) : Int := (M 4).getD 0 0
theorem opM_ne {M : Mm} {cell cc : Int} {g : Int → Int × Bool} {k : Nat} (h : k ≠ (cell - 1).toNat) : kd M cell cc g k = M k := by
  unfold kd
  split
  · unfold setRow; rw [if_neg h]
  · rfl
theorem hasCell_of {M : Mm} {cell cc : Int} (h : 1 ≤ cell ∧ cell ≤ 8) (h0 : 0 ≤ cc) (h1 : cc < (M (cell - 1).toNat).length) : dw M cell cc = true := by
  unfold dw eJ
  rw [if_pos h]
  exact decide_eq_true ⟨h0, h1⟩
theorem opM_set {M : Mm} {cell cc : Int} {g : Int → Int × Bool} (h : dw M cell cc = true) (hg : (g ((eJ M cell).getD cc.toNat 0)).2 = true) : kd M cell cc g (cell - 1).toNat = (M (cell - 1).toNat).set cc.toNat (g ((eJ M cell).getD cc.toNat 0)).1 := by
  unfold kd
  rw [if_pos ⟨h, hg⟩]
  unfold setRow
  rw [if_pos rfl]
theorem opM_not {M : Mm} {cell cc : Int} {g : Int → Int × Bool} (hg : (g ((eJ M cell).getD cc.toNat 0)).2 = false) : kd M cell cc g = M := by
  unfold kd
  rw [if_neg (by rw [hg]; simp)]
theorem opAcc_has {M : Mm} {eV cell cc : Int} {g : Int → Int × Bool} (h : dw M cell cc = true) : (de M eV cell cc g).fI = (eJ M cell).getD cc.toNat 0 ∧ (de M eV cell cc g).done = (g ((eJ M cell).getD cc.toNat 0)).2 := by
  unfold de
  rw [if_pos h]
  exact ⟨rfl, rfl⟩
theorem opAcc_kc (M : Mm) (eV cell cc : Int) (g : Int → Int × Bool) : (de M eV cell cc g).eV = 0 ∨ ((de M eV cell cc g).eV = eV ∧ (de M eV cell cc g).cell = cell) := by
  unfold de
  split
  · exact .inr ⟨rfl, rfl⟩
  · exact .inl rfl

/-- What is locked: the row, but for the places 'xs', is what it was, and there stood 'ws'. -/
structure LkO (O R xs ws : List Int) : Prop where
  len : R.length = O.length
  fy : ∀ j : Nat, (j : Int) ∉ xs → R.getD j 0 = O.getD j 0
  inn : ∀ i : Nat, i < xs.length → O.getD (xs.getD i 0).toNat 0 = ws.getD i 0
theorem ext_getD {a b : List Int} (hl : a.length = b.length) (h : ∀ j : Nat, a.getD j 0 = b.getD j 0) : a = b := by
  apply List.ext_getElem hl
  intro i h1 h2
  have := h i
  rw [List.getD_eq_getElem?_getD, List.getD_eq_getElem?_getD, List.getElem?_eq_getElem h1, List.getElem?_eq_getElem h2] at this
  exact this
theorem LkO.nil {O R ws : List Int} (h : LkO O R [] ws) : R = O := ext_getD h.len fun j => h.fy j (by simp)
theorem LkO.refl (O ws : List Int) : LkO O O [] ws := ⟨rfl, fun _ _ => rfl, fun i h => by simp at h⟩
theorem getD_set (l : List Int) (i j : Nat) (v : Int) : (l.set i v).getD j 0 = if i = j ∧ i < l.length then v else l.getD j 0 := by
  simp only [List.getD_eq_getElem?_getD]
  by_cases h : i = j
  · subst h
    by_cases h2 : i < l.length
    · rw [List.getElem?_set_self h2, if_pos ⟨rfl, h2⟩]; rfl
    · rw [if_neg (by omega), List.getElem?_eq_none (by simp; omega), List.getElem?_eq_none (by omega)]
  · rw [List.getElem?_set_ne h, if_neg (by omega)]
theorem LkO.Qq {O R xs ws : List Int} (h : LkO O R xs ws) (hp : 0 < xs.length) (hx : 0 ≤ xs.getD 0 0 ∧ (xs.getD 0 0).toNat < R.length) : LkO O (R.set (xs.getD 0 0).toNat (ws.getD 0 0)) xs.tail ws.tail := by
  cases xs with
  | nil => simp at hp
  | cons x xs =>
    simp only [List.getD_cons_zero, List.tail_cons] at hx ⊢
    refine ⟨by simp [h.len], fun j hj => ?_, fun i hi => ?_⟩
    · rw [getD_set]
      split
      · rename_i e
        have := h.inn 0 (by simp)
        simp only [List.getD_cons_zero] at this
        rw [← this, e.1]
      · rename_i e
        refine h.fy j fun hm => ?_
        rcases List.mem_cons.1 hm with hm | hm
        · exact e ⟨by omega, hx.2⟩
        · exact hj hm
    · have := h.inn (i + 1) (by simp; omega)
      rw [List.getD_cons_succ] at this
      rw [this]
      cases ws <;> simp
theorem LkO.aG {O R xs ws : List Int} (h : LkO O R xs ws) (hl : ws.length = xs.length) {x v d8 : Int} (h0 : 0 ≤ x) (hx : x ∉ xs) (hs : R.getD x.toNat 0 = d8) : LkO O (R.set x.toNat v) (xs ++ [x]) (ws ++ [d8]) := by
  refine ⟨by simp [h.len], fun j hj => ?_, fun i hi => ?_⟩
  · simp only [List.mem_append, List.mem_singleton, not_or] at hj
    rw [getD_set, if_neg (by omega)]
    exact h.fy j hj.1
  · simp only [List.length_append, List.length_cons, List.length_nil] at hi
    by_cases dQ : i < xs.length
    · have e1 : (xs ++ [x]).getD i 0 = xs.getD i 0 := by simp only [List.getD_eq_getElem?_getD]; rw [List.getElem?_append_left dQ]
      have e2 : (ws ++ [d8]).getD i 0 = ws.getD i 0 := by simp only [List.getD_eq_getElem?_getD]; rw [List.getElem?_append_left (by omega)]
      rw [e1, e2]; exact h.inn i dQ
    · have e : i = xs.length := by omega
      subst e
      have e1 : (xs ++ [x]).getD xs.length 0 = x := by simp [List.getD_eq_getElem?_getD]
      have e2 : (ws ++ [d8]).getD xs.length 0 = d8 := by rw [← hl]; simp [List.getD_eq_getElem?_getD]
      rw [e1, e2, ← hs]
      refine (h.fy _ ?_).symm
      rw [Int.toNat_of_nonneg h0]; exact hx

/-! ### The invariant -/

def HeldA (s : aD) (M : Mm) : Prop := ∃ t, s.aE = some t ∧ t.pT = true ∧ 0 ≤ t.gP ∧ tkF M = t.gP + 1 ∧ svF M = t.gP
/-- Not committed (so far): what is in the cells. -/
def QuD (O : List Int) (s : aD) (M : Mm) : ba → Prop
  | .fF => s.aj.Nodup ∧ tkF M = svF M ∧ ∃ l, s.aG = some l ∧ LkO O (M 1) (l.aj.take l.dH.length) l.dH
  | .dI => LkO O (M 1) s.aj s.dH ∧ ∃ t, s.aE = some t ∧ (t.pT = true → HeldA s M) ∧ (t.pT = false → tkF M = svF M)
  | .dG _ | .cN => LkO O (M 1) s.aj s.dH ∧ HeldA s M
  | .cK w => s.ai = false ∧ LkO O (M 1) w.os w.ws ∧ HeldA s M
  | .fm => M 1 = O ∧ HeldA s M
  | .et _ | .ij => False
  | _ => M 1 = O ∧ tkF M = svF M
structure Qu (D O K : List Int) (s : aD) (M : Mm) : Prop where
  m0 : M 0 = D
  m2 : M 2 = K
  d : QuD O s M s.aA
/-- Committed: what is left to do. -/
def Com (s : aD) : Prop := s.ax = 1 ∧ s.ai = true ∧ match s.aA with
  | .et _ | .cK _ | .ij | .fm | .fW => True
  | .bm => s.av = 2
  | _ => False
structure AbI (D O K : List Int) (s : aD) (M : Mm) : Prop where
  cC : s.av = 2 → s.aA = .bm ∧ (M 5).getD 0 0 = 0
  h : Com s ∨ Qu D O K s M

/-- Nothing is locked yet, and nothing of the cells is held. -/
def Calm (s : aD) : Prop := match s.aA with
  | .fF => s.aj.Nodup ∧ ∃ l, s.aG = some l ∧ l.dH = []
  | .dI => s.aj = [] ∧ ∃ t, s.aE = some t ∧ t.pT = false
  | .dG _ | .cN | .cK _ | .fm | .et _ | .ij => False
  | _ => True
theorem Calm.qu {O : List Int} {s : aD} {M : Mm} (h : Calm s) (h1 : M 1 = O) (h2 : tkF M = svF M) : QuD O s M s.aA := by
  unfold Calm at h
  revert h
  cases s.aA <;> intro h <;> first
    | exact ⟨h1, h2⟩
    | exact h.elim
    | skip
  · obtain ⟨h3, l, h4, h5⟩ := h
    exact ⟨h3, h2, l, h4, by rw [h5, h1]; exact LkO.refl _ _⟩
  · obtain ⟨h3, t, h4, h5⟩ := h
    exact ⟨by rw [h3, h1]; exact LkO.refl _ _, t, h4, fun e => (by rw [h5] at e; cases e), fun _ => h2⟩
theorem finish_calm (s : aD) : Calm (gg s) := by
  unfold gg
  split <;> exact trivial
theorem undo_calm (s : aD) (ax : Int) : Calm (gy s ax) := finish_calm _
theorem end_calm {s : aD} (h : fe s) (ax : Int) : Calm (nN s ax) := by
  unfold nN
  split
  · have := (qw (s.aM.bl.map (fJ s.cf))).1
    exact ⟨this.imp fun h => by omega, _, rfl, rfl⟩
  · exact ⟨h.aj, _, rfl, rfl⟩
def PreA (s : aD) : Prop := fe s ∧ s.aA = .bm
theorem PreA.calm {s : aD} (h : PreA s) : Calm s := by unfold Calm; rw [h.2]; trivial
theorem put_pre {s : aD} (h : PreA s) (a v : Int) : ((iI s a v).1 = true → PreA (iI s a v).2) ∧ Calm (iI s a v).2 := by
  unfold iI
  split
  · have : PreA { s with aM := (di s.aM a v).2 } := ⟨h.1.to rfl rfl rfl rfl rfl, h.2⟩
    exact ⟨fun _ => this, this.calm⟩
  · exact ⟨fun e => (by cases e), undo_calm s 3⟩
theorem freed_calm {s : aD} (h : PreA s) (b st : Int) : Calm (jX s b st) := by
  unfold jX
  split
  · exact end_calm h.1 8
  · split
    · exact undo_calm s 3
    · have := put_pre h (s.cf.aF + b) 0
      split
      · rename_i e
        have h2 := this.1 e
        exact PreA.calm ⟨h2.1.to rfl rfl rfl rfl rfl, h2.2⟩
      · exact this.2
theorem zeros_pre : ∀ (n : Nat) (a : Int) (s : aD), PreA s → ((hY n a s).1 = true → PreA (hY n a s).2) ∧ Calm (hY n a s).2
  | 0, _, s, h => ⟨fun _ => h, h.calm⟩
  | n + 1, a, s, h => by
    unfold hY
    have := put_pre h a 0
    split
    · rename_i e
      exact zeros_pre n (a + 1) _ (this.1 e)
    · exact ⟨fun e => (by cases e), this.2⟩
theorem alloc_calm {s : aD} (h : PreA s) (dB gi : Int) : Calm (fV s dB gi) := by
  unfold fV
  split
  · exact undo_calm s 4
  · have h1 : PreA { s with ac := s.ac ++ [gi] } := ⟨h.1.to rfl rfl rfl rfl rfl, h.2⟩
    have := put_pre h1 (s.cf.aF + gi) (dB + 1)
    dsimp only
    split
    · rename_i e
      have hz := zeros_pre (2 ^ dB.toNat) (eL s.cf gi) _ (this.1 e)
      split
      · rename_i e2
        have h2 := hz.1 e2
        exact PreA.calm ⟨h2.1.to rfl rfl rfl rfl rfl, h2.2⟩
      · exact hz.2
    · exact this.2
theorem loc_calm {s : aD} (h : PreA s) (l : vu) : Calm (nK s l) := by
  cases l with
  | fu a v =>
    unfold nK
    dsimp only
    split
    · exact end_calm h.1 7
    · exact (put_pre h a v).2
  | fy => exact end_calm h.1 7
  | Gw => exact end_calm h.1 8
  | cC ax => exact end_calm h.1 ax
  | take v => exact PreA.calm ⟨h.1.to rfl rfl rfl rfl rfl, h.2⟩
  | r9 => exact undo_calm s 3
  | cM b v => exact freed_calm h b v
theorem use_calm {s : aD} (h : PreA s) (v : Int) (u : qX) : Calm (AD s v u) := by
  cases u with
  | take => exact PreA.calm ⟨h.1.to rfl rfl rfl rfl rfl, h.2⟩
  | cM b => exact freed_calm h b v

/-! ### The steps -/

/-- No word is stored to, but by what is committed. -/
def NoSt (r : ri) : Prop := r.1.eV = 2 ∧ r.1.cell = 1 → r.2.1 = 17 ∧ r.2.2.1.ai = true ∧ r.2.2.1.ax = 1
theorem NoSt.of {r : ri} {M : Mm} {eV cell cc : Int} {g : Int → Int × Bool} (h : r.1 = de M eV cell cc g) (hk : eV ≠ 2 ∨ cell ≠ 1) : NoSt r := by
  rintro ⟨h1, h2⟩
  rw [h] at h1 h2
  rcases opAcc_kc M eV cell cc g with e | ⟨e1, e2⟩
  · omega
  · omega
theorem NoSt.zero {r : ri} (h : r.1 = bq.zero) : NoSt r := by
  rintro ⟨h1, _⟩
  rw [h] at h1
  cases h1

section
variable {D O K : List Int} {c : bG} {nt k : Nat} {s : aD} {M : Mm}
theorem Qu.Q4 (h : Qu D O K s M) {cell cc : Int} {g : Int → Int × Bool} (hc : cell = 6 ∨ cell = 7 ∨ cell = 8) : M 0 = kd M cell cc g 0 ∧ M 1 = kd M cell cc g 1 ∧ M 2 = kd M cell cc g 2 ∧ M 3 = kd M cell cc g 3 ∧ M 4 = kd M cell cc g 4 := by
  refine ⟨(opM_ne ?_).symm, (opM_ne ?_).symm, (opM_ne ?_).symm, (opM_ne ?_).symm, (opM_ne ?_).symm⟩ <;> omega
theorem Qu.calm {s' : aD} {M' : Mm} (h0 : M' 0 = D) (h2 : M' 2 = K) (h1 : M' 1 = O) (h3 : tkF M' = svF M') (h : Calm s') : Qu D O K s' M' := ⟨h0, h2, h.qu h1 h3⟩
/-- What is left of the cells by a machine that touches slots and lists only. -/
def Like (M M' : Mm) : Prop := M' 0 = M 0 ∧ M' 1 = M 1 ∧ M' 2 = M 2 ∧ M' 3 = M 3 ∧ M' 4 = M 4
theorem Like.refl (M : Mm) : Like M M := ⟨rfl, rfl, rfl, rfl, rfl⟩
theorem Like.op (M : Mm) {cell cc : Int} {g : Int → Int × Bool} (hc : 6 ≤ cell) : Like M (kd M cell cc g) := by
  refine ⟨opM_ne ?_, opM_ne ?_, opM_ne ?_, opM_ne ?_, opM_ne ?_⟩ <;> omega
theorem Like.qu {M' : Mm} (hl : Like M M') (h0 : M 0 = D) (h2 : M 2 = K) (h1 : M 1 = O) (h3 : tkF M = svF M) {s' : aD} (h : Calm s') : Qu D O K s' M' :=
  Qu.calm (hl.1.trans h0) (hl.2.2.1.trans h2) (hl.2.1.trans h1) (by unfold tkF svF at *; rw [hl.2.2.2.1, hl.2.2.2.2]; exact h3) h

/-- What a step is to give. -/
def AbG (D O K : List Int) (r : ri) : Prop := (Com r.2.2.1 ∨ Qu D O K r.2.2.1 r.2.2.2) ∧ NoSt r
theorem AbG.of {a : bq} {ph : Int} {s' : aD} {M' : Mm} (h : Qu D O K s' M') (h2 : NoSt (a, ph, s', M')) : AbG D O K (a, ph, s', M') := ⟨.inr h, h2⟩

theorem enter_ab (h0 : M 0 = D) (h2 : M 2 = K) (h1 : M 1 = O) (h3 : tkF M = svF M) (e : dC) (hd : s.aA = .ej) : AbG D O K (gD s M e) := by
  have key : Like M (go e M).2.2 ∧ ((go e M).1 = bq.zero ∨ ∃ eV cell cc g, (go e M).1 = de M eV cell cc g ∧ (eV ≠ 2 ∨ cell ≠ 1)) := by
    unfold go
    split
    · exact ⟨.op M (by omega), .inr ⟨_, _, _, _, rfl, by omega⟩⟩
    · split
      · exact ⟨.refl M, .inr ⟨_, _, _, _, rfl, by omega⟩⟩
      · split
        · exact ⟨.op M (by omega), .inr ⟨_, _, _, _, rfl, by omega⟩⟩
        · exact ⟨.refl M, .inl rfl⟩
  obtain ⟨hl, ha⟩ := key
  have hn : ∀ ph s' M', NoSt ((go e M).1, ph, s', M') := fun ph s' M' => by
    rcases ha with ha | ⟨_, _, _, _, ha, hk⟩
    · exact .zero ha
    · exact .of ha hk
  unfold gD
  dsimp only
  split
  · exact .of (hl.qu h0 h2 h1 h3 trivial) (hn _ _ _)
  · refine .of (hl.qu h0 h2 h1 h3 ?_) (hn _ _ _)
    unfold Calm
    rw [show ({ s with br := some (go e M).2.1 } : aD).aA = s.aA from rfl, hd]
    trivial

theorem read_acc (r : dY) (M : Mm) : (cB r M).1 = bq.zero ∨ ∃ eV cell cc g, (cB r M).1 = de M eV cell cc g ∧ (eV ≠ 2 ∨ cell ≠ 1) := by
  unfold cB
  split
  · exact .inr ⟨_, _, _, _, rfl, .inl (by omega)⟩
  · split
    · exact .inr ⟨_, _, _, _, rfl, .inl (by omega)⟩
    · split
      · exact .inr ⟨_, _, _, _, rfl, .inl (by omega)⟩
      · exact .inl rfl
theorem read_ab (h0 : M 0 = D) (h2 : M 2 = K) (h1 : M 1 = O) (h3 : tkF M = svF M) (r : dY) (u : qX) (he : fe s) : AbG D O K (dZ s M r u) := by
  have hm := (rJ r M).2.2.2
  have hn : ∀ ph s' M', NoSt ((cB r M).1, ph, s', M') := fun ph s' M' => by
    rcases read_acc r M with ha | ⟨_, _, _, _, ha, hk⟩
    · exact .zero ha
    · exact .of ha hk
  have hq : ∀ s', Calm s' → Qu D O K s' (cB r M).2.2 := fun s' hc => by rw [hm]; exact (Like.refl M).qu h0 h2 h1 h3 hc
  unfold dZ
  dsimp only
  split
  · exact .of (hq _ trivial) (hn _ _ _)
  · split
    · exact .of (hq _ (undo_calm _ _)) (hn _ _ _)
    · split
      · refine .of (hq _ (use_calm ⟨?_, rfl⟩ _ _)) (hn _ _ _)
        split <;> exact he.to rfl rfl rfl rfl rfl
      · exact .of (hq _ (undo_calm _ _)) (hn _ _ _)
theorem pop_ab (h0 : M 0 = D) (h2 : M 2 = K) (h1 : M 1 = O) (h3 : tkF M = svF M) (p : mN) (he : fe s) : AbG D O K (mE s M p) := by
  have key : Like M (fx p M).2.2 ∧ ((fx p M).1 = bq.zero ∨ ∃ eV cell cc g, (fx p M).1 = de M eV cell cc g ∧ (eV ≠ 2 ∨ cell ≠ 1)) := by
    unfold fx
    split
    · exact ⟨.refl M, .inr ⟨_, _, _, _, rfl, .inl (by omega)⟩⟩
    · split
      · exact ⟨.refl M, .inr ⟨_, _, _, _, rfl, .inl (by omega)⟩⟩
      · split
        · exact ⟨.op M (by omega), .inr ⟨_, _, _, _, rfl, .inl (by omega)⟩⟩
        · exact ⟨.refl M, .inl rfl⟩
  obtain ⟨hl, ha⟩ := key
  have hn : ∀ ph s' M', NoSt ((fx p M).1, ph, s', M') := fun ph s' M' => by
    rcases ha with ha | ⟨_, _, _, _, ha, hk⟩
    · exact .zero ha
    · exact .of ha hk
  unfold mE
  dsimp only
  refine .of (hl.qu h0 h2 h1 h3 ?_) (hn _ _ _)
  split
  · exact alloc_calm (s := { s with aA := .bm }) ⟨he.to rfl rfl rfl rfl rfl, rfl⟩ _ _
  · trivial
theorem push_ab (h0 : M 0 = D) (h2 : M 2 = K) (h1 : M 1 = O) (h3 : tkF M = svF M) (p : kM) : AbG D O K (kv s M p) := by
  have key : Like M (dE p M).2.2 ∧ ((dE p M).1 = bq.zero ∨ ∃ eV cell cc g, (dE p M).1 = de M eV cell cc g ∧ (eV ≠ 2 ∨ cell ≠ 1)) := by
    unfold dE
    split
    · exact ⟨.refl M, .inr ⟨_, _, _, _, rfl, .inl (by omega)⟩⟩
    · split
      · exact ⟨.op M (by omega), .inr ⟨_, _, _, _, rfl, .inr (by omega)⟩⟩
      · split
        · exact ⟨.op M (by omega), .inr ⟨_, _, _, _, rfl, .inl (by omega)⟩⟩
        · exact ⟨.refl M, .inl rfl⟩
  obtain ⟨hl, ha⟩ := key
  have hn : ∀ ph s' M', NoSt ((dE p M).1, ph, s', M') := fun ph s' M' => by
    rcases ha with ha | ⟨_, _, _, _, ha, hk⟩
    · exact .zero ha
    · exact .of ha hk
  unfold kv
  dsimp only
  refine .of (hl.qu h0 h2 h1 h3 ?_) (hn _ _ _)
  split
  · exact finish_calm _
  · trivial

theorem lock_ab (hM : oR c nt k M) (hb : iW c k s) (l : eM) (hs : s.aG = some l) (ho : l.aj = s.aj) (dQ : l.dH.length < l.aj.length) (hI : tz k l) (hd : s.aA = .fF) (hq : Qu D O K s M) : AbG D O K (jk s M l) := by
  obtain ⟨q0, q2, qd⟩ := hq
  rw [hd] at qd
  obtain ⟨hnd, zz, l', XY, IQ⟩ := qd
  rw [hs] at XY
  injection XY with XY
  subst XY
  have hx : ew l ∈ s.aj := by
    unfold ew
    rw [← ho, List.getD_eq_getElem?_getD, List.getElem?_eq_getElem dQ]
    exact List.getElem_mem dQ
  have hxr := hb.Q8 _ hx
  have dg : dw M 2 (ew l) = true := hasCell_of (by omega) hxr.1 (by show _ < ((M 1).length : Int); rw [hM.l1]; exact hxr.2)
  have Uy : ¬ l.done = true := by simp only [eM.done, decide_eq_true_eq]; omega
  have hnd' : ∀ s' : aD, s'.aj = s.aj → ∀ l2 : eM, s'.aG = some l2 → s'.aA = .fF → l2.aj = l.aj → ∀ M', M' 0 = D → M' 2 = K → tkF M' = svF M' → LkO O (M' 1) (l2.aj.take l2.dH.length) l2.dH → Qu D O K s' M' := fun s' e1 l2 e2 e3 e4 M' e5 e6 e7 e8 => ⟨e5, e6, by rw [e3]; exact ⟨by rw [e1]; exact hnd, e7, l2, e2, e8⟩⟩
  -- the state behind the step: the same, or all is locked
  have xy : ∀ (l2 : eM) (M' : Mm), l2.aj = l.aj → l2.dH.length ≤ l2.aj.length → M' 0 = D → M' 2 = K → tkF M' = svF M' → LkO O (M' 1) (l2.aj.take l2.dH.length) l2.dH →
      Qu D O K (if l2.done = true then { { s with aG := some l2 } with aE := some ⟨false, 0, false⟩, aA := .dI } else { s with aG := some l2 }) M' := by
    intro l2 M' e1 e2 e3 e4 e5 e6
    split
    · rename_i jx
      simp only [eM.done, decide_eq_true_eq] at jx
      rw [jx, List.take_length] at e6
      refine ⟨e3, e4, ?_, _, rfl, fun e => (by cases e), fun _ => e5⟩
      show LkO O (M' 1) s.aj l2.dH
      rw [← ho, ← e1]; exact e6
    · exact hnd' { s with aG := some l2 } rfl l2 rfl hd e1 M' e3 e4 e5 e6
  unfold jk dF
  rw [if_neg Uy]
  split
  · exact .of (xy { l with d8 := _, fg := _ } M rfl (by show l.dH.length ≤ l.aj.length; omega) q0 q2 zz IQ) (.of (M := M) (eV := 1) (cell := 2) (cc := ew l) (g := gF) rfl (by omega))
  · rename_i uT
    have RM : l.fg = true := by simpa using uT
    refine .of ?_ (.of (M := M) (eV := 3) (cell := 2) (cc := ew l) (g := hQ l.d8 (jD l)) rfl (by omega))
    have VS : ∀ kk, kk ≠ 1 → kd M 2 (ew l) (hQ l.d8 (jD l)) kk = M kk := fun kk VU => opM_ne (by omega)
    have htk' : tkF (kd M 2 (ew l) (hQ l.d8 (jD l))) = svF (kd M 2 (ew l) (hQ l.d8 (jD l))) := by unfold tkF svF at *; rw [VS 3 (by omega), VS 4 (by omega)]; exact zz
    obtain ⟨PN, hdone⟩ := opAcc_has (eV := 3) (g := hQ l.d8 (jD l)) dg
    by_cases Xw : (de M 3 2 (ew l) (hQ l.d8 (jD l))).done = true
    · have hseen : (M 1).getD (ew l).toNat 0 = l.d8 := by
        rw [hdone] at Xw
        exact of_decide_eq_true Xw
      simp only [Xw, if_true]
      refine xy { l with fg := false, dH := l.dH ++ [l.d8] } _ rfl ?_ ((VS 0 (by omega)).trans q0) ((VS 2 (by omega)).trans q2) htk' ?_
      · simp; omega
      · have e1 : kd M 2 (ew l) (hQ l.d8 (jD l)) 1 = (M 1).set (ew l).toNat (jD l) := opM_set dg (by rw [← hdone]; exact Xw)
        have e2 : l.aj.take (l.dH ++ [l.d8]).length = l.aj.take l.dH.length ++ [ew l] := by
          rw [List.length_append, List.length_singleton, List.take_add_one, List.getElem?_eq_getElem dQ]
          unfold ew
          rw [List.getD_eq_getElem?_getD, List.getElem?_eq_getElem dQ]
          rfl
        show LkO O (kd M 2 (ew l) (hQ l.d8 (jD l)) 1) (l.aj.take (l.dH ++ [l.d8]).length) (l.dH ++ [l.d8])
        rw [e1, e2]
        refine IQ.aG (by simp; omega) hxr.1 (fun hm => ?_) hseen
        rw [← ho] at hnd
        have hsplit : l.aj.take l.dH.length ++ l.aj.drop l.dH.length = l.aj := List.take_append_drop _ _
        rw [← hsplit] at hnd
        refine (List.nodup_append.1 hnd).2.2 _ hm _ ?_ rfl
        unfold ew
        rw [List.getD_eq_getElem?_getD, List.getElem?_eq_getElem dQ]
        rw [List.drop_eq_getElem_cons dQ]
        exact List.mem_cons_self
    · simp only [Xw, if_false]
      have e1 : kd M 2 (ew l) (hQ l.d8 (jD l)) = M := opM_not (by rw [← hdone]; simpa using Xw)
      rw [e1]
      exact xy { l with fg := false } M rfl (by show l.dH.length ≤ l.aj.length; omega) q0 q2 zz IQ
theorem turn_ab (hM : oR c nt k M) (hk : k < 2^40) (t : fL) (hs : s.aE = some t) (h1 : t.done = false) (h2 : 0 ≤ t.gP) (hd : s.aA = .dI) (hq : Qu D O K s M) : AbG D O K (im s M t) := by
  obtain ⟨q0, q2, qd⟩ := hq
  rw [hd] at qd
  obtain ⟨IQ, t', ht', hy, hn⟩ := qd
  rw [hs] at ht'
  injection ht' with ht'
  subst ht'
  unfold im gn
  rw [if_neg (by rw [h1]; decide)]
  split
  · rename_i zz
    refine .of ?_ (.of (M := M) (eV := 4) (cell := 4) (cc := 0) (g := qM 1) rfl (by omega))
    have hm : ∀ kk, kk ≠ 3 → Tf M 4 0 1 kk = M kk := fun kk VU => opM_ne (by omega)
    have dg : dw M 4 0 = true := hasCell_of (by omega) (by omega) (by show (0 : Int) < ((M 3).length : Int); rw [hM.l3]; decide)
    have hg : (N8 M 4 0 1).fI = tkF M := (opAcc_has dg).1
    have ht := hM.SA
    have fz : Tf M 4 0 1 3 = (M 3).set 0 (tkF M + 1) := by
      have : Tf M 4 0 1 3 = (M 3).set 0 (IntKind.u64.wrap (tkF M + 1)) := opM_set dg rfl
      rw [this, au (by unfold tkF; omega) (by unfold tkF; omega)]
    rw [if_neg (by dsimp only; rw [h1]; decide)]
    refine ⟨(hm 0 (by omega)).trans q0, (hm 2 (by omega)).trans q2, ?_⟩
    show QuD O _ _ s.aA
    rw [hd]
    refine ⟨by show LkO O (Tf M 4 0 1 1) s.aj s.dH; rw [hm 1 (by omega)]; exact IQ, _, rfl, fun _ => ⟨_, rfl, rfl, ?_, ?_, ?_⟩, fun e => by cases e⟩
    · show 0 ≤ (N8 M 4 0 1).fI
      rw [hg]; exact ht.1
    · show tkF (Tf M 4 0 1) = (N8 M 4 0 1).fI + 1
      rw [hg]; unfold tkF; rw [fz, getD_set, if_pos ⟨rfl, by rw [hM.l3]; omega⟩]; rfl
    · show svF (Tf M 4 0 1) = (N8 M 4 0 1).fI
      rw [hg]; unfold svF; rw [hm 4 (by omega)]; exact (hn (by simpa using zz)).symm
  · rename_i zz
    have htk' : t.pT = true := by simpa using zz
    obtain ⟨t', ht', a1, a2, a3, a4⟩ := hy htk'
    rw [hs] at ht'
    injection ht' with ht'
    subst ht'
    refine .of ?_ (.of (M := M) (eV := 1) (cell := 5) (cc := 0) (g := gF) rfl (by omega))
    split
    · refine ⟨q0, q2, ?_⟩
      dsimp only
      split
      · exact ⟨IQ, _, rfl, a1, a2, a3, a4⟩
      · exact ⟨IQ, _, rfl, a1, a2, a3, a4⟩
    · refine ⟨q0, q2, ?_⟩
      show QuD O _ _ s.aA
      rw [hd]
      exact ⟨IQ, _, rfl, fun _ => ⟨_, rfl, a1, a2, a3, a4⟩, fun e => by rw [show ({ t with done := _ } : fL).pT = t.pT from rfl, htk'] at e; cases e⟩
/-- Giving back. -/
theorem restore_ab (h0 : M 0 = D) (h2 : M 2 = K) (IQ : LkO O (M 1) s.aj s.dH) (hh : HeldA s M) (RW : s.ai = true → s.aj = []) : Qu D O K (fH s) M := by
  unfold fH
  split
  · rename_i e
    refine ⟨h0, h2, LkO.nil (ws := s.dH) ?_, hh⟩
    have := List.eq_nil_of_length_eq_zero e
    rw [this] at IQ; exact IQ
  · rename_i e
    refine ⟨h0, h2, ?_, IQ, hh⟩
    cases hd : s.ai with
    | false => rfl
    | true => rw [RW hd] at e; exact absurd rfl e
theorem check_ab (ck : ft) (RW : s.ai = false) (hd : s.aA = .dG ck) (hq : Qu D O K s M) : AbG D O K (hU s M ck) := by
  obtain ⟨q0, q2, qd⟩ := hq
  rw [hd] at qd
  obtain ⟨IQ, hh⟩ := qd
  have hm : (eR ck M).2.2 = M := by unfold eR; split <;> rfl
  have hn : ∀ ph s' M', NoSt ((eR ck M).1, ph, s', M') := fun ph s' M' => by
    unfold eR
    split
    · exact .zero rfl
    · exact .of (M := M) (eV := 1) (cell := 2) (cc := ck.aj.getD 0 0) (g := gF) rfl (by omega)
  unfold hU
  dsimp only
  rw [hm]
  refine .of ?_ (hn _ _ _)
  split
  · exact restore_ab q0 q2 IQ hh fun e => by rw [show s.ai = true from e] at RW; cases RW
  · split
    · exact ⟨q0, q2, IQ, hh⟩
    · exact ⟨q0, q2, IQ, hh⟩
theorem decide_ab (RW : s.ai = false) (OF : s.iv = true ↔ 0 < s.aj.length) (hd : s.aA = .cN) (hq : Qu D O K s M) : AbG D O K (fb s M) := by
  obtain ⟨q0, q2, qd⟩ := hq
  rw [hd] at qd
  obtain ⟨IQ, hh⟩ := qd
  have hn : ∀ ph s' M', NoSt (gX M 3 0, ph, s', M') := fun ph s' M' => .of (M := M) (eV := 1) (cell := 3) (cc := 0) (g := gF) rfl (by omega)
  unfold fb
  dsimp only
  split
  · exact .of (restore_ab q0 q2 IQ hh fun e => by rw [show s.ai = true from e] at RW; cases RW) (hn _ _ _)
  · split
    · rename_i dn
      refine ⟨.inl ⟨?_, rfl, trivial⟩, hn _ _ _⟩
      unfold aD.iv at dn
      simp only [Bool.and_eq_true, decide_eq_true_eq] at dn
      exact dn.1
    · rename_i dn
      refine .of (restore_ab q0 q2 IQ hh fun e => ?_) (hn _ _ _)
      have : ¬ 0 < s.aj.length := fun e => dn (OF.2 e)
      exact List.eq_nil_of_length_eq_zero (by show s.aj.length = 0; omega)
theorem rel_ab (hM : oR c nt k M) (hb : iW c k s) (w : gL) (q : Nat) (VJ : q < s.aj.length) (hw : w = ⟨s.aj.drop q, (lB s).drop q⟩) (hd : s.aA = .cK w) (hq : Qu D O K s M) : AbG D O K (lC s M w) := by
  obtain ⟨q0, q2, qd⟩ := hq
  rw [hd] at qd
  obtain ⟨RW, IQ, hh⟩ := qd
  have oE : 0 < w.os.length := by rw [hw]; simp; omega
  have JI : w.os.getD 0 0 ∈ s.aj := by
    have : w.os.getD 0 0 ∈ w.os := zN oE
    rw [hw] at this ⊢
    exact List.mem_of_mem_drop this
  have hxr := hb.Q8 _ JI
  have PF := hM.l1
  have dg : dw M 2 (w.os.getD 0 0) = true := hasCell_of (by omega) hxr.1 (by show _ < ((M 1).length : Int); rw [PF]; exact hxr.2)
  have hv : s.sy = -1 := by unfold aD.sy; rw [if_neg (by rw [RW]; simp)]
  unfold lC j3
  rw [if_neg (by simp only [gL.done, decide_eq_true_eq]; omega)]
  dsimp only
  refine .of ?_ (.of (M := M) (eV := 2) (cell := 2) (cc := w.os.getD 0 0) (g := eD (w.ws.getD 0 0)) rfl (by omega))
  have hm : ∀ kk, kk ≠ 1 → kd M 2 (w.os.getD 0 0) (eD (w.ws.getD 0 0)) kk = M kk := fun kk VU => opM_ne (by omega)
  have e1 : kd M 2 (w.os.getD 0 0) (eD (w.ws.getD 0 0)) 1 = (M 1).set (w.os.getD 0 0).toNat (w.ws.getD 0 0) := opM_set dg rfl
  have hlk' := IQ.Qq oE ⟨hxr.1, by omega⟩
  rw [← e1] at hlk'
  have PM : HeldA s (kd M 2 (w.os.getD 0 0) (eD (w.ws.getD 0 0))) := by
    obtain ⟨t, a0, a1, a2, a3, a4⟩ := hh
    exact ⟨t, a0, a1, a2, by unfold tkF at *; rw [hm 3 (by omega)]; exact a3, by unfold svF at *; rw [hm 4 (by omega)]; exact a4⟩
  refine ⟨(hm 0 (by omega)).trans q0, (hm 2 (by omega)).trans q2, ?_⟩
  dsimp only
  rw [hv, if_neg (by omega : ¬ (0 : Int) ≤ -1)]
  split
  · rename_i jx
    simp only [gL.done, decide_eq_true_eq] at jx
    have hnil : w.os.tail = [] := List.eq_nil_of_length_eq_zero jx
    rw [hnil] at hlk'
    exact ⟨hlk'.nil, PM⟩
  · exact ⟨RW, hlk', PM⟩
theorem pass_ab (hM : oR c nt k M) (hk : k < 2^40) (hd : s.aA = .fm) (hq : Qu D O K s M) (ph : Int) : AbG D O K (wx M 5 0 (pg s.eo), ph, gg s, ww M 5 0 (pg s.eo)) := by
  obtain ⟨q0, q2, qd⟩ := hq
  rw [hd] at qd
  obtain ⟨h1, t, a0, a1, a2, a3, a4⟩ := qd
  refine .of ?_ (.of (M := M) (eV := 2) (cell := 5) (cc := 0) (g := eD (pg s.eo)) rfl (by omega))
  have ht := hM.SA
  have hm : ∀ kk, kk ≠ 4 → ww M 5 0 (pg s.eo) kk = M kk := fun kk VU => opM_ne (by omega)
  have dg : dw M 5 0 = true := hasCell_of (by omega) (by omega) (by show (0 : Int) < ((M 4).length : Int); rw [hM.l4]; decide)
  have e1 : ww M 5 0 (pg s.eo) 4 = (M 4).set 0 (pg s.eo) := opM_set dg rfl
  have hv : pg s.eo = tkF M := by
    unfold tkF at *
    unfold pg aD.eo
    rw [a0]
    show IntKind.u64.wrap (IntKind.u64.wrap t.eo + 1) = _
    unfold fL.eo
    rw [if_pos a1, ak (x := t.gP) (by omega) (by omega), au (x := t.gP) (by omega) (by omega), au (by omega) (by omega), a3]
  refine Qu.calm ((hm 0 (by omega)).trans q0) ((hm 2 (by omega)).trans q2) ((hm 1 (by omega)).trans h1) ?_ (finish_calm s)
  have e3 : svF (ww M 5 0 (pg s.eo)) = pg s.eo := by unfold svF; rw [e1, getD_set, if_pos ⟨rfl, by rw [hM.l4]; omega⟩]
  have e4 : tkF (ww M 5 0 (pg s.eo)) = tkF M := by unfold tkF; rw [hm 3 (by omega)]
  rw [e3, e4, hv]

theorem com_ab (hc : Com s) : AbG D O K (cD s M) := by
  obtain ⟨h1, h2, h3⟩ := hc
  unfold cD
  revert h3
  cases hd : s.aA <;> intro h3 <;> first | exact h3.elim | skip
  · exact ⟨.inl ⟨h1, h2, by dsimp only; rw [hd]; exact h3⟩, .zero rfl⟩
  · rename_i w
    have hn : NoSt (iZ s M w) := fun _ => by
      unfold iZ
      dsimp only
      split <;> exact ⟨rfl, h2, h1⟩
    refine ⟨.inl ?_, hn⟩
    unfold iZ
    dsimp only
    split <;> exact ⟨h1, h2, trivial⟩
  · rename_i w
    have hn : NoSt (lC s M w) := by
      unfold lC j3
      dsimp only
      split
      · exact .zero rfl
      · exact .of (M := M) (eV := 2) (cell := 2) (cc := w.os.getD 0 0) (g := eD (w.ws.getD 0 0)) rfl (by omega)
    refine ⟨.inl ⟨h1, h2, ?_⟩, hn⟩
    unfold lC
    dsimp only
    by_cases e1 : (j3 w M).2.1.done = true
    · by_cases e2 : 0 ≤ s.sy
      · rw [if_pos e1, if_pos e2]; trivial
      · rw [if_pos e1, if_neg e2]; trivial
    · rw [if_neg e1]; trivial
  · exact ⟨.inl ⟨h1, h2, trivial⟩, .of (M := M) (eV := 2) (cell := 3) (cc := 0) rfl (by omega)⟩
  · refine ⟨.inl ?_, .of (M := M) (eV := 2) (cell := 5) (cc := 0) rfl (by omega)⟩
    dsimp only
    unfold gg
    rw [if_pos (.inl h1)]
    exact ⟨h1, h2, trivial⟩
  · exact ⟨.inl ⟨h1, h2, rfl⟩, .of (M := M) (eV := 2) (cell := 6) (cc := s.ag) rfl (by omega)⟩

theorem qu_ab (hk : k < 2^40) (h : oW c k s) (hM : oR c nt k M) (hf : s.av = 2 → s.aA = .bm) (hq : Qu D O K s M) : AbG D O K (cD s M) := by
  have hb := h.b
  have hd := h.d
  have hq' := hq
  obtain ⟨q0, q2, qd⟩ := hq'
  unfold cD
  cases e : s.aA with
  | bm => exact .of hq (.zero rfl)
  | jV l =>
    rw [e] at hd qd
    exact .of ((Like.refl M).qu q0 q2 qd.1 qd.2 (loc_calm (s := { s with aA := .bm }) ⟨hd.1.to rfl rfl rfl rfl rfl, rfl⟩ l)) (.zero rfl)
  | ej =>
    rw [e] at hd qd
    obtain ⟨h0, en, h1, _⟩ := hd
    dsimp only
    rw [h1]
    exact enter_ab q0 q2 qd.1 qd.2 en e
  | bz r u =>
    rw [e] at hd qd
    exact read_ab q0 q2 qd.1 qd.2 r u hd.1
  | eE p =>
    rw [e] at hd qd
    exact pop_ab q0 q2 qd.1 qd.2 p hd.1
  | fF =>
    rw [e] at hd
    obtain ⟨h0, OL, l, h1, h2, h3, h4, h5⟩ := hd
    dsimp only
    rw [h1]
    exact lock_ab hM hb l h1 h2 h4 h5 e hq
  | dI =>
    rw [e] at hd
    obtain ⟨h0, hl, t, h1, h2, h3⟩ := hd
    dsimp only
    rw [h1]
    exact turn_ab hM hk t h1 h2 h3.1 e hq
  | dG ck =>
    rw [e] at hd
    exact check_ab ck hd.1.2 e hq
  | cN =>
    rw [e] at hd
    exact decide_ab hd.1.2 hd.2.1.2 e hq
  | et w => rw [e] at qd; exact qd.elim
  | cK w =>
    rw [e] at hd
    obtain ⟨_, _, _, _, q, h1, h2⟩ := hd
    exact rel_ab hM hb w q h1 h2 e hq
  | ij => rw [e] at qd; exact qd.elim
  | fm => exact pass_ab hM hk e hq 20
  | eZ p =>
    rw [e] at qd
    exact push_ab q0 q2 qd.1 qd.2 p
  | fW =>
    rw [e] at qd
    exact .of ((Like.op M (by omega)).qu q0 q2 qd.1 qd.2 trivial) (.of (M := M) (eV := 2) (cell := 6) (cc := s.ag) rfl (by omega))

/-- Every step keeps it. -/
theorem AbI.step (hk : k < 2^40) (h : oW c k s) (hM : oR c nt k M) (ht : s.ag = 0) (XM : 0 < nt) (hI : AbI D O K s M) : AbI D O K (cD s M).2.2.1 (cD s M).2.2.2 ∧ NoSt (cD s M) := by
  have hg : AbG D O K (cD s M) := by
    rcases hI.h with hc | hq
    · exact com_ab hc
    · exact qu_ab hk h hM (fun e => (hI.cC e).1) hq
  refine ⟨⟨fun e => ?_, hg.1⟩, hg.2⟩
  rw [BL] at e
  cases hd : s.aA with
  | fW =>
    unfold cD
    rw [hd]
    refine ⟨rfl, ?_⟩
    dsimp only
    have dg : dw M 6 s.ag = true := hasCell_of (by omega) (by omega) (by rw [ht]; show (0 : Int) < ((M 5).length : Int); rw [hM.l5]; omega)
    have : ww M 6 s.ag 0 5 = (M 5).set s.ag.toNat 0 := opM_set dg rfl
    rw [this, ht, getD_set, if_pos ⟨rfl, by rw [hM.l5]; exact XM⟩]
  | _ =>
    rw [hd] at e
    have h2 := hI.cC e
    unfold cD
    rw [h2.1]
    exact h2
/-- A request keeps it. -/
theorem AbI.SE {s' : aD} (h : oW c k s) (hI : AbI D O K s M) (hs : s' = s ∨ (s.aA = .bm ∧ s.av ≠ 2 ∧ s'.av = 1 ∧ Calm s')) : AbI D O K s' M := by
  rcases hs with rfl | ⟨h1, h2, h3, h4⟩
  · exact hI
  · refine ⟨fun e => by omega, .inr ?_⟩
    rcases hI.h with hc | hq
    · obtain ⟨_, _, hx⟩ := hc
      rw [h1] at hx
      exact absurd hx h2
    · obtain ⟨q0, q2, qd⟩ := hq
      rw [h1] at qd
      exact (Like.refl M).qu q0 q2 qd.1 qd.2 h4
theorem ask_calm (c : bG) (q : nc) (s : aD) : (xB c q s).2 = s ∨ (s.aA = .bm ∧ s.av ≠ 2 ∧ (xB c q s).2.av = 1 ∧ Calm (xB c q s).2) := by
  have zH : s.jY 1 = true → s.aA = .bm ∧ s.av = 1 := fun hf => by
    simp only [aD.jY, Bool.and_eq_true, decide_eq_true_eq] at hf
    refine ⟨?_, hf.2⟩
    have h1 := hf.1
    revert h1
    cases s.aA <;> intro h1 <;> first | rfl | (simp [ba.eo] at h1)
  have rd : ∀ a, (Bn s a).2 = s ∨ (s.aA = .bm ∧ s.av ≠ 2 ∧ (Bn s a).2.av = 1 ∧ Calm (Bn s a).2) := fun a => by
    unfold Bn
    split
    · rename_i hf
      obtain ⟨h1, h2⟩ := zH hf
      right
      refine ⟨h1, by omega, ?_⟩
      split
      · exact ⟨h2, trivial⟩
      · split
        · exact ⟨h2, trivial⟩
        · exact ⟨h2, trivial⟩
    · exact .inl rfl
  have wt : ∀ a v, (CF s a v).2 = s ∨ (s.aA = .bm ∧ s.av ≠ 2 ∧ (CF s a v).2.av = 1 ∧ Calm (CF s a v).2) := fun a v => by
    unfold CF
    split
    · rename_i hf
      obtain ⟨h1, h2⟩ := zH hf
      exact .inr ⟨h1, by omega, h2, trivial⟩
    · exact .inl rfl
  have al : ∀ a, (An s a).2 = s ∨ (s.aA = .bm ∧ s.av ≠ 2 ∧ (An s a).2.av = 1 ∧ Calm (An s a).2) := fun a => by
    unfold An
    split
    · rename_i hf
      obtain ⟨h1, h2⟩ := zH hf
      split
      · exact .inl rfl
      · right
        refine ⟨h1, by omega, ?_⟩
        split
        · exact ⟨h2, trivial⟩
        · exact ⟨h2, trivial⟩
    · exact .inl rfl
  have fr : ∀ a, (AB s a).2 = s ∨ (s.aA = .bm ∧ s.av ≠ 2 ∧ (AB s a).2.av = 1 ∧ Calm (AB s a).2) := fun a => by
    unfold AB
    split
    · rename_i hf
      obtain ⟨h1, h2⟩ := zH hf
      right
      refine ⟨h1, by omega, ?_⟩
      split
      · exact ⟨h2, trivial⟩
      · split
        · exact ⟨h2, trivial⟩
        · exact ⟨h2, trivial⟩
    · exact .inl rfl
  have ed : ∀ a, (xN s a).2 = s ∨ (s.aA = .bm ∧ s.av ≠ 2 ∧ (xN s a).2.av = 1 ∧ Calm (xN s a).2) := fun a => by
    unfold xN
    split
    · rename_i hf
      obtain ⟨h1, h2⟩ := zH hf
      split
      · exact .inl rfl
      · exact .inr ⟨h1, by omega, h2, trivial⟩
    · exact .inl rfl
  unfold xB
  repeat' split
  all_goals first | exact rd _ | exact wt _ _ | exact al _ | exact fr _ | exact ed _
end

end Go.Stx
