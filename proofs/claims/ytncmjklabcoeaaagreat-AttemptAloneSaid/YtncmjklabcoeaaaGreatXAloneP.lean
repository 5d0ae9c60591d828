/-
  An attempt alone commits what it wrote: the plain law.
-/
import Derived.Test.YtncmjklabcoeaaaGreatXAbortP
namespace Go.Stx
open Go Go.Proofs
attribute [local irreducible] fj cm aH bB dK ei
set_option linter.unusedVariables false
set_option linter.unusedSimpArgs false

/-! ### Values, written in order -/

def wrF : List Int → List Int → List Int → List Int
  | D, a :: us, v :: vs => wrF (D.set a.toNat v) us vs
  | D, _, _ => D
theorem wrF_len : ∀ (us vs D : List Int), (wrF D us vs).length = D.length
  | [], _, _ => by simp [wrF]
  | _ :: _, [], _ => by simp [wrF]
  | a :: us, v :: vs, D => by
    unfold wrF
    rw [wrF_len us vs]
    simp
theorem wrF_set : ∀ (us vs D : List Int) (a v : Int), (∀ x ∈ us, x.toNat ≠ a.toNat) → wrF (D.set a.toNat v) us vs = (wrF D us vs).set a.toNat v
  | [], _, _, _, _, _ => by simp [wrF]
  | _ :: _, [], _, _, _, _ => by simp [wrF]
  | b :: us, w :: vs, D, a, v, h => by
    unfold wrF
    rw [List.set_comm _ _ (Ne.symm (h b (by simp)))]
    exact wrF_set us vs _ a v fun x hx => h x (by simp [hx])
theorem wrF_app : ∀ (us vs D : List Int) (a v : Int), vs.length = us.length → wrF D (us ++ [a]) (vs ++ [v]) = (wrF D us vs).set a.toNat v
  | [], [], D, a, v, _ => by simp [wrF]
  | b :: us, w :: vs, D, a, v, h => by
    show wrF (D.set b.toNat w) (us ++ [a]) (vs ++ [v]) = _
    rw [wrF_app us vs _ a v (by simpa using h)]
    rfl
  | [], _ :: _, _, _, _, h => by simp at h
  | _ :: _, [], _, _, _, h => by simp at h
theorem wrF_upd : ∀ (us vs D : List Int) (e : Nat) (v : Int), vs.length = us.length → e < us.length → (∀ i j, i < us.length → j < us.length → (us.getD i 0).toNat = (us.getD j 0).toNat → i = j) → wrF D us (vs.set e v) = (wrF D us vs).set (us.getD e 0).toNat v
  | [], _, _, _, _, _, he, _ => by simp at he
  | _ :: _, [], _, _, _, h, _, _ => by simp at h
  | b :: us, w :: vs, D, 0, v, h, he, hd => by
    have ke : ∀ x ∈ us, x.toNat ≠ b.toNat := fun x hx e => by
      obtain ⟨i, hi, rfl⟩ := List.getElem_of_mem hx
      have := hd (i + 1) 0 (by simp; omega) (by simp) (by
        rw [List.getD_cons_succ, List.getD_cons_zero, List.getD_eq_getElem?_getD, List.getElem?_eq_getElem hi]
        exact e)
      omega
    show wrF (D.set b.toNat v) us vs = (wrF (D.set b.toNat w) us vs).set b.toNat v
    rw [wrF_set us vs D b v ke, wrF_set us vs D b w ke]
    simp
  | b :: us, w :: vs, D, e + 1, v, h, he, hd => by
    show wrF (D.set b.toNat w) us (vs.set e v) = (wrF (D.set b.toNat w) us vs).set _ v
    rw [List.getD_cons_succ]
    refine wrF_upd us vs _ e v (by simpa using h) (by simpa using he) fun i j hi hj X4 => ?_
    have := hd (i + 1) (j + 1) (by simp; omega) (by simp; omega) (by rw [List.getD_cons_succ, List.getD_cons_succ]; exact X4)
    omega
/-- A write into the log. -/
theorem put_wr {L : ln} (h : jq L) {a : Int} (ha : 0 ≤ a) (v : Int) (hc : L.bl.length < L.dA) (D : List Int) : (di L a v).1 = true ∧ wrF D (di L a v).2.bl (di L a v).2.df = (wrF D L.bl L.df).set a.toNat v ∧
    (di L a v).2.bl.length ≤ L.bl.length + 1 ∧ 0 < (di L a v).2.bl.length ∧ ∀ x, x ∈ (di L a v).2.bl ↔ x ∈ L.bl ∨ x = a := by
  unfold di
  cases hf : lU L.bl a with
  | some e =>
    obtain ⟨h1, h2, _⟩ := mq hf
    dsimp only
    refine ⟨rfl, ?_, by omega, by omega, fun x => ⟨.inl, fun hx => ?_⟩⟩
    · rw [wrF_upd L.bl L.df D e v h.xt h1, h2]
      intro i j hi hj X4
      refine h.Qb i j hi hj ?_
      have p1 := h.Q7 _ (zN hi)
      have p2 := h.Q7 _ (zN hj)
      omega
    · rcases hx with hx | hx
      · exact hx
      · rw [hx, ← h2]; exact zN h1
  | none =>
    dsimp only
    rw [if_neg (by omega)]
    refine ⟨rfl, wrF_app _ _ _ _ _ h.xt, by simp, by simp, fun x => by simp⟩

/-! ### The invariant -/

structure ZA (D0 O : List Int) (M : Mm) : Prop where
  m0 : M 0 = D0
  m1 : M 1 = O
  ck : (M 2).getD 0 0 = 0
  tk : tkF M = 0
  sv : svF M = 0
def OEq (s : aD) : Prop := ∀ x, x ∈ s.aj ↔ ∃ a ∈ s.aM.bl, fJ s.cf a = x
def outA (O : List Int) (s : aD) (M : Mm) : Prop := (M 1).length = O.length ∧ ∀ j : Nat, (j : Int) ∉ s.aj → (M 1).getD j 0 = O.getD j 0
/-- The turn is had. -/
def TuA (s : aD) (M : Mm) : Prop := (∃ t, s.aE = some t ∧ t.pT = true ∧ t.gP = 0) ∧ tkF M = 1 ∧ svF M = 0
def finD (D0 : List Int) (s : aD) : List Int := wrF D0 s.aM.bl s.aM.df
def finA (D0 O : List Int) (s : aD) (M : Mm) : Prop := M 0 = finD D0 s ∧ outA O s M ∧ (∀ x ∈ s.aj, (M 1).getD x.toNat 0 = 64)
def AlD (D0 O : List Int) (s : aD) (M : Mm) : ba → Prop
  | .ej => s.av = 1 ∧ fe s ∧ ZA D0 O M
  | .bm => (s.av = 1 ∧ fe s ∧ ZA D0 O M) ∨ (s.av = 2 ∧ s.ax = 1 ∧ s.ai = true ∧ OEq s ∧ finA D0 O s M ∧ (M 2).getD 0 0 = (if 0 < s.aM.bl.length then 1 else 0) ∧ tkF M = 1 ∧ svF M = 1 ∧ (M 5).getD 1 0 = 0)
  | .jV (.fu a v) => s.av = 1 ∧ fe s ∧ ZA D0 O M ∧ 0 ≤ a ∧ a < s.cf.aF ∧ s.aM.bl.length < s.aM.dA
  | .jV (.cC ax) => s.av = 1 ∧ fe s ∧ ZA D0 O M ∧ ax = 1
  | .fF => s.ax = 1 ∧ 0 < s.aM.bl.length ∧ OEq s ∧ s.aj.Nodup ∧ M 0 = D0 ∧ (M 2).getD 0 0 = 0 ∧ tkF M = 0 ∧ svF M = 0 ∧ ∃ l, s.aG = some l ∧ LkO O (M 1) (l.aj.take l.dH.length) l.dH ∧ (l.fg = true → (M 1).getD (ew l).toNat 0 = l.d8)
  | .dI => s.ax = 1 ∧ OEq s ∧ M 0 = D0 ∧ (M 2).getD 0 0 = 0 ∧ outA O s M ∧ ∃ t, s.aE = some t ∧ (t.pT = false → tkF M = 0 ∧ svF M = 0) ∧ (t.pT = true → t.gP = 0 ∧ tkF M = 1 ∧ svF M = 0)
  | .cN => s.ax = 1 ∧ OEq s ∧ M 0 = D0 ∧ (M 2).getD 0 0 = 0 ∧ outA O s M ∧ TuA s M
  | .et w => s.ax = 1 ∧ s.ai = true ∧ s.ao = 0 ∧ OEq s ∧ wrF (M 0) w.os w.ws = finD D0 s ∧ (M 2).getD 0 0 = 0 ∧ outA O s M ∧ TuA s M
  | .cK w => s.ax = 1 ∧ s.ai = true ∧ s.ao = 0 ∧ OEq s ∧ M 0 = finD D0 s ∧ (M 2).getD 0 0 = 0 ∧ outA O s M ∧ (∀ x ∈ s.aj, x ∉ w.os → (M 1).getD x.toNat 0 = 64) ∧ TuA s M
  | .ij => s.ax = 1 ∧ s.ai = true ∧ s.ao = 0 ∧ OEq s ∧ finA D0 O s M ∧ 0 < s.aM.bl.length ∧ TuA s M
  | .fm => s.ax = 1 ∧ s.ai = true ∧ OEq s ∧ finA D0 O s M ∧ (M 2).getD 0 0 = (if 0 < s.aM.bl.length then 1 else 0) ∧ TuA s M
  | .fW => s.ax = 1 ∧ s.ai = true ∧ OEq s ∧ finA D0 O s M ∧ (M 2).getD 0 0 = (if 0 < s.aM.bl.length then 1 else 0) ∧ tkF M = 1 ∧ svF M = 1
  | _ => False
structure AlI (D0 O : List Int) (s : aD) (M : Mm) : Prop where
  set : s.set = []
  alc : s.ac = []
  G2 : s.ag = 1
  H2 : s.cf.ao = 10
  d : AlD D0 O s M s.aA
/-- How many steps are left, at most. -/
def muA (s : aD) : Nat := match s.aA with
  | .ej => match s.br with
    | some e => (3 - e.cj).toNat
    | none => 0
  | .jV (.cC _) => 8 + 4 * s.aM.bl.length
  | .jV _ => 1
  | .fF => match s.aG with
    | some l => 7 + s.aj.length + s.aM.bl.length + 2 * (s.aj.length - l.dH.length) - (if l.fg = true then 1 else 0)
    | none => 0
  | .dI => match s.aE with
    | some t => (if t.pT = true then 5 else 6) + s.aj.length + s.aM.bl.length
    | none => 0
  | .cN => 4 + s.aj.length + s.aM.bl.length
  | .et w => 3 + s.aj.length + w.os.length
  | .cK w => 3 + w.os.length
  | .ij => 3
  | .fm => 2
  | .fW => 1
  | _ => 0

/-! ### The steps -/

section
variable {D0 O : List Int} {c : bG} {k : Nat} {s : aD} {M : Mm}
/-- What a step is to give. -/
def AlG (D0 O : List Int) (s : aD) (r : ri) : Prop := r.2.2.1.set = s.set ∧ r.2.2.1.ac = s.ac ∧ AlD D0 O r.2.2.1 r.2.2.2 r.2.2.1.aA ∧ muA r.2.2.1 < muA s
theorem AlG.of {a : bq} {ph : Int} {s' : aD} {M' : Mm} (h1 : s'.set = s.set) (h2 : s'.ac = s.ac) (h3 : AlD D0 O s' M' s'.aA) (h4 : muA s' < muA s) : AlG D0 O s (a, ph, s', M') := ⟨h1, h2, h3, h4⟩

theorem enter_al (e : dC) (hs : s.br = some e) (pE : 0 ≤ e.cj ∧ e.cj ≤ 2) (hd : s.aA = .ej) (h : AlD D0 O s M .ej) : AlG D0 O s (gD s M e) := by
  obtain ⟨h1, h2, z⟩ := h
  have hz : ∀ {M' : Mm}, Like M M' → ZA D0 O M' := fun {M'} hl => ⟨hl.1.trans z.m0, hl.2.1.trans z.m1, by rw [hl.2.2.1]; exact z.ck, by have := z.tk; unfold tkF at *; rw [hl.2.2.2.1]; exact this, by have := z.sv; unfold svF at *; rw [hl.2.2.2.2]; exact this⟩
  have hmu : muA s = (3 - e.cj).toNat := by unfold muA; rw [hd]; dsimp only; rw [hs]
  unfold gD
  rcases u9 e M pE with ⟨h0, e0⟩ | ⟨h0, e0⟩ | ⟨h0, e0⟩
  · rw [e0]
    dsimp only
    rw [if_neg (by decide)]
    refine .of rfl rfl ?_ ?_
    · dsimp only; rw [hd]; exact ⟨h1, h2.to rfl rfl rfl rfl rfl, hz (.op M (by omega))⟩
    · rw [hmu, h0]; unfold muA; dsimp only; rw [hd]; show ((3 : Int) - 1).toNat < ((3 : Int) - 0).toNat; decide
  · rw [e0]
    dsimp only
    rw [if_neg (by decide)]
    refine .of rfl rfl ?_ ?_
    · dsimp only; rw [hd]; exact ⟨h1, h2.to rfl rfl rfl rfl rfl, hz (.refl M)⟩
    · rw [hmu, h0]; unfold muA; dsimp only; rw [hd]; show ((3 : Int) - 2).toNat < ((3 : Int) - 1).toNat; decide
  · rw [e0]
    dsimp only
    rw [if_pos rfl]
    refine .of rfl rfl (.inl ⟨h1, h2.to rfl rfl rfl rfl rfl, hz (.op M (by omega))⟩) ?_
    rw [hmu, h0]; show 0 < ((3 : Int) - 2).toNat; decide

theorem locw_al (hb : iW c k s) {a v : Int} (hd : s.aA = .jV (.fu a v)) (h : AlD D0 O s M (.jV (.fu a v))) (x : bq) (ph : Int) : AlG D0 O s (x, ph, nK { s with aA := .bm } (.fu a v), M) := by
  obtain ⟨h1, h2, z, h3, h4, h5⟩ := h
  have hp := put_wr hb.aM h3 v h5 D0
  have e : nK { s with aA := .bm } (.fu a v) = { s with aA := .bm, aM := (di s.aM a v).2 } := by
    show (if s.cf.aF ≤ a then _ else (iI { s with aA := .bm } a v).2) = _
    rw [if_neg (by omega)]
    unfold iI
    rw [if_pos hp.1]
  rw [e]
  refine .of rfl rfl (.inl ⟨h1, h2.to rfl rfl rfl rfl rfl, z⟩) ?_
  have hmu : muA s = 1 := by unfold muA; rw [hd]
  rw [hmu]
  show 0 < 1
  omega
theorem nodup_le2 : ∀ {l m : List Int}, l.Nodup → (∀ x ∈ l, x ∈ m) → l.length ≤ m.length
  | [], _, _, _ => by simp
  | a :: l, m, h, hs => by
    have h1 := List.nodup_cons.1 h
    have h2 : a ∈ m := hs a (by simp)
    have h3 := nodup_le2 (m := m.erase a) h1.2 fun x hx => (List.mem_erase_of_ne (fun e => by subst e; exact h1.1 hx)).2 (hs x (by simp [hx]))
    rw [List.length_erase_of_mem h2] at h3
    have := List.length_pos_of_mem h2
    simp only [List.length_cons]
    omega
theorem fin_al (hb : iW c k s) {ax : Int} (hd : s.aA = .jV (.cC ax)) (h : AlD D0 O s M (.jV (.cC ax))) (x : bq) (ph : Int) : AlG D0 O s (x, ph, nK { s with aA := .bm } (.cC ax), M) := by
  obtain ⟨h1, h2, z, rfl⟩ := h
  have hmu : muA s = 8 + 4 * s.aM.bl.length := by unfold muA; rw [hd]
  show AlG D0 O s (x, ph, nN { s with aA := .bm } 1, M)
  unfold nN
  split
  · rename_i hs
    simp only [Bool.and_eq_true, decide_eq_true_eq] at hs
    have zB := qw (s.aM.bl.map (fJ s.cf))
    have kK := ug (s.aM.bl.map (fJ s.cf))
    have hnd : (dX (s.aM.bl.map (fJ s.cf))).Nodup := zB.1.imp fun h => by omega
    have hln : (dX (s.aM.bl.map (fJ s.cf))).length ≤ s.aM.bl.length := by
      have := nodup_le2 hnd fun x hx => (zB.2 x).1 hx
      simpa using this
    refine .of rfl rfl ⟨rfl, hs.2, fun y => ?_, hnd, z.m0, z.ck, z.tk, z.sv, _, rfl, ?_, fun e => by cases e⟩ ?_
    · show y ∈ dX (s.aM.bl.map (fJ s.cf)) ↔ _
      rw [zB.2, List.mem_map]
    · show LkO O (M 1) _ []
      rw [z.m1]; exact LkO.refl _ _
    · rw [hmu]
      unfold muA
      dsimp only
      rw [if_neg (by decide)]
      simp only [List.length_nil]
      omega
  · rename_i hs
    have hz : s.aM.bl.length = 0 := by
      have : ¬ 0 < s.aM.bl.length := fun h => hs (by simp [h])
      omega
    have Vz : s.aM.bl = [] := List.eq_nil_of_length_eq_zero hz
    refine .of rfl rfl ⟨rfl, fun y => ?_, z.m0, z.ck, ⟨by rw [z.m1], fun j _ => by rw [z.m1]⟩, _, rfl, fun _ => ⟨z.tk, z.sv⟩, fun e => by cases e⟩ ?_
    · show y ∈ s.aj ↔ ∃ a ∈ s.aM.bl, _
      rw [h2.aj, Vz]
      simp
    · rw [hmu]
      unfold muA
      dsimp only
      rw [if_neg (by decide), h2.aj, Vz]
      decide

theorem lock_al (hM : oR c 2 k M) (hk : k < 2^40) (hb : iW c k s) (hO : ∀ j : Nat, O.getD j 0 = 0) (l : eM) (hs : s.aG = some l) (ho : l.aj = s.aj) (dQ : l.dH.length < l.aj.length) (hd : s.aA = .fF) (h : AlD D0 O s M .fF) : AlG D0 O s (jk s M l) := by
  obtain ⟨qi, cU, hoe, hnd, m0, ck, tk, sv, l', XY, IQ, uT⟩ := h
  rw [hs] at XY
  injection XY with XY
  subst XY
  have hmu : muA s = 7 + s.aj.length + s.aM.bl.length + 2 * (s.aj.length - l.dH.length) - (if l.fg = true then 1 else 0) := by unfold muA; rw [hd]; dsimp only; rw [hs]
  have hx : ew l ∈ s.aj := by
    unfold ew
    rw [← ho, List.getD_eq_getElem?_getD, List.getElem?_eq_getElem dQ]
    exact List.getElem_mem dQ
  have hxr := hb.Q8 _ hx
  have dg : dw M 2 (ew l) = true := hasCell_of (by omega) hxr.1 (by show _ < ((M 1).length : Int); rw [hM.l1]; exact hxr.2)
  have Uy : ¬ l.done = true := by simp only [eM.done, decide_eq_true_eq]; omega
  have XM : ew l ∉ l.aj.take l.dH.length := by
    intro hm
    rw [← ho] at hnd
    have hsplit : l.aj.take l.dH.length ++ l.aj.drop l.dH.length = l.aj := List.take_append_drop _ _
    rw [← hsplit] at hnd
    refine (List.nodup_append.1 hnd).2.2 _ hm _ ?_ rfl
    unfold ew
    rw [List.getD_eq_getElem?_getD, List.getElem?_eq_getElem dQ]
    rw [List.drop_eq_getElem_cons dQ]
    exact List.mem_cons_self
  unfold jk dF
  rw [if_neg Uy]
  split
  · rename_i QD
    have hz : (M 1).getD (ew l).toNat 0 = 0 := by
      rw [IQ.fy _ (by rw [Int.toNat_of_nonneg hxr.1]; exact XM)]
      exact hO _
    have PN : (de M 1 2 (ew l) gF).fI = 0 := (opAcc_has dg).1.trans hz
    dsimp only
    rw [PN]
    have hh : decide (iF 0 < 0) = true := by decide
    rw [hh]
    rw [if_neg (show ¬ eM.done { l with d8 := 0, fg := true } = true by simp [eM.done]; omega)]
    refine .of rfl rfl ?_ ?_
    · dsimp only
      rw [hd]
      exact ⟨qi, cU, hoe, hnd, m0, ck, tk, sv, _, rfl, IQ, fun _ => hz⟩
    · rw [hmu]
      unfold muA
      dsimp only
      rw [hd]
      dsimp only
      rw [if_pos rfl, if_neg (by rw [QD]; decide)]
      rw [ho] at dQ
      omega
  · rename_i QD
    have PF : l.fg = true := by simpa using QD
    have hseen := uT PF
    obtain ⟨_, hdone⟩ := opAcc_has (eV := 3) (g := hQ l.d8 (jD l)) dg
    have Xw : (de M 3 2 (ew l) (hQ l.d8 (jD l))).done = true := by rw [hdone]; exact decide_eq_true hseen
    have hm : ∀ kk, kk ≠ 1 → kd M 2 (ew l) (hQ l.d8 (jD l)) kk = M kk := fun kk VU => opM_ne (by omega)
    have e1 : kd M 2 (ew l) (hQ l.d8 (jD l)) 1 = (M 1).set (ew l).toNat (jD l) := opM_set dg (by rw [← hdone]; exact Xw)
    have e2 : l.aj.take (l.dH ++ [l.d8]).length = l.aj.take l.dH.length ++ [ew l] := by
      rw [List.length_append, List.length_singleton, List.take_add_one, List.getElem?_eq_getElem dQ]
      unfold ew
      rw [List.getD_eq_getElem?_getD, List.getElem?_eq_getElem dQ]
      rfl
    have hlk2 : LkO O (kd M 2 (ew l) (hQ l.d8 (jD l)) 1) (l.aj.take (l.dH ++ [l.d8]).length) (l.dH ++ [l.d8]) := by
      rw [e1, e2]
      exact IQ.aG (by simp; omega) hxr.1 XM hseen
    have tk2 : tkF (kd M 2 (ew l) (hQ l.d8 (jD l))) = 0 := by unfold tkF at *; rw [hm 3 (by omega)]; exact tk
    have sv2 : svF (kd M 2 (ew l) (hQ l.d8 (jD l))) = 0 := by unfold svF at *; rw [hm 4 (by omega)]; exact sv
    have ck2 : (kd M 2 (ew l) (hQ l.d8 (jD l)) 2).getD 0 0 = 0 := by rw [hm 2 (by omega)]; exact ck
    dsimp only
    rw [if_pos Xw]
    rw [ho] at dQ
    by_cases jx : (l.dH ++ [l.d8]).length = l.aj.length
    · rw [if_pos (show eM.done { l with fg := false, dH := l.dH ++ [l.d8] } = true from decide_eq_true jx)]
      rw [jx, List.take_length, ho] at hlk2
      refine .of rfl rfl ⟨qi, hoe, (hm 0 (by omega)).trans m0, ck2, ⟨hlk2.len, hlk2.fy⟩, _, rfl, fun _ => ⟨tk2, sv2⟩, fun e => by cases e⟩ ?_
      rw [hmu]
      unfold muA
      dsimp only
      rw [if_neg (by decide), if_pos PF]
      omega
    · rw [if_neg (show ¬ eM.done { l with fg := false, dH := l.dH ++ [l.d8] } = true from fun e => jx (of_decide_eq_true e))]
      refine .of rfl rfl ?_ ?_
      · dsimp only
        rw [hd]
        exact ⟨qi, cU, hoe, hnd, (hm 0 (by omega)).trans m0, ck2, tk2, sv2, _, rfl, hlk2, fun e => by cases e⟩
      · rw [hmu]
        unfold muA
        dsimp only
        rw [hd]
        dsimp only
        rw [if_neg (by decide), if_pos PF, List.length_append, List.length_singleton]
        omega
theorem turn_al (hM : oR c 2 k M) (fz : s.set = []) (t : fL) (hs : s.aE = some t) (h1 : t.done = false) (hd : s.aA = .dI) (h : AlD D0 O s M .dI) : AlG D0 O s (im s M t) := by
  obtain ⟨qi, hoe, m0, ck, PA, t', ht', g1, g2⟩ := h
  rw [hs] at ht'
  injection ht' with ht'
  subst ht'
  have hmu : muA s = (if t.pT = true then 5 else 6) + s.aj.length + s.aM.bl.length := by unfold muA; rw [hd]; dsimp only; rw [hs]
  unfold im gn
  rw [if_neg (by rw [h1]; decide)]
  split
  · rename_i zz
    obtain ⟨tk, sv⟩ := g1 zz
    have hm : ∀ kk, kk ≠ 3 → Tf M 4 0 1 kk = M kk := fun kk VU => opM_ne (by omega)
    have dg : dw M 4 0 = true := hasCell_of (by omega) (by omega) (by show (0 : Int) < ((M 3).length : Int); rw [hM.l3]; decide)
    have hgt : (N8 M 4 0 1).fI = 0 := (opAcc_has dg).1.trans tk
    have hset3 : Tf M 4 0 1 3 = (M 3).set 0 1 := by
      have : Tf M 4 0 1 3 = (M 3).set 0 (IntKind.u64.wrap (tkF M + 1)) := opM_set dg rfl
      rw [this, tk]; rfl
    dsimp only
    rw [if_neg (show ¬ t.done = true by rw [h1]; decide)]
    refine .of rfl rfl ?_ ?_
    · dsimp only
      rw [hd]
      refine ⟨qi, hoe, (hm 0 (by omega)).trans m0, by rw [hm 2 (by omega)]; exact ck, ?_, _, rfl, fun e => (by cases e), fun _ => ⟨hgt, ?_, ?_⟩⟩
      · unfold outA
        dsimp only
        rw [hm 1 (by omega)]; exact PA
      · unfold tkF
        rw [hset3, getD_set, if_pos ⟨rfl, by rw [hM.l3]; omega⟩]
      · unfold svF at *
        rw [hm 4 (by omega)]; exact sv
    · rw [hmu, if_neg (by rw [zz]; decide)]
      unfold muA
      dsimp only
      rw [hd]
      dsimp only
      rw [if_pos rfl]
      omega
  · rename_i zz
    have htk' : t.pT = true := by simpa using zz
    obtain ⟨a1, a2, a3⟩ := g2 htk'
    have dg : dw M 5 0 = true := hasCell_of (by omega) (by omega) (by show (0 : Int) < ((M 4).length : Int); rw [hM.l4]; decide)
    have hgt : (gX M 5 0).fI = t.gP := ((opAcc_has dg).1.trans a3).trans a1.symm
    dsimp only
    rw [if_pos (show decide ((gX M 5 0).fI = t.gP) = true from decide_eq_true hgt), if_pos (show s.set.length = 0 by rw [fz]; rfl)]
    refine .of rfl rfl ⟨qi, hoe, m0, ck, PA, ⟨_, rfl, htk', a1⟩, a2, a3⟩ ?_
    rw [hmu, if_pos htk']
    unfold muA
    dsimp only
    omega
theorem decide_al (hM : oR c 2 k M) (iz : s.cf.ao = 10) (hd : s.aA = .cN) (h : AlD D0 O s M .cN) : AlG D0 O s (fb s M) := by
  obtain ⟨qi, hoe, m0, ck, PA, htu⟩ := h
  have hmu : muA s = 4 + s.aj.length + s.aM.bl.length := by unfold muA; rw [hd]
  have dg : dw M 3 0 = true := hasCell_of (by omega) (by omega) (by show (0 : Int) < ((M 2).length : Int); rw [hM.l2]; decide)
  have hgt : (gX M 3 0).fI = 0 := (opAcc_has dg).1.trans ck
  unfold fb
  dsimp only
  rw [hgt, iz]
  rw [if_neg (by rintro ⟨_, e⟩; exact absurd e (by decide))]
  by_cases dn : s.iv = true
  · rw [if_pos dn]
    refine .of rfl rfl ⟨qi, rfl, rfl, hoe, by rw [m0]; rfl, ck, PA, htu⟩ ?_
    rw [hmu]
    unfold muA
    dsimp only
    omega
  · rw [if_neg dn]
    have hz : s.aM.bl = [] := by
      unfold aD.iv at dn
      rw [qi] at dn
      simp at dn
      exact dn
    have ho : s.aj = [] := by
      cases e : s.aj with
      | nil => rfl
      | cons x xs =>
        obtain ⟨a, ha, _⟩ := (hoe x).1 (by rw [e]; simp)
        rw [hz] at ha; simp at ha
    unfold fH
    rw [if_pos (by show s.aj.length = 0; rw [ho]; rfl)]
    refine .of rfl rfl ⟨qi, rfl, hoe, ⟨?_, PA, fun x hx => ?_⟩, ?_, htu⟩ ?_
    · show M 0 = wrF D0 s.aM.bl s.aM.df
      rw [hz, m0]; simp [wrF]
    · have hx : x ∈ s.aj := hx
      rw [ho] at hx; simp at hx
    · show (M 2).getD 0 0 = if 0 < s.aM.bl.length then 1 else 0
      rw [hz, ck]; rfl
    · rw [hmu]
      show 2 < _
      omega
theorem write_al (hM : oR c 2 k M) (hb : iW c k s) (w : gL) (q : Nat) (hq : q < s.aM.bl.length) (hw : w = ⟨s.aM.bl.drop q, s.aM.df.drop q⟩) (hd : s.aA = .et w) (h : AlD D0 O s M (.et w)) : AlG D0 O s (iZ s M w) := by
  obtain ⟨qi, RW, hclk, hoe, DF, ck, PA, htu⟩ := h
  have hmu : muA s = 3 + s.aj.length + w.os.length := by unfold muA; rw [hd]
  have hln := hb.aM.xt
  obtain ⟨x, xs, Nr⟩ : ∃ x xs, w.os = x :: xs := by
    cases e : w.os with
    | nil => rw [hw] at e; simp at e; omega
    | cons x xs => exact ⟨x, xs, rfl⟩
  obtain ⟨v, vs, hws⟩ : ∃ v vs, w.ws = v :: vs := by
    cases e : w.ws with
    | nil => rw [hw] at e; simp at e; omega
    | cons x xs => exact ⟨x, xs, rfl⟩
  have JI : x ∈ s.aM.bl := by
    have : x ∈ w.os := by rw [Nr]; simp
    rw [hw] at this
    exact List.mem_of_mem_drop this
  have har := hb.I6 _ JI
  have QD := hM.l0
  have dg : dw M 1 x = true := hasCell_of (by omega) har.1 (by show x < ((M 0).length : Int); omega)
  have est : lq w M = (de M 2 1 x (eD v), ⟨xs, vs⟩, kd M 1 x (eD v)) := by
    unfold lq
    rw [if_neg (by simp only [gL.done, decide_eq_true_eq, Nr]; simp), Nr, hws]
    rfl
  unfold iZ
  rw [est]
  dsimp only
  rw [Nr, hws] at DF
  have hm : ∀ kk, kk ≠ 0 → kd M 1 x (eD v) kk = M kk := fun kk VU => opM_ne (by omega)
  have e0 : kd M 1 x (eD v) 0 = (M 0).set x.toNat v := opM_set dg rfl
  have hwr2 : wrF (kd M 1 x (eD v) 0) xs vs = finD D0 s := by rw [e0]; exact DF
  have hout2 : outA O s (kd M 1 x (eD v)) := by unfold outA; rw [hm 1 (by omega)]; exact PA
  have htu2 : TuA s (kd M 1 x (eD v)) := ⟨htu.1, by unfold tkF; rw [hm 3 (by omega)]; exact htu.2.1, by unfold svF; rw [hm 4 (by omega)]; exact htu.2.2⟩
  have ck2 : (kd M 1 x (eD v) 2).getD 0 0 = 0 := by rw [hm 2 (by omega)]; exact ck
  rw [Nr] at hmu
  simp only [List.length_cons] at hmu
  split
  · rename_i jx
    have hxs : xs = [] := List.eq_nil_of_length_eq_zero (by simpa [gL.done] using jx)
    rw [hxs] at hwr2
    refine .of rfl rfl ⟨qi, RW, hclk, hoe, ?_, ck2, hout2, fun y hy hn => absurd hy hn, htu2⟩ ?_
    · have : wrF (kd M 1 x (eD v) 0) [] vs = kd M 1 x (eD v) 0 := by simp [wrF]
      rw [this] at hwr2; exact hwr2
    · rw [hmu]
      unfold muA
      dsimp only
      omega
  · refine .of rfl rfl ⟨qi, RW, hclk, hoe, hwr2, ck2, hout2, htu2⟩ ?_
    rw [hmu]
    unfold muA
    dsimp only
    omega
theorem rel_al (hM : oR c 2 k M) (hk : k < 2^40) (hb : iW c k s) (dn : s.iv = true) (w : gL) (q : Nat) (hq : q < s.aj.length) (hw : w = ⟨s.aj.drop q, (lB s).drop q⟩) (hd : s.aA = .cK w) (h : AlD D0 O s M (.cK w)) : AlG D0 O s (lC s M w) := by
  obtain ⟨qi, RW, hclk, hoe, m0, ck, PA, uZ, htu⟩ := h
  have hmu : muA s = 3 + w.os.length := by unfold muA; rw [hd]
  have JF : s.sy = 1 := by rw [xT hb hk ⟨RW, dn⟩, hclk]; rfl
  have mJ : 0 < s.aM.bl.length := by
    unfold aD.iv at dn
    simp only [Bool.and_eq_true, decide_eq_true_eq] at dn
    exact dn.2
  obtain ⟨x, xs, Nr⟩ : ∃ x xs, w.os = x :: xs := by
    cases e : w.os with
    | nil => rw [hw] at e; simp at e; omega
    | cons x xs => exact ⟨x, xs, rfl⟩
  have hv : w.ws.getD 0 0 = 64 := by
    have e5 : (lB s).drop q = List.replicate (s.aj.length - q) (gN s.sy) := by unfold lB; rw [if_pos RW, List.drop_replicate]
    rw [hw]
    show ((lB s).drop q).getD 0 0 = _
    rw [e5, List.getD_eq_getElem?_getD, List.getElem?_replicate_of_lt (by omega), JF]
    rfl
  have hxm : x ∈ s.aj := by
    have : x ∈ w.os := by rw [Nr]; simp
    rw [hw] at this
    exact List.mem_of_mem_drop this
  have hxr := hb.Q8 _ hxm
  have PF := hM.l1
  have dg : dw M 2 x = true := hasCell_of (by omega) hxr.1 (by show x < ((M 1).length : Int); omega)
  have est : j3 w M = (de M 2 2 x (eD 64), ⟨xs, w.ws.tail⟩, kd M 2 x (eD 64)) := by
    unfold j3
    rw [if_neg (by simp only [gL.done, decide_eq_true_eq, Nr]; simp), hv, Nr]
    rfl
  unfold lC
  rw [est]
  dsimp only
  rw [JF, if_pos (by omega : (0 : Int) ≤ 1)]
  have hm : ∀ kk, kk ≠ 1 → kd M 2 x (eD 64) kk = M kk := fun kk VU => opM_ne (by omega)
  have e1 : kd M 2 x (eD 64) 1 = (M 1).set x.toNat 64 := opM_set dg rfl
  have hout2 : outA O s (kd M 2 x (eD 64)) := by
    unfold outA
    rw [e1]
    refine ⟨by simp [PA.1], fun j hj => ?_⟩
    rw [getD_set, if_neg]
    · exact PA.2 j hj
    · rintro ⟨e, _⟩
      exact hj (by rw [show (j : Int) = x by omega]; exact hxm)
  have hal2 : ∀ y ∈ s.aj, y ∉ xs → (kd M 2 x (eD 64) 1).getD y.toNat 0 = 64 := by
    intro y hy hn
    rw [e1, getD_set]
    split
    · rfl
    · rename_i ke
      have hyr := hb.Q8 _ hy
      have : y ≠ x := fun e => ke ⟨by rw [e], by omega⟩
      exact uZ y hy (by rw [Nr]; simp [this, hn])
  have htu2 : TuA s (kd M 2 x (eD 64)) := ⟨htu.1, by unfold tkF; rw [hm 3 (by omega)]; exact htu.2.1, by unfold svF; rw [hm 4 (by omega)]; exact htu.2.2⟩
  have ck2 : (kd M 2 x (eD 64) 2).getD 0 0 = 0 := by rw [hm 2 (by omega)]; exact ck
  have m02 : kd M 2 x (eD 64) 0 = finD D0 s := (hm 0 (by omega)).trans m0
  rw [Nr] at hmu
  simp only [List.length_cons] at hmu
  by_cases jx : gL.done ⟨xs, w.ws.tail⟩ = true
  · have hxs : xs = [] := List.eq_nil_of_length_eq_zero (by simpa [gL.done] using jx)
    rw [if_pos jx]
    refine .of rfl rfl ⟨qi, RW, hclk, hoe, ⟨m02, hout2, fun y hy => hal2 y hy (by rw [hxs]; simp)⟩, mJ, htu2⟩ ?_
    rw [hmu]
    show 3 < _
    omega
  · rw [if_neg jx]
    refine .of rfl rfl ⟨qi, RW, hclk, hoe, m02, ck2, hout2, hal2, htu2⟩ ?_
    rw [hmu]
    unfold muA
    dsimp only
    omega
theorem stamp_al (hM : oR c 2 k M) (hd : s.aA = .ij) (h : AlD D0 O s M .ij) (a : bq) (ph : Int) : AlG D0 O s (a, ph, { s with aA := .fm }, ww M 3 0 (IntKind.u64.wrap (s.ao + 1))) := by
  obtain ⟨qi, RW, hclk, hoe, hfin, mJ, htu⟩ := h
  have hm : ∀ kk, kk ≠ 2 → ww M 3 0 (IntKind.u64.wrap (s.ao + 1)) kk = M kk := fun kk VU => opM_ne (by omega)
  have dg : dw M 3 0 = true := hasCell_of (by omega) (by omega) (by show (0 : Int) < ((M 2).length : Int); rw [hM.l2]; decide)
  have e1 : ww M 3 0 (IntKind.u64.wrap (s.ao + 1)) 2 = (M 2).set 0 (IntKind.u64.wrap (s.ao + 1)) := opM_set dg rfl
  refine .of rfl rfl ⟨qi, RW, hoe, ⟨(hm 0 (by omega)).trans hfin.1, by unfold outA; rw [hm 1 (by omega)]; exact hfin.2.1, by rw [hm 1 (by omega)]; exact hfin.2.2⟩, ?_, htu.1, by unfold tkF; rw [hm 3 (by omega)]; exact htu.2.1, by unfold svF; rw [hm 4 (by omega)]; exact htu.2.2⟩ ?_
  · rw [e1, getD_set, if_pos ⟨rfl, by rw [hM.l2]; omega⟩, hclk]
    show IntKind.u64.wrap (0 + 1) = if 0 < s.aM.bl.length then 1 else 0
    rw [if_pos mJ]
    rfl
  · have hmu : muA s = 3 := by unfold muA; rw [hd]
    rw [hmu]
    show 2 < 3
    omega
theorem pass_al (hM : oR c 2 k M) (hd : s.aA = .fm) (h : AlD D0 O s M .fm) (a : bq) (ph : Int) : AlG D0 O s (a, ph, gg s, ww M 5 0 (pg s.eo)) := by
  obtain ⟨qi, RW, hoe, hfin, zJ, ⟨t, ht, ht1, Zi⟩, tk, sv⟩ := h
  have hv : pg s.eo = 1 := by
    unfold pg aD.eo
    rw [ht]
    show IntKind.u64.wrap (IntKind.u64.wrap t.eo + 1) = 1
    unfold fL.eo
    rw [if_pos ht1, Zi]
    rfl
  have hm : ∀ kk, kk ≠ 4 → ww M 5 0 (pg s.eo) kk = M kk := fun kk VU => opM_ne (by omega)
  have dg : dw M 5 0 = true := hasCell_of (by omega) (by omega) (by show (0 : Int) < ((M 4).length : Int); rw [hM.l4]; decide)
  have e1 : ww M 5 0 (pg s.eo) 4 = (M 4).set 0 (pg s.eo) := opM_set dg rfl
  have ef : gg s = { s with aA := .fW } := by unfold gg; rw [if_pos (.inl qi)]
  rw [ef]
  refine .of rfl rfl ⟨qi, RW, hoe, ⟨(hm 0 (by omega)).trans hfin.1, by unfold outA; rw [hm 1 (by omega)]; exact hfin.2.1, by rw [hm 1 (by omega)]; exact hfin.2.2⟩, by rw [hm 2 (by omega)]; exact zJ, by unfold tkF; rw [hm 3 (by omega)]; exact tk, ?_⟩ ?_
  · unfold svF
    rw [e1, getD_set, if_pos ⟨rfl, by rw [hM.l4]; omega⟩, hv]
  · have hmu : muA s = 2 := by unfold muA; rw [hd]
    rw [hmu]
    show 1 < 2
    omega
theorem leave_al (hM : oR c 2 k M) (hth : s.ag = 1) (hd : s.aA = .fW) (h : AlD D0 O s M .fW) (a : bq) (ph : Int) : AlG D0 O s (a, ph, { s with aA := .bm, av := 2 }, ww M 6 s.ag 0) := by
  obtain ⟨qi, RW, hoe, hfin, zJ, tk, sv⟩ := h
  have hm : ∀ kk, kk ≠ 5 → ww M 6 s.ag 0 kk = M kk := fun kk VU => opM_ne (by omega)
  have dg : dw M 6 s.ag = true := hasCell_of (by omega) (by omega) (by show s.ag < ((M 5).length : Int); rw [hth, hM.l5]; decide)
  have e1 : ww M 6 s.ag 0 5 = (M 5).set s.ag.toNat 0 := opM_set dg rfl
  refine .of rfl rfl (.inr ⟨rfl, qi, RW, hoe, ⟨(hm 0 (by omega)).trans hfin.1, by unfold outA; rw [hm 1 (by omega)]; exact hfin.2.1, by rw [hm 1 (by omega)]; exact hfin.2.2⟩, by rw [hm 2 (by omega)]; exact zJ, by unfold tkF; rw [hm 3 (by omega)]; exact tk, by unfold svF; rw [hm 4 (by omega)]; exact sv, ?_⟩) ?_
  · rw [e1, hth, getD_set, if_pos ⟨rfl, by rw [hM.l5]; decide⟩]
  · have hmu : muA s = 1 := by unfold muA; rw [hd]
    rw [hmu]
    show 0 < 1
    omega

/-- Every step of what is busy keeps it, and brings the end nearer. -/
theorem AlI.step (hc : dt c) (hk : k < 2^40) (hO : ∀ j : Nat, O.getD j 0 = 0) (hA : oW c k s) (hM : oR c 2 k M) (h : AlI D0 O s M) (hbz : s.Gu = true) : AlI D0 O (cD s M).2.2.1 (cD s M).2.2.2 ∧ muA (cD s M).2.2.1 < muA s := by
  have kL := (BY hc hk hA hM).1
  have hb := hA.b
  have hD := hA.d
  have hg : AlG D0 O s (cD s M) := by
    have hd := h.d
    unfold cD
    cases e : s.aA with
    | bm =>
      unfold aD.Gu at hbz
      rw [e] at hbz
      exact absurd hbz (by decide)
    | jV l =>
      rw [e] at hd
      cases l with
      | fu a v => exact locw_al hb e hd _ _
      | cC ax => exact fin_al hb e hd _ _
      | _ => exact hd.elim
    | ej =>
      rw [e] at hd hD
      obtain ⟨_, en, g1, _, g3, _⟩ := hD
      dsimp only
      rw [g1]
      exact enter_al en g1 g3 e hd
    | fF =>
      rw [e] at hd hD
      obtain ⟨_, _, l, g1, g2, g3, g4, _⟩ := hD
      dsimp only
      rw [g1]
      exact lock_al hM hk hb hO l g1 g2 g4 e hd
    | dI =>
      rw [e] at hd hD
      obtain ⟨_, _, t, g1, g2, _⟩ := hD
      dsimp only
      rw [g1]
      exact turn_al hM h.set t g1 g2 e hd
    | cN => rw [e] at hd; exact decide_al hM h.H2 e hd
    | et w =>
      rw [e] at hd hD
      obtain ⟨_, _, _, _, q, g1, g2⟩ := hD
      exact write_al hM hb w q g1 g2 e hd
    | cK w =>
      rw [e] at hd hD
      obtain ⟨_, g0, _, _, q, g1, g2⟩ := hD
      exact rel_al hM hk hb (g0 hd.2.1) w q g1 g2 e hd
    | ij => rw [e] at hd; exact stamp_al hM e hd _ _
    | fm => rw [e] at hd; exact pass_al hM e hd _ _
    | fW => rw [e] at hd; exact leave_al hM h.G2 e hd _ _
    | _ => rw [e] at hd; exact hd.elim
  refine ⟨⟨hg.1.trans h.set, hg.2.1.trans h.alc, (attStep_thread s M).trans h.G2, ?_, hg.2.2.1⟩, hg.2.2.2⟩
  rw [kL.b.cf, ← hb.cf]
  exact h.H2
end


/-! ### What is written -/

section
variable {D0 O : List Int} {c : bG} {k : Nat} {s : aD} {M : Mm}
/-- What the words are to be, what has been named, and how much, when the write under way is done. -/
def wantD (D0 : List Int) (s : aD) : List Int := match s.aA with
  | .jV (.fu a v) => (finD D0 s).set a.toNat v
  | _ => finD D0 s
def named (s : aD) (x : Int) : Prop := (∃ a ∈ s.aM.bl, fJ s.cf a = x) ∨ (∃ a v, s.aA = .jV (.fu a v) ∧ fJ s.cf a = x)
structure WrI (D0 O : List Int) (W : List Int) (S : Int → Prop) (n : Nat) (s : aD) (M : Mm) : Prop where
  al : AlI D0 O s M
  ph : s.av = 1
  no : ∀ ax, s.aA ≠ .jV (.cC ax)
  wd : wantD D0 s = W
  nm : ∀ x, named s x ↔ S x
  ln : s.aM.bl.length ≤ n ∧ (0 < n → 0 < s.aM.bl.length ∨ ∃ a v, s.aA = .jV (.fu a v))
  lw : (∃ a v, s.aA = .jV (.fu a v)) → s.aM.bl.length < n
/-- The phases of writing. -/
theorem WrI.step (hc : dt c) (hk : k < 2^40) (hO : ∀ j : Nat, O.getD j 0 = 0) (hA : oW c k s) (hM : oR c 2 k M) {W : List Int} {S : Int → Prop} {n : Nat} (h : WrI D0 O W S n s M) (he : (∃ a v, s.aA = .jV (.fu a v)) ∨ s.aA = .ej) (hbz : s.Gu = true) :
    WrI D0 O W S n (cD s M).2.2.1 (cD s M).2.2.2 ∧ muA (cD s M).2.2.1 < muA s ∧ ((∃ a v, (cD s M).2.2.1.aA = .jV (.fu a v)) ∨ (cD s M).2.2.1.aA = .ej ∨ (cD s M).2.2.1.aA = .bm) := by
  obtain ⟨h1, h2⟩ := h.al.step hc hk hO hA hM hbz
  have hb := hA.b
  rcases he with ⟨a, v, hd⟩ | hd
  · have MB := h.al.d
    rw [hd] at MB
    obtain ⟨g1, g2, g3, g4, g5, g6⟩ := MB
    have hp := put_wr hb.aM g4 v g6 D0
    have e : cD s M = (bq.zero, 0, { s with aA := .bm, aM := (di s.aM a v).2 }, M) := by
      unfold cD
      rw [hd]
      dsimp only
      have : nK { s with aA := .bm } (.fu a v) = { s with aA := .bm, aM := (di s.aM a v).2 } := by
        show (if s.cf.aF ≤ a then _ else (iI { s with aA := .bm } a v).2) = _
        rw [if_neg (by omega)]
        unfold iI
        rw [if_pos hp.1]
      rw [this]
    have hw := h.wd
    have hn := h.nm
    have hl := h.ln
    have hlw := h.lw ⟨a, v, hd⟩
    rw [e] at h1 h2 ⊢
    refine ⟨⟨h1, h.ph, fun ax e => (by cases e), ?_, fun x => ?_, ⟨?_, fun _ => .inl hp.2.2.2.1⟩, fun ⟨a', v', e⟩ => (by cases e)⟩, h2, .inr (.inr rfl)⟩
    · rw [← hw]
      unfold wantD
      dsimp only
      rw [hd]
      exact hp.2.1
    · rw [← hn x]
      unfold named
      dsimp only
      constructor
      · rintro (⟨b, NJ, xz⟩ | ⟨_, _, e, _⟩)
        · rcases (hp.2.2.2.2 b).1 NJ with NJ | NJ
          · exact .inl ⟨b, NJ, xz⟩
          · exact .inr ⟨a, v, hd, by rw [← NJ]; exact xz⟩
        · cases e
      · rintro (⟨b, NJ, xz⟩ | ⟨a', v', e, xz⟩)
        · exact .inl ⟨b, (hp.2.2.2.2 b).2 (.inl NJ), xz⟩
        · rw [hd] at e
          injection e with e
          injection e with e1 e2
          subst e1
          exact .inl ⟨a, (hp.2.2.2.2 a).2 (.inr rfl), xz⟩
    · have := hp.2.2.1
      dsimp only
      omega
  · have hD := hA.d
    rw [hd] at hD
    obtain ⟨_, e, g1, _, g3, _⟩ := hD
    have mJ : (cD s M).2.2.1.aM = s.aM ∧ (cD s M).2.2.1.cf = s.cf ∧ ((cD s M).2.2.1.aA = .ej ∨ (cD s M).2.2.1.aA = .bm) := by
      have : cD s M = gD s M e := by unfold cD; rw [hd]; dsimp only; rw [g1]
      rw [this]
      unfold gD
      dsimp only
      split
      · exact ⟨rfl, rfl, .inr rfl⟩
      · exact ⟨rfl, rfl, .inl hd⟩
    obtain ⟨k1, k2, k3⟩ := mJ
    have dn : (cD s M).2.2.1.av = 1 := by rw [BL, hd]; exact h.ph
    have OD : ∀ a v, (cD s M).2.2.1.aA ≠ .jV (.fu a v) := fun a v e => by rcases k3 with k3 | k3 <;> rw [k3] at e <;> cases e
    have hnw0 : ∀ a v, s.aA ≠ .jV (.fu a v) := fun a v e => by rw [hd] at e; cases e
    refine ⟨⟨h1, dn, fun ax e => (by rcases k3 with k3 | k3 <;> rw [k3] at e <;> cases e), ?_, fun x => ?_, ⟨by rw [k1]; exact h.ln.1, fun hn => ?_⟩, fun ⟨a, v, e⟩ => absurd e (OD a v)⟩, h2, .inr k3⟩
    · rw [← h.wd]
      unfold wantD finD
      rw [k1]
      rcases k3 with k3 | k3 <;> rw [k3, hd]
    · rw [← h.nm x]
      unfold named
      rw [k1, k2]
      constructor
      · rintro (h4 | ⟨a, v, e, _⟩)
        · exact .inl h4
        · exact absurd e (OD a v)
      · rintro (h4 | ⟨a, v, e, _⟩)
        · exact .inl h4
        · exact absurd e (hnw0 a v)
    · rw [k1]
      rcases h.ln.2 hn with h4 | ⟨a, v, e⟩
      · exact .inl h4
      · exact absurd e (hnw0 a v)
/-- A request to write. -/
theorem WrI.fu {W : List Int} {S : Int → Prop} {n : Nat} (h : WrI D0 O W S n s M) (hd : s.aA = .bm) (hE : fe s) {a : Int} (ha : 0 ≤ a ∧ a < s.cf.aF) (hn : n < s.aM.dA) (v : Int) :
    (CF s a v).1 = 0 ∧ WrI D0 O (W.set a.toNat v) (fun x => S x ∨ fJ s.cf a = x) (n + 1) (CF s a v).2 M ∧ (CF s a v).2.aA = .jV (.fu a v) := by
  have hf : s.jY 1 = true := by unfold aD.jY; rw [hd, h.ph]; rfl
  have e : CF s a v = (0, { s with aA := .jV (.fu a v) }) := by unfold CF; rw [if_pos hf]
  rw [e]
  have MB := h.al.d
  rw [hd] at MB
  have hz : ZA D0 O M := by
    rcases MB with ⟨_, _, z⟩ | ⟨e2, _⟩
    · exact z
    · rw [h.ph] at e2; cases e2
  refine ⟨rfl, ⟨⟨h.al.set, h.al.alc, h.al.G2, h.al.H2, h.ph, hE.to rfl rfl rfl rfl rfl, hz, ha.1, ha.2, by have := h.ln.1; dsimp only; omega⟩, h.ph, fun ax e => (by cases e), ?_, fun x => ?_, ⟨by have := h.ln.1; dsimp only; omega, fun _ => .inr ⟨a, v, rfl⟩⟩, fun _ => by have := h.ln.1; dsimp only; omega⟩, rfl⟩
  · have := h.wd
    unfold wantD at this
    rw [hd] at this
    show (finD D0 s).set a.toNat v = _
    rw [← this]
  · rw [← h.nm x]
    unfold named
    dsimp only
    constructor
    · rintro (h4 | ⟨a', v', e, h4⟩)
      · exact .inl (.inl h4)
      · injection e with e
        injection e with e1 e2
        subst e1
        exact .inr h4
    · rintro ((h4 | ⟨a', v', e, _⟩) | h4)
      · exact .inl h4
      · rw [hd] at e; cases e
      · exact .inr ⟨a, v, rfl, h4⟩
end


/-! ### The end -/

def lateD : ba → Prop
  | .bm | .ej | .bz _ _ | .eE _ => False
  | .jV (.cC _) => True
  | .jV _ => False
  | _ => True
theorem num_idle {s : aD} (h : s.Gu = false) : s.aA = .bm := by
  unfold aD.Gu at h
  revert h
  cases s.aA <;> intro h <;> first
    | rfl
    | (simp [ba.eo] at h)
section
variable {D0 O : List Int} {c : bG} {k : Nat} {s : aD} {M : Mm}
theorem late_step (fz : s.set = []) (qi : s.aA = .fm → s.ax = 1) (hl : lateD s.aA) : (lateD (cD s M).2.2.1.aA ∨ ((cD s M).2.2.1.aA = .bm ∧ (cD s M).2.2.1.av = 2)) ∧ (cD s M).2.2.1.aM = s.aM := by
  have xy : ∀ (s : aD) (ax : Int), lateD (nN s ax).aA ∧ (nN s ax).aM = s.aM := fun s ax => by unfold nN; split <;> exact ⟨trivial, rfl⟩
  have hres : ∀ s : aD, lateD (fH s).aA ∧ (fH s).aM = s.aM := fun s => by unfold fH; split <;> exact ⟨trivial, rfl⟩
  have hfin : ∀ s : aD, lateD (gg s).aA ∧ (gg s).aM = s.aM := fun s => by unfold gg; split <;> exact ⟨trivial, rfl⟩
  have QD := hl
  unfold cD
  cases hd : s.aA with
  | bm => rw [hd] at hl; exact hl.elim
  | ej => rw [hd] at hl; exact hl.elim
  | bz r u => rw [hd] at hl; exact hl.elim
  | eE p => rw [hd] at hl; exact hl.elim
  | jV l =>
    rw [hd] at hl
    cases l with
    | cC ax => exact ⟨.inl (xy _ ax).1, (xy _ ax).2⟩
    | _ => exact hl.elim
  | fF =>
    dsimp only
    cases s.aG with
    | none => exact ⟨.inl QD, rfl⟩
    | some l =>
      dsimp only [jk]
      split
      · exact ⟨.inl trivial, rfl⟩
      · exact ⟨.inl QD, rfl⟩
  | dI =>
    dsimp only
    cases s.aE with
    | none => exact ⟨.inl QD, rfl⟩
    | some t =>
      dsimp only [im]
      split
      · refine ⟨.inl ?_, rfl⟩
        dsimp only
        split <;> trivial
      · exact ⟨.inl QD, rfl⟩
  | dG ck =>
    show (lateD (hU s M ck).2.2.1.aA ∨ _) ∧ (hU s M ck).2.2.1.aM = s.aM
    unfold hU
    dsimp only
    split
    · exact ⟨.inl (hres _).1, (hres _).2⟩
    · split <;> exact ⟨.inl trivial, rfl⟩
  | cN =>
    show (lateD (fb s M).2.2.1.aA ∨ _) ∧ (fb s M).2.2.1.aM = s.aM
    unfold fb
    dsimp only
    split
    · exact ⟨.inl (hres _).1, (hres _).2⟩
    · split
      · exact ⟨.inl trivial, rfl⟩
      · exact ⟨.inl (hres _).1, (hres _).2⟩
  | et w =>
    show (lateD (iZ s M w).2.2.1.aA ∨ _) ∧ (iZ s M w).2.2.1.aM = s.aM
    unfold iZ
    dsimp only
    split <;> exact ⟨.inl trivial, rfl⟩
  | cK w =>
    refine ⟨.inl ?_, rfl⟩
    show lateD (if (j3 w M).2.1.done = true then (if 0 ≤ s.sy then ba.ij else .fm) else .cK (j3 w M).2.1)
    split
    · split <;> trivial
    · trivial
  | ij => exact ⟨.inl trivial, rfl⟩
  | fm => exact ⟨.inl (hfin s).1, (hfin s).2⟩
  | eZ p =>
    show (lateD (kv s M p).2.2.1.aA ∨ _) ∧ (kv s M p).2.2.1.aM = s.aM
    unfold kv
    dsimp only
    split
    · exact ⟨.inl (hfin _).1, (hfin _).2⟩
    · exact ⟨.inl trivial, rfl⟩
  | fW => exact ⟨.inr ⟨rfl, rfl⟩, rfl⟩

/-- The end has been asked for. -/
structure CmI (D0 O : List Int) (W : List Int) (S : Int → Prop) (n : Nat) (s : aD) (M : Mm) : Prop where
  al : AlI D0 O s M
  lt : lateD s.aA ∨ (s.aA = .bm ∧ s.av = 2)
  wd : finD D0 s = W
  nm : ∀ x, (∃ a ∈ s.aM.bl, fJ s.cf a = x) ↔ S x
  ln : 0 < s.aM.bl.length ↔ 0 < n
theorem WrI.cC {W : List Int} {S : Int → Prop} {n : Nat} (h : WrI D0 O W S n s M) (hd : s.aA = .bm) (hE : fe s) : (xN s 1).1 = 0 ∧ CmI D0 O W S n (xN s 1).2 M ∧ muA (xN s 1).2 ≤ 8 + 4 * n := by
  have hf : s.jY 1 = true := by unfold aD.jY; rw [hd, h.ph]; rfl
  have e : xN s 1 = (0, { s with aA := .jV (.cC 1) }) := by unfold xN; rw [if_pos hf, if_neg (by decide)]
  rw [e]
  have MB := h.al.d
  rw [hd] at MB
  have hz : ZA D0 O M := by
    rcases MB with ⟨_, _, z⟩ | ⟨e2, _⟩
    · exact z
    · rw [h.ph] at e2; cases e2
  have OD : ∀ a v, s.aA ≠ .jV (.fu a v) := fun a v e => by rw [hd] at e; cases e
  refine ⟨rfl, ⟨⟨h.al.set, h.al.alc, h.al.G2, h.al.H2, h.ph, hE.to rfl rfl rfl rfl rfl, hz, rfl⟩, .inl trivial, ?_, fun x => ?_, ?_⟩, ?_⟩
  · have := h.wd
    unfold wantD at this
    rw [hd] at this
    exact this
  · rw [← h.nm x]
    unfold named
    dsimp only
    constructor
    · exact .inl
    · rintro (h4 | ⟨a, v, e, _⟩)
      · exact h4
      · exact absurd e (OD a v)
  · dsimp only
    constructor
    · intro h4; have := h.ln.1; omega
    · intro h4
      rcases h.ln.2 h4 with h5 | ⟨a, v, e⟩
      · exact h5
      · exact absurd e (OD a v)
  · show 8 + 4 * s.aM.bl.length ≤ _
    have := h.ln.1
    omega
theorem CmI.step (hc : dt c) (hk : k < 2^40) (hO : ∀ j : Nat, O.getD j 0 = 0) (hA : oW c k s) (hM : oR c 2 k M) {W : List Int} {S : Int → Prop} {n : Nat} (h : CmI D0 O W S n s M) (hbz : s.Gu = true) :
    CmI D0 O W S n (cD s M).2.2.1 (cD s M).2.2.2 ∧ muA (cD s M).2.2.1 < muA s := by
  obtain ⟨h1, h2⟩ := h.al.step hc hk hO hA hM hbz
  have hlate : lateD s.aA := by
    rcases h.lt with h3 | ⟨h3, _⟩
    · exact h3
    · unfold aD.Gu at hbz; rw [h3] at hbz; exact absurd hbz (by decide)
  obtain ⟨h3, h4⟩ := late_step (M := M) h.al.set (fun e => by have := h.al.d; rw [e] at this; exact this.1) hlate
  have gt : (cD s M).2.2.1.cf = s.cf := by rw [(BY hc hk hA hM).1.b.cf, hA.b.cf]
  refine ⟨⟨h1, h3, ?_, fun x => ?_, by rw [h4]; exact h.ln⟩, h2⟩
  · unfold finD; rw [h4]; exact h.wd
  · rw [h4, gt]; exact h.nm x
theorem CmI.done (hA : oW c k s) (hM : oR c 2 k M) {W : List Int} {S : Int → Prop} {n : Nat} (h : CmI D0 O W S n s M) (hbz : s.Gu = false) :
    s.ax = 1 ∧ s.ai = true ∧ M 0 = W ∧ (M 1).length = O.length ∧ (∀ j : Nat, S j → (M 1).getD j 0 = 64) ∧ (∀ j : Nat, ¬ S j → (M 1).getD j 0 = O.getD j 0) ∧ (M 2).getD 0 0 = (if 0 < n then 1 else 0) ∧ (M 3).getD 0 0 = 1 ∧ (M 4).getD 0 0 = 1 ∧ (M 5).getD 1 0 = 0 := by
  have hd := num_idle hbz
  have dn : s.av = 2 := by
    rcases h.lt with h3 | ⟨_, h3⟩
    · rw [hd] at h3; exact h3.elim
    · exact h3
  have MB := h.al.d
  rw [hd] at MB
  rcases MB with ⟨e, _⟩ | ⟨_, g1, g2, g3, g4, g5, g6, g7, g8⟩
  · omega
  refine ⟨g1, g2, g4.1.trans h.wd, g4.2.1.1, fun j hj => ?_, fun j hj => ?_, ?_, g6, g7, g8⟩
  · have h1 := (h.nm j).2 hj
    have h2 := (g3 j).2 h1
    have := g4.2.2 _ h2
    exact this
  · refine g4.2.1.2 j fun hm => hj ?_
    exact (h.nm j).1 ((g3 j).1 hm)
  · rw [g5]
    by_cases hn : 0 < n
    · rw [if_pos (h.ln.2 hn), if_pos hn]
    · rw [if_neg (fun e => hn (h.ln.1 e)), if_neg hn]
theorem WrI.start {c : bG} (hF : rj c) (iz : c.ao = 10) : WrI (km c 2 (hZ c) 0) (km c 2 (hZ c) 1) (km c 2 (hZ c) 0) (fun _ => False) 0 (jG (iD c 1)).2 (km c 2 (hZ c)) := by
  refine ⟨⟨rfl, rfl, rfl, iz, rfl, ⟨rfl, rfl, rfl, rfl, rfl⟩, ⟨rfl, rfl, rfl, rfl, rfl⟩⟩, rfl, fun ax e => (by cases e), ?_, fun x => ⟨?_, fun e => e.elim⟩, ⟨Nat.le_refl 0, fun e => by omega⟩, fun ⟨a, v, e⟩ => (by cases e)⟩
  · show wrF (km c 2 (hZ c) 0) [] [] = _
    simp [wrF]
  · rintro (⟨a, ha, _⟩ | ⟨a, v, e, _⟩)
    · exact absurd ha (by show ¬ a ∈ []; simp)
    · cases e
end

end Go.Stx
