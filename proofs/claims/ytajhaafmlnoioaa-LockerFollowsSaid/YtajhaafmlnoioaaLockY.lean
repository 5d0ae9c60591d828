/-
  Three threads' locks in memory.
-/
import Derived.Test.YtajhaafmlnoioaaLockW
import Derived.Test.YtajhaafmlnoioaaLockX
import Derived.Test.YtajhaafmlnoioaaLockP
import Derived.Test.YtajhaafmlnoioaaLockE
import Derived.Test.YtajhaafmlnoioaaRelA
namespace Go.Stx
open Go Go.Proofs
attribute [local irreducible] AWP LWalk ACall ARounds lops nops
set_option linter.unusedVariables false
set_option linter.unusedSimpArgs false

theorem awp_join {P : Program} {n : Nat} {Q : Exit → Fr → AW → Prop} {a : Fr} {A : AW} {x : Code} {K : Fr → AW → Prop} (J : Fr → AW → Prop) (h1 : AWP P n x (AThen J Q) a A) (h2 : ∀ a A, J a A → K a A) : AWP P n x (AThen K Q) a A :=
  awp_mono h1 fun e a A h => by cases e <;> first | exact h2 a A h | exact h

def updN (bn : Nat → Nat) (t b : Nat) : Nat → Nat := fun u => if u = t then b else bn u
def slotV (th : Ths) (bn : Nat → Nat) (t : Nat) : Value := match th t with
  | none => .pointer none
  | some _ => .pointer (some ⟨bn t, 0, none⟩)
def thH (th : Ths) (bn : Nat → Nat) (t : Nat) : HP := match th t with
  | none => hemp
  | some s => LockH (bn t) s
def slots (th : Ths) (bn : Nat → Nat) : List Value := [slotV th bn 0, slotV th bn 1, slotV th bn 2]

theorem slots_len (th : Ths) (bn : Nat → Nat) : (slots th bn).length = 3 := rfl
theorem slots_get (th : Ths) (bn : Nat → Nat) {t : Nat} (ht : t < 3) : (slots th bn)[t]? = some (slotV th bn t) := by
  have : t = 0 ∨ t = 1 ∨ t = 2 := by omega
  rcases this with rfl | rfl | rfl <;> rfl
theorem slots_upd (th : Ths) (bn : Nat → Nat) {t : Nat} (ht : t < 3) (so : Option LockS) (b : Nat) : (slots th bn).set t (slotV (updT th t so) (updN bn t b) t) = slots (updT th t so) (updN bn t b) := by
  have : t = 0 ∨ t = 1 ∨ t = 2 := by omega
  rcases this with rfl | rfl | rfl <;> rfl
theorem slots_same (th : Ths) (bn : Nat → Nat) {t : Nat} (ht : t < 3) {s : LockS} (hs : th t = some s) (s' : LockS) : slots (updT th t (some s')) bn = slots th bn := by
  have : t = 0 ∨ t = 1 ∨ t = 2 := by omega
  rcases this with rfl | rfl | rfl <;> simp [slots, slotV, updT, hs]
theorem thH_pick (th : Ths) (bn : Nat → Nat) {t : Nat} (ht : t < 3) : bstar (thH th bn) 3 = thH th bn t * bstar (updH (thH th bn) t hemp) 3 := bstar_pick _ ht
theorem thH_rest (th : Ths) (bn : Nat → Nat) (t : Nat) (so : Option LockS) (b : Nat) : updH (thH (updT th t so) (updN bn t b)) t hemp = updH (thH th bn) t hemp := by
  funext u
  simp only [updH]
  split
  · rfl
  · rename_i e; simp [thH, updT, updN, e]
theorem thH_rest2 (th : Ths) (bn : Nat → Nat) (t : Nat) (so : Option LockS) : updH (thH (updT th t so) bn) t hemp = updH (thH th bn) t hemp := by
  funext u
  simp only [updH]
  split
  · rfl
  · rename_i e; simp [thH, updT, e]
theorem thH_some {th : Ths} {bn : Nat → Nat} {t : Nat} {s : LockS} (h : th t = some s) : thH th bn t = LockH (bn t) s := by simp [thH, h]
theorem thH_none {th : Ths} {bn : Nat → Nat} {t : Nat} (h : th t = none) : thH th bn t = hemp := by simp [thH, h]
/-- One thread's lock, and how to put it back. -/
theorem thH_out {th : Ths} {bn : Nat → Nat} {t : Nat} (ht : t < 3) {s : LockS} (h : th t = some s) : bstar (thH th bn) 3 = LockH (bn t) s * bstar (updH (thH th bn) t hemp) 3 := by rw [thH_pick th bn ht, thH_some h]
theorem thH_in (th : Ths) (bn : Nat → Nat) {t : Nat} (ht : t < 3) (s' : LockS) : LockH (bn t) s' * bstar (updH (thH th bn) t hemp) 3 = bstar (thH (updT th t (some s')) bn) 3 := by
  rw [thH_pick (updT th t (some s')) bn ht, thH_rest2, thH_some (s := s') (by simp [updT])]
theorem thH_in2 (th : Ths) (bn : Nat → Nat) {t : Nat} (ht : t < 3) (s' : LockS) (b : Nat) : LockH b s' * bstar (updH (thH th bn) t hemp) 3 = bstar (thH (updT th t (some s')) (updN bn t b)) 3 := by
  rw [thH_pick (updT th t (some s')) (updN bn t b) ht, thH_rest, thH_some (s := s') (by simp [updT])]
  simp [updN]
theorem thH_off (th : Ths) (bn : Nat → Nat) {t : Nat} (ht : t < 3) : bstar (updH (thH th bn) t hemp) 3 = bstar (thH (updT th t none) bn) 3 := by
  rw [thH_pick (updT th t none) bn ht, thH_rest2, thH_none (by simp [updT]), hemp_mul]
theorem thH_absent {th : Ths} (bn : Nat → Nat) {t : Nat} (ht : t < 3) (h : th t = none) : bstar (thH th bn) 3 = bstar (updH (thH th bn) t hemp) 3 := by
  rw [thH_pick th bn ht, thH_none h, hemp_mul]

def lockL (ls : List (List Int)) (t : Nat) : List Int := sortedF (wantsF ls t)

theorem wantsF_rng (ls : List (List Int)) (t : Nat) (ht : t < 3) : ∀ x ∈ wantsF ls t, 0 ≤ x ∧ x < 6 := by
  intro x hx
  unfold wantsF at hx
  split at hx
  · rw [List.mem_map] at hx
    obtain ⟨a, _, rfl⟩ := hx
    exact placeF_range a 6 (by omega)
  · simp at hx; omega
theorem wantsF_len (ls : List (List Int)) (t : Nat) : (wantsF ls t).length ≤ 8 := by
  unfold wantsF
  split
  · simp; omega
  · simp
theorem lockL_ok (ls : List (List Int)) (t : Nat) (ht : t < 3) : OrecsOk (lockL ls t) := by
  unfold lockL
  rw [sortedF_eq]
  obtain ⟨h1, h2⟩ := refSortedF_spec (wantsF ls t)
  exact ⟨h1, fun x hx => wantsF_rng ls t ht x ((h2 x).1 hx)⟩

/-- The cells, the slots and the locks. -/
def ExH (pb pq mb ab : Nat) (M : Nat → List Int) (th : Ths) (bn : Nat → Nat) : HP :=
  pt pq (.cells [.pointer (some ⟨pb, 0, none⟩), .pointer (some ⟨mb, 0, none⟩)] true 1) * (pt ab (.cells (slots th bn) true 1) * (bstar (thH th bn) 3 * MemH pb M))

theorem M0_w6 : W6 (M0 3) := ⟨rfl, rfl, rfl, rfl, rfl, rfl, rfl, rfl⟩
theorem M0_linv (L : Nat → List Int) : LInv L (M0 3) (fun _ => none) := by
  refine ⟨M0_w6, fun t s h => (by cases h), fun t s k h => (by cases h), fun o ho => Or.inl ?_⟩
  have : o = 0 ∨ o = 1 ∨ o = 2 ∨ o = 3 ∨ o = 4 ∨ o = 5 := by omega
  rcases this with rfl | rfl | rfl | rfl | rfl | rfl <;> rfl

theorem relStep_run {L old : List Int} {M : Nat → List Int} (hM : W6 M) (hL : OrecsOk L) (ho : ∀ w ∈ old, w = 0) (hlen : L.length = old.length) {i : Nat} (hi : i < L.length) :
    (relStep ⟨L.drop i, old.drop i⟩ (relM L M i)).2 = (⟨L.drop (i + 1), old.drop (i + 1)⟩, relM L M (i + 1)) := by
  have h1 : (L.drop i).getD 0 0 = orec L i := by unfold orec; simp [List.getD_eq_getElem?_getD, List.getElem?_drop]
  have h2 : (old.drop i).getD 0 0 = 0 := by
    rw [List.getD_eq_getElem?_getD, List.getElem?_drop, Nat.add_zero, List.getElem?_eq_getElem (by omega)]
    exact ho _ (List.getElem_mem _)
  unfold relStep
  rw [if_neg (by simp [RelS.done]; omega)]
  simp only [h1, h2, List.tail_drop]
  rw [opM_store (relM_w6 hM i) (hL.at hi)]
  rfl

/-- What the statement's own table of holders holds when it has come to place k of thread u. -/
structure HJ (L : Nat → List Int) (th : Ths) (u k : Nat) (h : List Int) : Prop where
  len : h.length = 6
  some' : ∀ o, o < 6 → h.getD o 0 = -1 ∨ ∃ u' s' k', th u' = some s' ∧ (u' < u ∨ (u' = u ∧ k' < k)) ∧ k' < s'.old.length ∧ orec (L u') k' = o ∧ h.getD o 0 = u'
  all : ∀ u' s' k', th u' = some s' → (u' < u ∨ (u' = u ∧ k' < k)) → k' < s'.old.length → h.getD (orec (L u') k').toNat 0 = u'

theorem HJ.init (L : Nat → List Int) (th : Ths) : HJ L th 0 0 [-1, -1, -1, -1, -1, -1] := by
  refine ⟨rfl, fun o ho => Or.inl ?_, fun u' s' k' _ h _ => by omega⟩
  have : o = 0 ∨ o = 1 ∨ o = 2 ∨ o = 3 ∨ o = 4 ∨ o = 5 := by omega
  rcases this with rfl | rfl | rfl | rfl | rfl | rfl <;> rfl
theorem HJ.next {L : Nat → List Int} {th : Ths} {u k : Nat} {h : List Int} (H : HJ L th u k h) (hk : ∀ s, th u = some s → s.old.length ≤ k) : HJ L th (u + 1) 0 h := by
  refine ⟨H.len, fun o ho => ?_, fun u' s' k' h1 h2 h3 => ?_⟩
  · rcases H.some' o ho with g | ⟨u', s', k', g1, g2, g3⟩
    · exact .inl g
    · exact .inr ⟨u', s', k', g1, by omega, g3⟩
  · refine H.all u' s' k' h1 ?_ h3
    by_cases e : u' = u
    · subst e
      have := hk s' h1
      omega
    · omega
theorem HJ.fresh {L M th u k h} (H : HJ L th u k h) (hL : ∀ t, t < 3 → OrecsOk (L t)) (hI : LInv L M th) {s : LockS} (hs : th u = some s) (hk : k < s.old.length) : h.getD (orec (L u) k).toNat 0 = -1 := by
  obtain ⟨k1, k2, k3, k4, k5, k6⟩ := hI.ok u s hs
  have hr := (hL u k1).at (k := k) (by omega)
  rcases H.some' (orec (L u) k).toNat (by omega) with g | ⟨u', s', k', g1, g2, g3, g4, g5⟩
  · exact g
  · exfalso
    have h1 := hI.held u s k hs hk
    have h2 := hI.held u' s' k' g1 g3
    have e : orec (L u') k' = orec (L u) k := by omega
    rw [e, h1] at h2
    have : u' = u := by omega
    subst this
    rw [hs] at g1; injection g1 with g1; subst g1
    have := (hL u' k1).inj (by omega) (by omega) e
    omega
theorem HJ.put {L M th u k h} (H : HJ L th u k h) (hL : ∀ t, t < 3 → OrecsOk (L t)) (hI : LInv L M th) {s : LockS} (hs : th u = some s) (hk : k < s.old.length) : HJ L th u (k + 1) (h.set (orec (L u) k).toNat u) := by
  obtain ⟨k1, k2, k3, k4, k5, k6⟩ := hI.ok u s hs
  have hr := (hL u k1).at (k := k) (by omega)
  have hget : ∀ o, (h.set (orec (L u) k).toNat (u : Int)).getD o 0 = if o = (orec (L u) k).toNat then (u : Int) else h.getD o 0 := fun o => by
    by_cases e : o = (orec (L u) k).toNat
    · rw [if_pos e, e, List.getD_eq_getElem?_getD, List.getElem?_set_self (by rw [H.len]; omega)]; rfl
    · rw [if_neg e, List.getD_eq_getElem?_getD, List.getElem?_set_ne (Ne.symm e), ← List.getD_eq_getElem?_getD]
  refine ⟨by simpa using H.len, fun o ho => ?_, fun u' s' k' h1 h2 h3 => ?_⟩
  · rw [hget]
    by_cases e : o = (orec (L u) k).toNat
    · rw [if_pos e]
      exact .inr ⟨u, s, k, hs, by omega, hk, by omega, rfl⟩
    · rw [if_neg e]
      rcases H.some' o ho with g | ⟨u', s', k', g1, g2, g3⟩
      · exact .inl g
      · exact .inr ⟨u', s', k', g1, by omega, g3⟩
  · rw [hget]
    by_cases e : (orec (L u') k').toNat = (orec (L u) k).toNat
    · rw [if_pos e]
      have e1 := hI.held u s k hs hk
      have e2 := hI.held u' s' k' h1 h3
      rw [e, e1] at e2
      exact_mod_cast (by omega : (u : Int) = u')
    · rw [if_neg e]
      refine H.all u' s' k' h1 ?_ h3
      rcases h2 with h2 | ⟨h2, h4⟩
      · exact .inl h2
      · subst h2
        refine .inr ⟨rfl, ?_⟩
        by_cases e2 : k' = k
        · subst e2; exact absurd rfl e
        · omega
theorem HJ.free {L M th h} (H : HJ L th 3 0 h) (hI : LInv L M th) {o : Nat} (ho : o < 6) (hn : h.getD o 0 < 0) : ow M o = 0 := by
  rcases hI.free o ho with g | ⟨t, s, k, g1, g2, g3, g4⟩
  · exact g
  · have := H.all t s k g1 (.inl (hI.ok t s g1).1) g2
    rw [g3] at this
    simp only [Int.toNat_natCast] at this
    omega
theorem versionF_word {x : Int} (t : Nat) (ht : t < 3) (h : x = t + 1) : versionF x = 0 := by
  have : t = 0 ∨ t = 1 ∨ t = 2 := by omega
  subst h
  rcases this with rfl | rfl | rfl <;> decide
theorem versionF_zero : versionF 0 = 0 := by decide

theorem AW.Wf.ne_new {A : AW} (hw : A.Wf) {i : Nat} {o : AObj} (hg : A.get i = some o) : (A.next = i) = False := eq_false fun e => by have := hw.lt hg; omega

end Go.Stx
