/-
  The statement on locks that follow the document.
-/
import Derived.Test.YtajhaafmlnoioaaLockF
import Derived.Test.YtajhaafmlnoioaaAwake15
import Derived.Test.YtajhaafmlnoioaaRelF
namespace Go.Stx
open Go Go.Proofs
attribute [local irreducible] AWP LWalk ACall ARounds lops nops
set_option linter.unusedVariables false
set_option linter.unusedSimpArgs false

/-- One thread: its lock, and how far it has released. -/
abbrev FTs := Nat → Option (LockS × Option Nat)
def updF (th : FTs) (t : Nat) (s : Option (LockS × Option Nat)) : FTs := fun u => if u = t then s else th u
structure Nm where
  a : Nat → Nat
  b : Nat → Nat
  c : Nat → Nat
  d : Nat → Nat

def ptrV (b : Nat) : Value := .pointer (some ⟨b, 0, none⟩)
def aV (th : FTs) (nm : Nm) (t : Nat) : Value := if (th t).isSome then ptrV (nm.a t) else .pointer none
def bV (th : FTs) (nm : Nm) (t : Nat) : Value := if (th t).isSome then ptrV (nm.b t) else .pointer none
def isRel (x : Option (LockS × Option Nat)) : Bool := match x with
  | some (_, some _) => true
  | _ => false
def cV (th : FTs) (nm : Nm) (t : Nat) : Value := if isRel (th t) then ptrV (nm.c t) else .pointer none
def dV (th : FTs) (nm : Nm) (t : Nat) : Value := if isRel (th t) then ptrV (nm.d t) else .pointer none
def three (f : Nat → Value) : List Value := [f 0, f 1, f 2]
theorem three_get (f : Nat → Value) {t : Nat} (ht : t < 3) : (three f)[t]? = some (f t) := by
  have : t = 0 ∨ t = 1 ∨ t = 2 := by omega
  rcases this with rfl | rfl | rfl <;> rfl
theorem three_len (f : Nat → Value) : (three f).length = 3 := rfl
theorem three_set (f g : Nat → Value) {t : Nat} (ht : t < 3) (h : ∀ u, u ≠ t → g u = f u) : (three f).set t (g t) = three g := by
  have : t = 0 ∨ t = 1 ∨ t = 2 := by omega
  rcases this with rfl | rfl | rfl
  · simp [three, h 1 (by omega), h 2 (by omega)]
  · simp [three, h 0 (by omega), h 2 (by omega)]
  · simp [three, h 0 (by omega), h 1 (by omega)]
theorem three_eq (f g : Nat → Value) (h : ∀ u, g u = f u) : three f = three g := by simp [three, h]

def relR (c d : Nat) (vo vw : Value) (s : LockS) : Option Nat → HP
  | none => hemp
  | some k => pt d (storesO 2 vo vw k) * RelH c ⟨s.orecs.drop k, s.old.drop k⟩
/-- The reference's lock in the open. -/
def bO (s : LockS) (vo vw : Value) : AObj := .cells [.int .i64 s.thread, vo, vw, .bool s.loaded, .int .u64 s.seen] true 1
def thrH (a b c d : Nat) (x : LockS × Option Nat) : HP := LockH a x.1 * hex fun vo : Value => hex fun vw : Value => pt b (bO x.1 vo vw) * (IntsH .i64 vo x.1.orecs * (IntsH .u64 vw x.1.old * relR c d vo vw x.1 x.2))
def fH (th : FTs) (nm : Nm) (t : Nat) : HP := match th t with
  | none => hemp
  | some x => thrH (nm.a t) (nm.b t) (nm.c t) (nm.d t) x

theorem fH_pick (th : FTs) (nm : Nm) {t : Nat} (ht : t < 3) : bstar (fH th nm) 3 = fH th nm t * bstar (updH (fH th nm) t hemp) 3 := bstar_pick _ ht
theorem fH_rest (th : FTs) (nm nm' : Nm) (t : Nat) (so : Option (LockS × Option Nat)) (h : ∀ u, u ≠ t → nm'.a u = nm.a u ∧ nm'.b u = nm.b u ∧ nm'.c u = nm.c u ∧ nm'.d u = nm.d u) : updH (fH (updF th t so) nm') t hemp = updH (fH th nm) t hemp := by
  funext u
  simp only [updH]
  split
  · rfl
  · rename_i e
    obtain ⟨h1, h2, h3, h4⟩ := h u e
    simp [fH, updF, e, h1, h2, h3, h4]
theorem fH_in (th : FTs) (nm nm' : Nm) {t : Nat} (ht : t < 3) (x : LockS × Option Nat) (h : ∀ u, u ≠ t → nm'.a u = nm.a u ∧ nm'.b u = nm.b u ∧ nm'.c u = nm.c u ∧ nm'.d u = nm.d u) :
    thrH (nm'.a t) (nm'.b t) (nm'.c t) (nm'.d t) x * bstar (updH (fH th nm) t hemp) 3 = bstar (fH (updF th t (some x)) nm') 3 := by
  rw [fH_pick (updF th t (some x)) nm' ht, fH_rest th nm nm' t _ h]
  simp [fH, updF]
theorem fH_off (th : FTs) (nm : Nm) {t : Nat} (ht : t < 3) : bstar (updH (fH th nm) t hemp) 3 = bstar (fH (updF th t none) nm) 3 := by
  rw [fH_pick (updF th t none) nm ht, fH_rest th nm nm t _ (fun u _ => ⟨rfl, rfl, rfl, rfl⟩)]
  simp [fH, updF, hemp_mul]
theorem fH_out {th : FTs} {nm : Nm} {t : Nat} (ht : t < 3) {x : LockS × Option Nat} (h : th t = some x) : bstar (fH th nm) 3 = thrH (nm.a t) (nm.b t) (nm.c t) (nm.d t) x * bstar (updH (fH th nm) t hemp) 3 := by
  rw [fH_pick th nm ht]; simp [fH, h]
theorem fH_absent {th : FTs} (nm : Nm) {t : Nat} (ht : t < 3) (h : th t = none) : bstar (fH th nm) 3 = bstar (updH (fH th nm) t hemp) 3 := by
  rw [fH_pick th nm ht]; simp [fH, h, hemp_mul]

theorem thrH.open {A : AW} {a b c d : Nat} {x : LockS × Option Nat} {F : HP} (h : Sat A (thrH a b c d x * F)) :
    ∃ vo vw, Sat A (LockH a x.1 * (pt b (bO x.1 vo vw) * (IntsH .i64 vo x.1.orecs * (IntsH .u64 vw x.1.old * (relR c d vo vw x.1 x.2 * F))))) := by
  unfold thrH at h
  have h' := h.cast (by ac_rfl : _ = (hex fun vo : Value => hex fun vw : Value => pt b (bO x.1 vo vw) * (IntsH .i64 vo x.1.orecs * (IntsH .u64 vw x.1.old * relR c d vo vw x.1 x.2))) * (LockH a x.1 * F))
  rw [Sat.ex] at h'
  obtain ⟨vo, h'⟩ := h'
  rw [Sat.ex] at h'
  obtain ⟨vw, h'⟩ := h'
  exact ⟨vo, vw, h'.cast (by ac_rfl)⟩
theorem thrH.close {A : AW} {a b c d : Nat} {x : LockS × Option Nat} {F : HP} {vo vw : Value} (h : Sat A (LockH a x.1 * (pt b (bO x.1 vo vw) * (IntsH .i64 vo x.1.orecs * (IntsH .u64 vw x.1.old * (relR c d vo vw x.1 x.2 * F)))))) :
    Sat A (thrH a b c d x * F) := by
  unfold thrH
  have h' : Sat A ((hex fun vo : Value => hex fun vw : Value => pt b (bO x.1 vo vw) * (IntsH .i64 vo x.1.orecs * (IntsH .u64 vw x.1.old * relR c d vo vw x.1 x.2))) * (LockH a x.1 * F)) := by
    rw [Sat.ex]
    refine ⟨vo, ?_⟩
    rw [Sat.ex]
    exact ⟨vw, h.cast (by ac_rfl)⟩
  exact h'.cast (by ac_rfl)

/-- What every step keeps. -/
structure FInv (L : Nat → List Int) (M : Nat → List Int) (th : FTs) : Prop where
  w6 : W6 M
  wd : MWd M
  ok : ∀ t s r, th t = some (s, r) → FOk t (L t) s ∧ (∀ k, r = some k → s.done = true ∧ k ≤ (L t).length)
theorem FInv.ref {L M th} (h : FInv L M th) : RefOk M := ⟨h.w6.l2, h.w6.l3, h.w6.l4⟩
theorem FInv.put {L : Nat → List Int} {M M' : Nat → List Int} {th : FTs} (h : FInv L M th) {t : Nat} {s : LockS} {r : Option Nat} (h1 : W6 M') (h2 : MWd M') (h3 : FOk t (L t) s) (h4 : ∀ k, r = some k → s.done = true ∧ k ≤ (L t).length) : FInv L M' (updF th t (some (s, r))) := by
  refine ⟨h1, h2, fun u s' r' hu => ?_⟩
  unfold updF at hu
  split at hu
  · rename_i e; subst e; injection hu with hu; injection hu with e1 e2; subst e1; subst e2; exact ⟨h3, h4⟩
  · exact h.ok u s' r' hu
theorem FInv.del {L : Nat → List Int} {M M' : Nat → List Int} {th : FTs} (h : FInv L M th) {t : Nat} (h1 : W6 M') (h2 : MWd M') : FInv L M' (updF th t none) := by
  refine ⟨h1, h2, fun u s' r' hu => ?_⟩
  unfold updF at hu
  split at hu
  · cases hu
  · exact h.ok u s' r' hu

/-- The cells, the four rows of slots, the threads. -/
def FoH (pb pq mb ab : Nat) (M : Nat → List Int) (th : FTs) (nm : Nm) : HP :=
  pt pq (.cells [.pointer (some ⟨pb, 0, none⟩), .pointer (some ⟨mb, 0, none⟩)] true 1) * (pt ab (.cells (three (aV th nm)) true 1) * (pt (ab + 1) (.cells (three (bV th nm)) true 1) * (pt (ab + 2) (.cells (three (cV th nm)) true 1) * (pt (ab + 3) (.cells (three (dV th nm)) true 1) * (bstar (fH th nm) 3 * (MemH pb M * RefH mb M))))))

def FoJ (pb pq mb ab : Nat) (A : AW) (ls : List (List Int)) (ol op : Option Addr) (nl cl np cp : Nat) (th : FTs) (fr : Fr) (A' : AW) : Prop :=
  ∃ M nm, fr 0 = .slice ol nl cl ∧ fr 1 = .slice op np cp ∧ fr 7 = .pointer (some ⟨pq, 0, none⟩) ∧ fr 12 = .pointer (some ⟨ab, 0, none⟩) ∧ fr 13 = .pointer (some ⟨ab + 1, 0, none⟩) ∧ fr 14 = .pointer (some ⟨ab + 2, 0, none⟩) ∧ fr 15 = .pointer (some ⟨ab + 3, 0, none⟩) ∧
    A'.Wf ∧ FInv (lockL ls) M th ∧ Sat A' (FoH pb pq mb ab M th nm * hfix A.get)

theorem hasCell2 {M : Nat → List Int} (h : W6 M) {o : Nat} (ho : o < 6) : hasCell M 2 (o : Int) = true := has2 h (by omega)

set_option maxRecDepth 100000 in
set_option maxHeartbeats 4000000 in
theorem lockerFollows_call (vl vp vv : Value) (ls : List (List Int)) (picks vers : List Int) (A : AW) (hl : IsRows A vl ls) (hp : IsInts A .i64 vp picks) (hv : IsInts A .i64 vv vers) :
    ACall Try.prog 4 [vl, vp, vv] A (fun v A' => v = .bool true) := by
  refine acall_intro Try.func4 rfl (by kernel_rfl) fun hw => ?_
  obtain ⟨ol, cl, rfl, _⟩ := hl.form
  obtain ⟨op, cp, rfl, _⟩ := hp.form
  obtain ⟨ov, cv, rfl, _⟩ := hv.form
  by_cases h80 : 80 < picks.length
  · have h80i : (80 : Int) < picks.length := by omega
    repeat' (first
    | (refine lwc fun R hR => ?_; simp [wrap_i64, wrap_u64, h80, h80i]; try simp (disch := omega) only [if_pos, if_neg, wrap_i64, wrap_u64])
    | (refine hR _ _ ?_; clear hR R) | (refine hK _ _ ?_; clear hK K) | refine lwn ?_ | refine lr ?_ | refine la ?_
    | refine wn fun K hK => ?_
    | simp only [nops, nop, lops, lop, slimG, List.map_cons, List.map_nil, List.filterMap_cons, List.filterMap_nil, Option.map_none, Option.map_some, List.getElem?_toArray, List.getElem?_cons_zero, List.getElem?_cons_succ, Option.bind_some]
    | (refine wl Try.mx [(0,0),(1,0),(2,0),(3,0),(4,0),(7,0),(8,0),(9,0),(5,3),(6,3),(12,0),(10,3),(11,3),(13,3),(14,0),(15,3)] (by decide +kernel) fun K hK => ?_)
    | (refine wl Try.mx [(0,0),(1,0),(2,0),(4,0),(5,0),(6,0),(3,2),(7,2),(8,0),(9,0),(10,0),(11,0),(12,0),(14,0),(15,0),(16,0),(17,0),(18,0),(19,0),(13,2),(20,2),(21,0),(22,0)] (by decide +kernel) fun K hK => ?_)
    | (refine wl Try.mx [(0,0),(1,0),(2,0),(3,0),(4,0),(6,0),(7,0),(8,0),(9,0),(10,0),(5,2),(11,2),(12,0),(13,0),(14,0),(15,2),(16,0),(17,0)] (by decide +kernel) fun K hK => ?_)
    | (refine wl Try.mx [(0,0),(1,0),(2,0),(3,0),(4,0),(5,0),(6,0),(7,0),(8,0),(9,0),(10,0),(11,0),(12,0),(13,0),(15,0),(16,0),(17,0),(18,0),(19,0),(20,0),(21,0),(22,0),(23,0),(24,0),(25,0),(26,0),(14,2),(28,0),(27,2),(29,3),(30,0),(31,3)] (by decide +kernel) fun K hK => ?_)
    | (refine wl Try.mx [(0,0),(1,0),(2,0),(3,0),(4,0),(6,0),(7,0),(8,0),(9,0),(10,0),(5,2),(11,2),(12,0),(13,0),(14,0),(15,0),(16,0),(18,0),(19,0),(20,0),(17,2),(21,2),(22,0),(23,0),(24,0),(25,0),(26,2),(27,0),(28,0)] (by decide +kernel) fun K hK => ?_)
    | refine wb ?_ | refine wr ?_ | refine wk ?_ | refine we ?_ | refine ws ?_ | refine wq ?_
    | ((refine wc rfl (fun hc => ?_) (fun hc => ?_)) <;> (try simp at hc) <;> (try omega))
    | ((refine ib (fun hc => ?_) (fun hc => ?_)) <;> (try omega) <;> (try simp (disch := omega) only [if_pos, if_neg])))
    refine callK (awake_call A hemp (Sat.emp A)) ?_
    rintro _ A1 ⟨rfl, _⟩ w1 _
    repeat' (first
    | (refine lwc fun R hR => ?_; simp [wrap_i64, wrap_u64, h80]; try simp (disch := omega) only [if_pos, if_neg, wrap_i64, wrap_u64])
    | (refine hR _ _ ?_; clear hR R) | (refine hK _ _ ?_; clear hK K) | refine lwn ?_ | refine lr ?_ | refine la ?_
    | refine wn fun K hK => ?_
    | simp only [nops, nop, lops, lop, slimG, List.map_cons, List.map_nil, List.filterMap_cons, List.filterMap_nil, Option.map_none, Option.map_some, List.getElem?_toArray, List.getElem?_cons_zero, List.getElem?_cons_succ, Option.bind_some]
    | (refine wl Try.mx [(0,0),(1,0),(2,0),(3,0),(4,0),(7,0),(8,0),(9,0),(5,3),(6,3),(12,0),(10,3),(11,3),(13,3),(14,0),(15,3)] (by decide +kernel) fun K hK => ?_)
    | (refine wl Try.mx [(0,0),(1,0),(2,0),(4,0),(5,0),(6,0),(3,2),(7,2),(8,0),(9,0),(10,0),(11,0),(12,0),(14,0),(15,0),(16,0),(17,0),(18,0),(19,0),(13,2),(20,2),(21,0),(22,0)] (by decide +kernel) fun K hK => ?_)
    | (refine wl Try.mx [(0,0),(1,0),(2,0),(3,0),(4,0),(6,0),(7,0),(8,0),(9,0),(10,0),(5,2),(11,2),(12,0),(13,0),(14,0),(15,2),(16,0),(17,0)] (by decide +kernel) fun K hK => ?_)
    | (refine wl Try.mx [(0,0),(1,0),(2,0),(3,0),(4,0),(5,0),(6,0),(7,0),(8,0),(9,0),(10,0),(11,0),(12,0),(13,0),(15,0),(16,0),(17,0),(18,0),(19,0),(20,0),(21,0),(22,0),(23,0),(24,0),(25,0),(26,0),(14,2),(28,0),(27,2),(29,3),(30,0),(31,3)] (by decide +kernel) fun K hK => ?_)
    | (refine wl Try.mx [(0,0),(1,0),(2,0),(3,0),(4,0),(6,0),(7,0),(8,0),(9,0),(10,0),(5,2),(11,2),(12,0),(13,0),(14,0),(15,0),(16,0),(18,0),(19,0),(20,0),(17,2),(21,2),(22,0),(23,0),(24,0),(25,0),(26,2),(27,0),(28,0)] (by decide +kernel) fun K hK => ?_)
    | refine wb ?_ | refine wr ?_ | refine wk ?_ | refine we ?_ | refine ws ?_ | refine wq ?_
    | ((refine wc rfl (fun hc => ?_) (fun hc => ?_)) <;> (try simp at hc) <;> (try omega))
    | ((refine ib (fun hc => ?_) (fun hc => ?_)) <;> (try omega) <;> (try simp (disch := omega) only [if_pos, if_neg])))
    simp
  have h80i : ¬ (80 : Int) < picks.length := by omega
  repeat' (first
  | (refine lwc fun R hR => ?_; simp [wrap_i64, wrap_u64, h80, h80i]; try simp (disch := omega) only [if_pos, if_neg, wrap_i64, wrap_u64])
  | (refine hR _ _ ?_; clear hR R) | (refine hK _ _ ?_; clear hK K) | refine lwn ?_ | refine lr ?_ | refine la ?_
  | refine wn fun K hK => ?_
  | simp only [nops, nop, lops, lop, slimG, List.map_cons, List.map_nil, List.filterMap_cons, List.filterMap_nil, Option.map_none, Option.map_some, List.getElem?_toArray, List.getElem?_cons_zero, List.getElem?_cons_succ, Option.bind_some]
  | (refine wl Try.mx [(0,0),(1,0),(2,0),(3,0),(4,0),(7,0),(8,0),(9,0),(5,3),(6,3),(12,0),(10,3),(11,3),(13,3),(14,0),(15,3)] (by decide +kernel) fun K hK => ?_)
  | (refine wl Try.mx [(0,0),(1,0),(2,0),(4,0),(5,0),(6,0),(3,2),(7,2),(8,0),(9,0),(10,0),(11,0),(12,0),(14,0),(15,0),(16,0),(17,0),(18,0),(19,0),(13,2),(20,2),(21,0),(22,0)] (by decide +kernel) fun K hK => ?_)
  | (refine wl Try.mx [(0,0),(1,0),(2,0),(3,0),(4,0),(6,0),(7,0),(8,0),(9,0),(10,0),(5,2),(11,2),(12,0),(13,0),(14,0),(15,2),(16,0),(17,0)] (by decide +kernel) fun K hK => ?_)
  | (refine wl Try.mx [(0,0),(1,0),(2,0),(3,0),(4,0),(5,0),(6,0),(7,0),(8,0),(9,0),(10,0),(11,0),(12,0),(13,0),(15,0),(16,0),(17,0),(18,0),(19,0),(20,0),(21,0),(22,0),(23,0),(24,0),(25,0),(26,0),(14,2),(28,0),(27,2),(29,3),(30,0),(31,3)] (by decide +kernel) fun K hK => ?_)
  | (refine wl Try.mx [(0,0),(1,0),(2,0),(3,0),(4,0),(6,0),(7,0),(8,0),(9,0),(10,0),(5,2),(11,2),(12,0),(13,0),(14,0),(15,0),(16,0),(18,0),(19,0),(20,0),(17,2),(21,2),(22,0),(23,0),(24,0),(25,0),(26,2),(27,0),(28,0)] (by decide +kernel) fun K hK => ?_)
  | (refine callK (config_call _) ?_; rintro _ _ ⟨rfl, rfl⟩ _ _)
  | refine wb ?_ | refine wr ?_ | refine wk ?_ | refine we ?_ | refine ws ?_ | refine wq ?_
  | ((refine wc rfl (fun hc => ?_) (fun hc => ?_)) <;> (try simp at hc) <;> (try omega))
  | ((refine ib (fun hc => ?_) (fun hc => ?_)) <;> (try omega) <;> (try simp (disch := omega) only [if_pos, if_neg])))
  have hS0 : Sat A (hfix A.get) := ⟨A.get, rfl, fun i o h => h⟩
  refine callK (start_cfg 3 A (hfix A.get) hw hS0 (by omega) (by omega)) ?_
  rintro v A1 ⟨pb, mb, rfl, hS1⟩ hw1 _
  repeat' (first
  | (refine lwc fun R hR => ?_; simp [wrap_i64, wrap_u64, AW.row_get, astore]; try simp (disch := omega) only [if_pos, if_neg, wrap_i64, wrap_u64])
  | (refine hR _ _ ?_; clear hR R) | (refine hK _ _ ?_; clear hK K) | refine lwn ?_ | refine lr ?_ | refine la ?_
  | refine wn fun K hK => ?_
  | simp only [nops, nop, lops, lop, slimG, List.map_cons, List.map_nil, List.filterMap_cons, List.filterMap_nil, Option.map_none, Option.map_some, List.getElem?_toArray, List.getElem?_cons_zero, List.getElem?_cons_succ, Option.bind_some]
  | (refine wl Try.mx [(0,0),(1,0),(2,0),(3,0),(4,0),(7,0),(8,0),(9,0),(5,3),(6,3),(12,0),(10,3),(11,3),(13,3),(14,0),(15,3)] (by decide +kernel) fun K hK => ?_)
  | (refine wl Try.mx [(0,0),(1,0),(2,0),(4,0),(5,0),(6,0),(3,2),(7,2),(8,0),(9,0),(10,0),(11,0),(12,0),(14,0),(15,0),(16,0),(17,0),(18,0),(19,0),(13,2),(20,2),(21,0),(22,0)] (by decide +kernel) fun K hK => ?_)
  | (refine wl Try.mx [(0,0),(1,0),(2,0),(3,0),(4,0),(6,0),(7,0),(8,0),(9,0),(10,0),(5,2),(11,2),(12,0),(13,0),(14,0),(15,2),(16,0),(17,0)] (by decide +kernel) fun K hK => ?_)
  | (refine wl Try.mx [(0,0),(1,0),(2,0),(3,0),(4,0),(5,0),(6,0),(7,0),(8,0),(9,0),(10,0),(11,0),(12,0),(13,0),(15,0),(16,0),(17,0),(18,0),(19,0),(20,0),(21,0),(22,0),(23,0),(24,0),(25,0),(26,0),(14,2),(28,0),(27,2),(29,3),(30,0),(31,3)] (by decide +kernel) fun K hK => ?_)
  | (refine wl Try.mx [(0,0),(1,0),(2,0),(3,0),(4,0),(6,0),(7,0),(8,0),(9,0),(10,0),(5,2),(11,2),(12,0),(13,0),(14,0),(15,0),(16,0),(18,0),(19,0),(20,0),(17,2),(21,2),(22,0),(23,0),(24,0),(25,0),(26,2),(27,0),(28,0)] (by decide +kernel) fun K hK => ?_)
  | refine wb ?_ | refine wr ?_ | refine wk ?_ | refine we ?_ | refine ws ?_ | refine wq ?_
  | ((refine wc rfl (fun hc => ?_) (fun hc => ?_)) <;> (try simp at hc) <;> (try omega))
  | ((refine ib (fun hc => ?_) (fun hc => ?_)) <;> (try omega) <;> (try simp (disch := omega) only [if_pos, if_neg])))
  obtain ⟨pq, hpq⟩ : ∃ pq, pq = A1.next := ⟨_, rfl⟩
  refine awp_loop (fun k fr A' => ∃ (o : Nat) (M : Nat → List Int), k = 6 - o ∧ o ≤ 6 ∧ fr 9 = .int .i64 o ∧ fr 0 = .slice ol ls.length cl ∧ fr 1 = .slice op picks.length cp ∧ fr 2 = .slice ov vers.length cv ∧ fr 7 = .pointer (some ⟨pq, 0, none⟩) ∧ A'.Wf ∧ W6 M ∧ MWd M ∧
    Sat A' (pt pq (.cells [.pointer (some ⟨pb, 0, none⟩), .pointer (some ⟨mb, 0, none⟩)] true 1) * (MemH pb M * (RefH mb M * hfix A.get)))) 6 ?_ ?_
  · refine ⟨0, M0 3, by simp, by simp, by simp, by simp, by simp, by simp, by simp [hpq], (hw1.alloc _).set _ (by simp), M0_w6, ?_, ?_⟩
    · intro o ho
      have : ow (M0 3) o = 0 := by
        have : o = 0 ∨ o = 1 ∨ o = 2 ∨ o = 3 ∨ o = 4 ∨ o = 5 := by omega
        rcases this with rfl | rfl | rfl | rfl | rfl | rfl <;> rfl
      rw [this]
      exact ⟨by omega, by omega, by omega⟩
    · subst hpq
      exact (hS1.alloc hw1 (.cells [.pointer none, .pointer none] true 1)).set (.cells [.pointer (some ⟨pb, 0, none⟩), .pointer (some ⟨mb, 0, none⟩)] true 1)
  · rintro k fr A2 ⟨o, M, rfl, ho, g9, g0, g1, g2, g7, hw2, hW, hMw, hS⟩
    have hk2 : Keeps A A2 := Keeps.of_fix (F := pt pq (.cells [.pointer (some ⟨pb, 0, none⟩), .pointer (some ⟨mb, 0, none⟩)] true 1) * (MemH pb M * RefH mb M)) (hS.cast (by ac_rfl))
    by_cases ho6 : o < 6
    · have hoi : (o : Int) < 6 := by omega
      have ho1 : IntKind.i64.wrap ((o : Int) + 1) = ((o + 1 : Nat) : Int) := wrap_i64 (by omega) (by omega)
      have hgq := hS.get
      have hpl := placeF_range (atF vers o) 1000 (by omega)
      have hfree : freeF (placeF (atF vers o) 1000) = placeF (atF vers o) 1000 * 64 := if_pos (by omega)
      repeat' (first
      | (refine lwc fun R hR => ?_; simp [wrap_i64, wrap_u64, g9, g0, g1, g2, g7, hoi, AW.row_get]; try simp (disch := omega) only [if_pos, if_neg, wrap_i64, wrap_u64])
      | (refine hR _ _ ?_; clear hR R) | (refine hK _ _ ?_; clear hK K) | refine lwn ?_ | refine lr ?_ | refine la ?_
      | refine wn fun K hK => ?_
      | simp only [nops, nop, lops, lop, slimG, List.map_cons, List.map_nil, List.filterMap_cons, List.filterMap_nil, Option.map_none, Option.map_some, List.getElem?_toArray, List.getElem?_cons_zero, List.getElem?_cons_succ, Option.bind_some]
      | (refine wl Try.mx [(0,0),(1,0),(2,0),(3,0),(4,0),(7,0),(8,0),(9,0),(5,3),(6,3),(12,0),(10,3),(11,3),(13,3),(14,0),(15,3)] (by decide +kernel) fun K hK => ?_)
      | (refine wl Try.mx [(0,0),(1,0),(2,0),(4,0),(5,0),(6,0),(3,2),(7,2),(8,0),(9,0),(10,0),(11,0),(12,0),(14,0),(15,0),(16,0),(17,0),(18,0),(19,0),(13,2),(20,2),(21,0),(22,0)] (by decide +kernel) fun K hK => ?_)
      | (refine wl Try.mx [(0,0),(1,0),(2,0),(3,0),(4,0),(6,0),(7,0),(8,0),(9,0),(10,0),(5,2),(11,2),(12,0),(13,0),(14,0),(15,2),(16,0),(17,0)] (by decide +kernel) fun K hK => ?_)
      | (refine wl Try.mx [(0,0),(1,0),(2,0),(3,0),(4,0),(5,0),(6,0),(7,0),(8,0),(9,0),(10,0),(11,0),(12,0),(13,0),(15,0),(16,0),(17,0),(18,0),(19,0),(20,0),(21,0),(22,0),(23,0),(24,0),(25,0),(26,0),(14,2),(28,0),(27,2),(29,3),(30,0),(31,3)] (by decide +kernel) fun K hK => ?_)
      | (refine wl Try.mx [(0,0),(1,0),(2,0),(3,0),(4,0),(6,0),(7,0),(8,0),(9,0),(10,0),(5,2),(11,2),(12,0),(13,0),(14,0),(15,0),(16,0),(18,0),(19,0),(20,0),(17,2),(21,2),(22,0),(23,0),(24,0),(25,0),(26,2),(27,0),(28,0)] (by decide +kernel) fun K hK => ?_)
      | (refine callK (at_call _ vers _ _ (hv.keeps hk2)) ?_; rintro _ _ ⟨rfl, rfl⟩ _ _)
      | (refine callK (place_call _ 1000 _ (by omega) (by omega)) ?_; rintro _ _ ⟨rfl, rfl⟩ _ _)
      | refine wb ?_ | refine wr ?_ | refine wk ?_ | refine we ?_ | refine ws ?_ | refine wq ?_
      | ((refine wc rfl (fun hc => ?_) (fun hc => ?_)) <;> (try simp at hc) <;> (try omega))
      | ((refine ib (fun hc => ?_) (fun hc => ?_)) <;> (try omega) <;> (try simp (disch := omega) only [if_pos, if_neg])))
      refine callK (rfree_call _ _) ?_
      rintro _ _ ⟨⟨e, rfl⟩, rfl⟩ _ _
      rw [hfree]
      repeat' (first
      | (refine lwc fun R hR => ?_; simp [wrap_i64, wrap_u64, g9, g0, g1, g2, g7, hoi, hgq, AW.row_get]; try simp (disch := omega) only [if_pos, if_neg, wrap_i64, wrap_u64])
      | (refine hR _ _ ?_; clear hR R) | (refine hK _ _ ?_; clear hK K) | refine lwn ?_ | refine lr ?_ | refine la ?_
      | refine wn fun K hK => ?_
      | simp only [nops, nop, lops, lop, slimG, List.map_cons, List.map_nil, List.filterMap_cons, List.filterMap_nil, Option.map_none, Option.map_some, List.getElem?_toArray, List.getElem?_cons_zero, List.getElem?_cons_succ, Option.bind_some]
      | (refine wl Try.mx [(0,0),(1,0),(2,0),(3,0),(4,0),(7,0),(8,0),(9,0),(5,3),(6,3),(12,0),(10,3),(11,3),(13,3),(14,0),(15,3)] (by decide +kernel) fun K hK => ?_)
      | (refine wl Try.mx [(0,0),(1,0),(2,0),(4,0),(5,0),(6,0),(3,2),(7,2),(8,0),(9,0),(10,0),(11,0),(12,0),(14,0),(15,0),(16,0),(17,0),(18,0),(19,0),(13,2),(20,2),(21,0),(22,0)] (by decide +kernel) fun K hK => ?_)
      | (refine wl Try.mx [(0,0),(1,0),(2,0),(3,0),(4,0),(6,0),(7,0),(8,0),(9,0),(10,0),(5,2),(11,2),(12,0),(13,0),(14,0),(15,2),(16,0),(17,0)] (by decide +kernel) fun K hK => ?_)
      | (refine wl Try.mx [(0,0),(1,0),(2,0),(3,0),(4,0),(5,0),(6,0),(7,0),(8,0),(9,0),(10,0),(11,0),(12,0),(13,0),(15,0),(16,0),(17,0),(18,0),(19,0),(20,0),(21,0),(22,0),(23,0),(24,0),(25,0),(26,0),(14,2),(28,0),(27,2),(29,3),(30,0),(31,3)] (by decide +kernel) fun K hK => ?_)
      | (refine wl Try.mx [(0,0),(1,0),(2,0),(3,0),(4,0),(6,0),(7,0),(8,0),(9,0),(10,0),(5,2),(11,2),(12,0),(13,0),(14,0),(15,0),(16,0),(18,0),(19,0),(20,0),(17,2),(21,2),(22,0),(23,0),(24,0),(25,0),(26,2),(27,0),(28,0)] (by decide +kernel) fun K hK => ?_)
      | refine wb ?_ | refine wr ?_ | refine wk ?_ | refine we ?_ | refine ws ?_ | refine wq ?_
      | ((refine wc rfl (fun hc => ?_) (fun hc => ?_)) <;> (try simp at hc) <;> (try omega))
      | ((refine ib (fun hc => ?_) (fun hc => ?_)) <;> (try omega) <;> (try simp (disch := omega) only [if_pos, if_neg])))
      have hS2 : Sat A2 (MemH pb M * (RefH mb M * (pt pq (.cells [.pointer (some ⟨pb, 0, none⟩), .pointer (some ⟨mb, 0, none⟩)] true 1) * hfix A.get))) := hS.cast (by ac_rfl)
      refine (pairSet_call pb mb M o _ ⟨hW.l2, hW.l3, hW.l4⟩ (hasCell2 hW ho6)).use hw2 hS2 (by ac_rfl : _ = (MemH pb M * RefH mb M) * (pt pq (.cells [.pointer (some ⟨pb, 0, none⟩), .pointer (some ⟨mb, 0, none⟩)] true 1) * hfix A.get)) ?_
      intro v A3 hU hw3 _
      obtain ⟨rfl, hY⟩ := hU.unpost
      clear hU
      rw [opM_store hW (by omega)] at hY
      repeat' (first
      | (refine lwc fun R hR => ?_; simp [wrap_i64, wrap_u64, g9, g0, g1, g2, g7, ho1, AW.row_get]; try simp (disch := omega) only [if_pos, if_neg, wrap_i64, wrap_u64])
      | (refine hR _ _ ?_; clear hR R) | (refine hK _ _ ?_; clear hK K) | refine lwn ?_ | refine lr ?_ | refine la ?_
      | refine wn fun K hK => ?_
      | simp only [nops, nop, lops, lop, slimG, List.map_cons, List.map_nil, List.filterMap_cons, List.filterMap_nil, Option.map_none, Option.map_some, List.getElem?_toArray, List.getElem?_cons_zero, List.getElem?_cons_succ, Option.bind_some]
      | (refine wl Try.mx [(0,0),(1,0),(2,0),(3,0),(4,0),(7,0),(8,0),(9,0),(5,3),(6,3),(12,0),(10,3),(11,3),(13,3),(14,0),(15,3)] (by decide +kernel) fun K hK => ?_)
      | (refine wl Try.mx [(0,0),(1,0),(2,0),(4,0),(5,0),(6,0),(3,2),(7,2),(8,0),(9,0),(10,0),(11,0),(12,0),(14,0),(15,0),(16,0),(17,0),(18,0),(19,0),(13,2),(20,2),(21,0),(22,0)] (by decide +kernel) fun K hK => ?_)
      | (refine wl Try.mx [(0,0),(1,0),(2,0),(3,0),(4,0),(6,0),(7,0),(8,0),(9,0),(10,0),(5,2),(11,2),(12,0),(13,0),(14,0),(15,2),(16,0),(17,0)] (by decide +kernel) fun K hK => ?_)
      | (refine wl Try.mx [(0,0),(1,0),(2,0),(3,0),(4,0),(5,0),(6,0),(7,0),(8,0),(9,0),(10,0),(11,0),(12,0),(13,0),(15,0),(16,0),(17,0),(18,0),(19,0),(20,0),(21,0),(22,0),(23,0),(24,0),(25,0),(26,0),(14,2),(28,0),(27,2),(29,3),(30,0),(31,3)] (by decide +kernel) fun K hK => ?_)
      | (refine wl Try.mx [(0,0),(1,0),(2,0),(3,0),(4,0),(6,0),(7,0),(8,0),(9,0),(10,0),(5,2),(11,2),(12,0),(13,0),(14,0),(15,0),(16,0),(18,0),(19,0),(20,0),(17,2),(21,2),(22,0),(23,0),(24,0),(25,0),(26,2),(27,0),(28,0)] (by decide +kernel) fun K hK => ?_)
      | refine wb ?_ | refine wr ?_ | refine wk ?_ | refine we ?_ | refine ws ?_ | refine wq ?_
      | ((refine wc rfl (fun hc => ?_) (fun hc => ?_)) <;> (try simp at hc) <;> (try omega))
      | ((refine ib (fun hc => ?_) (fun hc => ?_)) <;> (try omega) <;> (try simp (disch := omega) only [if_pos, if_neg])))
      refine ⟨6 - (o + 1), by omega, o + 1, _, rfl, by omega, by simp, by simp [g0], by simp [g1], by simp [g2], by simp [g7], hw3, hW.setO _ _, hMw.setO hW (by omega) ?_, hY.cast (by ac_rfl)⟩
      exact ⟨by omega, by omega, by omega⟩
    have ho6' : o = 6 := by omega
    subst ho6'
    repeat' (first
    | (refine lwc fun R hR => ?_; simp [wrap_i64, wrap_u64, g9, g0, g1, g2, g7, AW.row_get]; try simp (disch := omega) only [if_pos, if_neg, wrap_i64, wrap_u64])
    | (refine hR _ _ ?_; clear hR R) | (refine hK _ _ ?_; clear hK K) | refine lwn ?_ | refine lr ?_ | refine la ?_
    | refine wn fun K hK => ?_
    | simp only [nops, nop, lops, lop, slimG, List.map_cons, List.map_nil, List.filterMap_cons, List.filterMap_nil, Option.map_none, Option.map_some, List.getElem?_toArray, List.getElem?_cons_zero, List.getElem?_cons_succ, Option.bind_some]
    | (refine wl Try.mx [(0,0),(1,0),(2,0),(3,0),(4,0),(7,0),(8,0),(9,0),(5,3),(6,3),(12,0),(10,3),(11,3),(13,3),(14,0),(15,3)] (by decide +kernel) fun K hK => ?_)
    | (refine wl Try.mx [(0,0),(1,0),(2,0),(4,0),(5,0),(6,0),(3,2),(7,2),(8,0),(9,0),(10,0),(11,0),(12,0),(14,0),(15,0),(16,0),(17,0),(18,0),(19,0),(13,2),(20,2),(21,0),(22,0)] (by decide +kernel) fun K hK => ?_)
    | (refine wl Try.mx [(0,0),(1,0),(2,0),(3,0),(4,0),(6,0),(7,0),(8,0),(9,0),(10,0),(5,2),(11,2),(12,0),(13,0),(14,0),(15,2),(16,0),(17,0)] (by decide +kernel) fun K hK => ?_)
    | (refine wl Try.mx [(0,0),(1,0),(2,0),(3,0),(4,0),(5,0),(6,0),(7,0),(8,0),(9,0),(10,0),(11,0),(12,0),(13,0),(15,0),(16,0),(17,0),(18,0),(19,0),(20,0),(21,0),(22,0),(23,0),(24,0),(25,0),(26,0),(14,2),(28,0),(27,2),(29,3),(30,0),(31,3)] (by decide +kernel) fun K hK => ?_)
    | (refine wl Try.mx [(0,0),(1,0),(2,0),(3,0),(4,0),(6,0),(7,0),(8,0),(9,0),(10,0),(5,2),(11,2),(12,0),(13,0),(14,0),(15,0),(16,0),(18,0),(19,0),(20,0),(17,2),(21,2),(22,0),(23,0),(24,0),(25,0),(26,2),(27,0),(28,0)] (by decide +kernel) fun K hK => ?_)
    | refine wb ?_ | refine wr ?_ | refine wk ?_ | refine we ?_ | refine ws ?_ | refine wq ?_
    | ((refine wc rfl (fun hc => ?_) (fun hc => ?_)) <;> (try simp at hc) <;> (try omega))
    | ((refine ib (fun hc => ?_) (fun hc => ?_)) <;> (try omega) <;> (try simp (disch := omega) only [if_pos, if_neg])))
    obtain ⟨ab, hab⟩ : ∃ ab, ab = A2.next := ⟨_, rfl⟩
    refine awp_loop (fun k fr A' => ∃ (j : Nat) (th : FTs), k = picks.length - j ∧ j ≤ picks.length ∧ fr 16 = .int .i64 j ∧ FoJ pb pq mb ab A ls ol op ls.length cl picks.length cp th fr A') picks.length ?_ ?_
    · refine ⟨0, fun _ => none, by simp, by simp, by simp, M, ⟨fun _ => 0, fun _ => 0, fun _ => 0, fun _ => 0⟩, by simp [g0], by simp [g1], by simp [g7], by simp [hab], by simp [hab], by simp [hab], by simp [hab], ?_, ⟨hW, hMw, fun t s r h => (by cases h)⟩, ?_⟩
      · exact (((hw2.alloc _).alloc _).alloc _).alloc _
      · subst hab
        have w1 := hw2.alloc (.cells [.pointer none, .pointer none, .pointer none] true 1)
        have w2 := w1.alloc (.cells [.pointer none, .pointer none, .pointer none] true 1)
        have w3 := w2.alloc (.cells [.pointer none, .pointer none, .pointer none] true 1)
        have h4 := (((hS.alloc hw2 (.cells [.pointer none, .pointer none, .pointer none] true 1)).alloc w1 (.cells [.pointer none, .pointer none, .pointer none] true 1)).alloc w2 (.cells [.pointer none, .pointer none, .pointer none] true 1)).alloc w3 (.cells [.pointer none, .pointer none, .pointer none] true 1)
        simp only [AW.alloc_next] at h4
        have e2 : A2.next + 1 + 1 = A2.next + 2 := rfl
        have e3 : A2.next + 1 + 1 + 1 = A2.next + 3 := rfl
        rw [e3, e2] at h4
        refine h4.cast ?_
        have e : bstar (fH (fun _ => none) ⟨fun _ => 0, fun _ => 0, fun _ => 0, fun _ => 0⟩) 3 = hemp := by simp [bstar, fH, hemp_mul]
        unfold FoH
        rw [e, hemp_mul]
        show pt (A2.next + 3) (.cells [.pointer none, .pointer none, .pointer none] true 1) * _ = pt pq _ * (pt A2.next (.cells [.pointer none, .pointer none, .pointer none] true 1) * (pt (A2.next + 1) (.cells [.pointer none, .pointer none, .pointer none] true 1) * (pt (A2.next + 2) (.cells [.pointer none, .pointer none, .pointer none] true 1) * (pt (A2.next + 3) (.cells [.pointer none, .pointer none, .pointer none] true 1) * _)))) * _
        ac_rfl
    clear hk2 hS hMw hW g0 g1 g2 g7 g9 hw2 hab ho
    rintro k fr A2 ⟨j, th, rfl, hj, g16, M, nm, g0, g1, g7, g12, g13, g14, g15, hw2, hI, hS⟩
    by_cases hlt : j < picks.length
    case neg =>
      have hlti : ¬ (j : Int) < picks.length := by omega
      repeat' (first
      | (refine lwc fun R hR => ?_; simp [wrap_i64, wrap_u64, g0, g1, g7, g12, g13, g14, g15, g16, hlt, hlti]; try simp (disch := omega) only [if_pos, if_neg, wrap_i64, wrap_u64])
      | (refine hR _ _ ?_; clear hR R) | (refine hK _ _ ?_; clear hK K) | refine lwn ?_ | refine lr ?_ | refine la ?_
      | refine wn fun K hK => ?_
      | simp only [nops, nop, lops, lop, slimG, List.map_cons, List.map_nil, List.filterMap_cons, List.filterMap_nil, Option.map_none, Option.map_some, List.getElem?_toArray, List.getElem?_cons_zero, List.getElem?_cons_succ, Option.bind_some]
      | (refine wl Try.mx [(0,0),(1,0),(2,0),(3,0),(4,0),(7,0),(8,0),(9,0),(5,3),(6,3),(12,0),(10,3),(11,3),(13,3),(14,0),(15,3)] (by decide +kernel) fun K hK => ?_)
      | (refine wl Try.mx [(0,0),(1,0),(2,0),(4,0),(5,0),(6,0),(3,2),(7,2),(8,0),(9,0),(10,0),(11,0),(12,0),(14,0),(15,0),(16,0),(17,0),(18,0),(19,0),(13,2),(20,2),(21,0),(22,0)] (by decide +kernel) fun K hK => ?_)
      | (refine wl Try.mx [(0,0),(1,0),(2,0),(3,0),(4,0),(6,0),(7,0),(8,0),(9,0),(10,0),(5,2),(11,2),(12,0),(13,0),(14,0),(15,2),(16,0),(17,0)] (by decide +kernel) fun K hK => ?_)
      | (refine wl Try.mx [(0,0),(1,0),(2,0),(3,0),(4,0),(5,0),(6,0),(7,0),(8,0),(9,0),(10,0),(11,0),(12,0),(13,0),(15,0),(16,0),(17,0),(18,0),(19,0),(20,0),(21,0),(22,0),(23,0),(24,0),(25,0),(26,0),(14,2),(28,0),(27,2),(29,3),(30,0),(31,3)] (by decide +kernel) fun K hK => ?_)
      | (refine wl Try.mx [(0,0),(1,0),(2,0),(3,0),(4,0),(6,0),(7,0),(8,0),(9,0),(10,0),(5,2),(11,2),(12,0),(13,0),(14,0),(15,0),(16,0),(18,0),(19,0),(20,0),(17,2),(21,2),(22,0),(23,0),(24,0),(25,0),(26,2),(27,0),(28,0)] (by decide +kernel) fun K hK => ?_)
      | refine wb ?_ | refine wr ?_ | refine wk ?_ | refine we ?_ | refine ws ?_ | refine wq ?_
      | ((refine wc rfl (fun hc => ?_) (fun hc => ?_)) <;> (try simp at hc) <;> (try omega))
      | ((refine ib (fun hc => ?_) (fun hc => ?_)) <;> (try omega) <;> (try simp (disch := omega) only [if_pos, if_neg])))
      refine callK (awake_call A2 hemp (Sat.emp A2)) ?_
      rintro _ A3 ⟨rfl, _⟩ w3 _
      repeat' (first
      | (refine lwc fun R hR => ?_; simp [wrap_i64, wrap_u64, h80]; try simp (disch := omega) only [if_pos, if_neg, wrap_i64, wrap_u64])
      | (refine hR _ _ ?_; clear hR R) | (refine hK _ _ ?_; clear hK K) | refine lwn ?_ | refine lr ?_ | refine la ?_
      | refine wn fun K hK => ?_
      | simp only [nops, nop, lops, lop, slimG, List.map_cons, List.map_nil, List.filterMap_cons, List.filterMap_nil, Option.map_none, Option.map_some, List.getElem?_toArray, List.getElem?_cons_zero, List.getElem?_cons_succ, Option.bind_some]
      | (refine wl Try.mx [(0,0),(1,0),(2,0),(3,0),(4,0),(7,0),(8,0),(9,0),(5,3),(6,3),(12,0),(10,3),(11,3),(13,3),(14,0),(15,3)] (by decide +kernel) fun K hK => ?_)
      | (refine wl Try.mx [(0,0),(1,0),(2,0),(4,0),(5,0),(6,0),(3,2),(7,2),(8,0),(9,0),(10,0),(11,0),(12,0),(14,0),(15,0),(16,0),(17,0),(18,0),(19,0),(13,2),(20,2),(21,0),(22,0)] (by decide +kernel) fun K hK => ?_)
      | (refine wl Try.mx [(0,0),(1,0),(2,0),(3,0),(4,0),(6,0),(7,0),(8,0),(9,0),(10,0),(5,2),(11,2),(12,0),(13,0),(14,0),(15,2),(16,0),(17,0)] (by decide +kernel) fun K hK => ?_)
      | (refine wl Try.mx [(0,0),(1,0),(2,0),(3,0),(4,0),(5,0),(6,0),(7,0),(8,0),(9,0),(10,0),(11,0),(12,0),(13,0),(15,0),(16,0),(17,0),(18,0),(19,0),(20,0),(21,0),(22,0),(23,0),(24,0),(25,0),(26,0),(14,2),(28,0),(27,2),(29,3),(30,0),(31,3)] (by decide +kernel) fun K hK => ?_)
      | (refine wl Try.mx [(0,0),(1,0),(2,0),(3,0),(4,0),(6,0),(7,0),(8,0),(9,0),(10,0),(5,2),(11,2),(12,0),(13,0),(14,0),(15,0),(16,0),(18,0),(19,0),(20,0),(17,2),(21,2),(22,0),(23,0),(24,0),(25,0),(26,2),(27,0),(28,0)] (by decide +kernel) fun K hK => ?_)
      | refine wb ?_ | refine wr ?_ | refine wk ?_ | refine we ?_ | refine ws ?_ | refine wq ?_
      | ((refine wc rfl (fun hc => ?_) (fun hc => ?_)) <;> (try simp at hc) <;> (try omega))
      | ((refine ib (fun hc => ?_) (fun hc => ?_)) <;> (try omega) <;> (try simp (disch := omega) only [if_pos, if_neg])))
      simp
    have hlti : (j : Int) < picks.length := by omega
    have hj1 : IntKind.i64.wrap ((j : Int) + 1) = ((j + 1 : Nat) : Int) := wrap_i64 (by omega) (by omega)
    have hk2 : Keeps A A2 := Keeps.of_fix (F := FoH pb pq mb ab M th nm) (hS.cast (by ac_rfl))
    obtain ⟨pp, rowp, ownp, rfl, hgp, hcp⟩ := (hp.keeps hk2).atg hlt
    repeat' (first
    | (refine lwc fun R hR => ?_; simp [wrap_i64, wrap_u64, g0, g1, g7, g12, g13, g14, g15, g16, hlt, hlti, hgp, hcp, AW.row_get]; try simp (disch := omega) only [if_pos, if_neg, wrap_i64, wrap_u64])
    | (refine hR _ _ ?_; clear hR R) | (refine hK _ _ ?_; clear hK K) | refine lwn ?_ | refine lr ?_ | refine la ?_
    | refine wn fun K hK => ?_
    | simp only [nops, nop, lops, lop, slimG, List.map_cons, List.map_nil, List.filterMap_cons, List.filterMap_nil, Option.map_none, Option.map_some, List.getElem?_toArray, List.getElem?_cons_zero, List.getElem?_cons_succ, Option.bind_some]
    | (refine wl Try.mx [(0,0),(1,0),(2,0),(3,0),(4,0),(7,0),(8,0),(9,0),(5,3),(6,3),(12,0),(10,3),(11,3),(13,3),(14,0),(15,3)] (by decide +kernel) fun K hK => ?_)
    | (refine wl Try.mx [(0,0),(1,0),(2,0),(4,0),(5,0),(6,0),(3,2),(7,2),(8,0),(9,0),(10,0),(11,0),(12,0),(14,0),(15,0),(16,0),(17,0),(18,0),(19,0),(13,2),(20,2),(21,0),(22,0)] (by decide +kernel) fun K hK => ?_)
    | (refine wl Try.mx [(0,0),(1,0),(2,0),(3,0),(4,0),(6,0),(7,0),(8,0),(9,0),(10,0),(5,2),(11,2),(12,0),(13,0),(14,0),(15,2),(16,0),(17,0)] (by decide +kernel) fun K hK => ?_)
    | (refine wl Try.mx [(0,0),(1,0),(2,0),(3,0),(4,0),(5,0),(6,0),(7,0),(8,0),(9,0),(10,0),(11,0),(12,0),(13,0),(15,0),(16,0),(17,0),(18,0),(19,0),(20,0),(21,0),(22,0),(23,0),(24,0),(25,0),(26,0),(14,2),(28,0),(27,2),(29,3),(30,0),(31,3)] (by decide +kernel) fun K hK => ?_)
    | (refine wl Try.mx [(0,0),(1,0),(2,0),(3,0),(4,0),(6,0),(7,0),(8,0),(9,0),(10,0),(5,2),(11,2),(12,0),(13,0),(14,0),(15,0),(16,0),(18,0),(19,0),(20,0),(17,2),(21,2),(22,0),(23,0),(24,0),(25,0),(26,2),(27,0),(28,0)] (by decide +kernel) fun K hK => ?_)
    | refine wb ?_ | refine wr ?_ | refine wk ?_ | refine we ?_ | refine ws ?_ | refine wq ?_
    | ((refine wc rfl (fun hc => ?_) (fun hc => ?_)) <;> (try simp at hc) <;> (try omega))
    | ((refine ib (fun hc => ?_) (fun hc => ?_)) <;> (try omega) <;> (try simp (disch := omega) only [if_pos, if_neg])))
    obtain ⟨t, ht⟩ : ∃ t : Nat, placeF picks[j] 3 = t := ⟨(placeF picks[j] 3).toNat, by have := placeF_range picks[j] 3 (by omega); omega⟩
    have ht3 : t < 3 := by have := placeF_range picks[j] 3 (by omega); omega
    have hti : (t : Int) < 3 := by omega
    refine callK (place_call _ 3 _ (by omega) (by omega)) ?_
    rintro _ _ ⟨rfl, rfl⟩ _ _
    repeat' (first
    | (refine lwc fun R hR => ?_; simp [wrap_i64, wrap_u64, ht]; try simp (disch := omega) only [if_pos, if_neg, wrap_i64, wrap_u64])
    | (refine hR _ _ ?_; clear hR R) | refine lwn ?_ | refine lr ?_ | refine la ?_
    | simp only [nops, nop, lops, lop, slimG, List.map_cons, List.map_nil, List.filterMap_cons, List.filterMap_nil, Option.map_none, Option.map_some, List.getElem?_toArray, List.getElem?_cons_zero, List.getElem?_cons_succ, Option.bind_some]
    | ((refine ib (fun hc => ?_) (fun hc => ?_)) <;> (try omega) <;> (try simp (disch := omega) only [if_pos, if_neg])))
    refine hK _ _ ?_
    clear hK
    refine wq ?_
    refine awp_join (fun fr' A3 => ∃ th x, th t = some x ∧ fr' 17 = .int .i64 t ∧ fr' 16 = .int .i64 j ∧ FoJ pb pq mb ab A ls ol (some pp) ls.length cl picks.length cp th fr' A3) ?_ ?_
    · have hS3 : Sat A2 (pt ab (.cells (three (aV th nm)) true 1) * (pt (ab + 1) (.cells (three (bV th nm)) true 1) * (pt (ab + 2) (.cells (three (cV th nm)) true 1) * (pt (ab + 3) (.cells (three (dV th nm)) true 1) * (pt pq (.cells [.pointer (some ⟨pb, 0, none⟩), .pointer (some ⟨mb, 0, none⟩)] true 1) * (bstar (fH th nm) 3 * (MemH pb M * (RefH mb M * hfix A.get)))))))) := hS.cast (by unfold FoH; ac_rfl)
      have hgb := hS3.right.get
      have hbl := three_get (bV th nm) ht3
      rcases hth : th t with _ | x
      · have hbv : bV th nm t = .pointer none := by simp [bV, hth]
        rw [hbv] at hbl
        repeat' (first
        | (refine lwc fun R hR => ?_; simp [wrap_i64, wrap_u64, g0, g1, g7, g12, g13, g14, g15, g16, hgb, hbl, hti, AW.row_get]; try simp (disch := omega) only [if_pos, if_neg, wrap_i64, wrap_u64])
        | (refine hR _ _ ?_; clear hR R) | (refine hK _ _ ?_; clear hK K) | refine lwn ?_ | refine lr ?_ | refine la ?_
        | refine wn fun K hK => ?_
        | simp only [nops, nop, lops, lop, slimG, List.map_cons, List.map_nil, List.filterMap_cons, List.filterMap_nil, Option.map_none, Option.map_some, List.getElem?_toArray, List.getElem?_cons_zero, List.getElem?_cons_succ, Option.bind_some]
        | (refine wl Try.mx [(0,0),(1,0),(2,0),(3,0),(4,0),(7,0),(8,0),(9,0),(5,3),(6,3),(12,0),(10,3),(11,3),(13,3),(14,0),(15,3)] (by decide +kernel) fun K hK => ?_)
        | (refine wl Try.mx [(0,0),(1,0),(2,0),(4,0),(5,0),(6,0),(3,2),(7,2),(8,0),(9,0),(10,0),(11,0),(12,0),(14,0),(15,0),(16,0),(17,0),(18,0),(19,0),(13,2),(20,2),(21,0),(22,0)] (by decide +kernel) fun K hK => ?_)
        | (refine wl Try.mx [(0,0),(1,0),(2,0),(3,0),(4,0),(6,0),(7,0),(8,0),(9,0),(10,0),(5,2),(11,2),(12,0),(13,0),(14,0),(15,2),(16,0),(17,0)] (by decide +kernel) fun K hK => ?_)
        | (refine wl Try.mx [(0,0),(1,0),(2,0),(3,0),(4,0),(5,0),(6,0),(7,0),(8,0),(9,0),(10,0),(11,0),(12,0),(13,0),(15,0),(16,0),(17,0),(18,0),(19,0),(20,0),(21,0),(22,0),(23,0),(24,0),(25,0),(26,0),(14,2),(28,0),(27,2),(29,3),(30,0),(31,3)] (by decide +kernel) fun K hK => ?_)
        | (refine wl Try.mx [(0,0),(1,0),(2,0),(3,0),(4,0),(6,0),(7,0),(8,0),(9,0),(10,0),(5,2),(11,2),(12,0),(13,0),(14,0),(15,0),(16,0),(18,0),(19,0),(20,0),(17,2),(21,2),(22,0),(23,0),(24,0),(25,0),(26,2),(27,0),(28,0)] (by decide +kernel) fun K hK => ?_)
        | refine wb ?_ | refine wr ?_ | refine wk ?_ | refine we ?_ | refine ws ?_ | refine wq ?_
        | ((refine wc rfl (fun hc => ?_) (fun hc => ?_)) <;> (try simp at hc) <;> (try omega))
        | ((refine ib (fun hc => ?_) (fun hc => ?_)) <;> (try omega) <;> (try simp (disch := omega) only [if_pos, if_neg])))
        refine callK (wants_call _ ls t A2 (hl.keeps hk2) ht3) ?_
        rintro u B1 ⟨o1, l1⟩ x1 _
        obtain ⟨ou, cu, rfl, _⟩ := o1.is.form
        have hwl := wantsF_len ls t
        repeat' (first
        | (refine lwc fun R hR => ?_; simp [wrap_i64, wrap_u64, g0, g1, g7, g12, g13, g14, g15, g16, hti, AW.row_get]; try simp (disch := omega) only [if_pos, if_neg, wrap_i64, wrap_u64])
        | (refine hR _ _ ?_; clear hR R) | (refine hK _ _ ?_; clear hK K) | refine lwn ?_ | refine lr ?_ | refine la ?_
        | refine wn fun K hK => ?_
        | simp only [nops, nop, lops, lop, slimG, List.map_cons, List.map_nil, List.filterMap_cons, List.filterMap_nil, Option.map_none, Option.map_some, List.getElem?_toArray, List.getElem?_cons_zero, List.getElem?_cons_succ, Option.bind_some]
        | (refine wl Try.mx [(0,0),(1,0),(2,0),(3,0),(4,0),(7,0),(8,0),(9,0),(5,3),(6,3),(12,0),(10,3),(11,3),(13,3),(14,0),(15,3)] (by decide +kernel) fun K hK => ?_)
        | (refine wl Try.mx [(0,0),(1,0),(2,0),(4,0),(5,0),(6,0),(3,2),(7,2),(8,0),(9,0),(10,0),(11,0),(12,0),(14,0),(15,0),(16,0),(17,0),(18,0),(19,0),(13,2),(20,2),(21,0),(22,0)] (by decide +kernel) fun K hK => ?_)
        | (refine wl Try.mx [(0,0),(1,0),(2,0),(3,0),(4,0),(6,0),(7,0),(8,0),(9,0),(10,0),(5,2),(11,2),(12,0),(13,0),(14,0),(15,2),(16,0),(17,0)] (by decide +kernel) fun K hK => ?_)
        | (refine wl Try.mx [(0,0),(1,0),(2,0),(3,0),(4,0),(5,0),(6,0),(7,0),(8,0),(9,0),(10,0),(11,0),(12,0),(13,0),(15,0),(16,0),(17,0),(18,0),(19,0),(20,0),(21,0),(22,0),(23,0),(24,0),(25,0),(26,0),(14,2),(28,0),(27,2),(29,3),(30,0),(31,3)] (by decide +kernel) fun K hK => ?_)
        | (refine wl Try.mx [(0,0),(1,0),(2,0),(3,0),(4,0),(6,0),(7,0),(8,0),(9,0),(10,0),(5,2),(11,2),(12,0),(13,0),(14,0),(15,0),(16,0),(18,0),(19,0),(20,0),(17,2),(21,2),(22,0),(23,0),(24,0),(25,0),(26,2),(27,0),(28,0)] (by decide +kernel) fun K hK => ?_)
        | refine wb ?_ | refine wr ?_ | refine wk ?_ | refine we ?_ | refine ws ?_ | refine wq ?_
        | ((refine wc rfl (fun hc => ?_) (fun hc => ?_)) <;> (try simp at hc) <;> (try omega))
        | ((refine ib (fun hc => ?_) (fun hc => ?_)) <;> (try omega) <;> (try simp (disch := omega) only [if_pos, if_neg])))
        refine callK (newLock_call t _ _ B1 _ o1.is (by omega) x1 (hS3.le hw2 l1)) ?_
        rintro v B2 ⟨ba, rfl, hS4⟩ x2 _
        have hkB2 : Keeps A B2 := Keeps.of_fix (F := LockH ba ⟨t, lockL ls t, [], 0, false⟩ * (pt ab (.cells (three (aV th nm)) true 1) * (pt (ab + 1) (.cells (three (bV th nm)) true 1) * (pt (ab + 2) (.cells (three (cV th nm)) true 1) * (pt (ab + 3) (.cells (three (dV th nm)) true 1) * (pt pq (.cells [.pointer (some ⟨pb, 0, none⟩), .pointer (some ⟨mb, 0, none⟩)] true 1) * (bstar (fH th nm) 3 * (MemH pb M * RefH mb M)))))))) (hS4.cast (by unfold lockL; ac_rfl))
        repeat' (first
        | (refine lwc fun R hR => ?_; simp [wrap_i64, wrap_u64, g0, g1, g7, g12, g13, g14, g15, g16, hti, AW.row_get]; try simp (disch := omega) only [if_pos, if_neg, wrap_i64, wrap_u64])
        | (refine hR _ _ ?_; clear hR R) | (refine hK _ _ ?_; clear hK K) | refine lwn ?_ | refine lr ?_ | refine la ?_
        | refine wn fun K hK => ?_
        | simp only [nops, nop, lops, lop, slimG, List.map_cons, List.map_nil, List.filterMap_cons, List.filterMap_nil, Option.map_none, Option.map_some, List.getElem?_toArray, List.getElem?_cons_zero, List.getElem?_cons_succ, Option.bind_some]
        | (refine wl Try.mx [(0,0),(1,0),(2,0),(3,0),(4,0),(7,0),(8,0),(9,0),(5,3),(6,3),(12,0),(10,3),(11,3),(13,3),(14,0),(15,3)] (by decide +kernel) fun K hK => ?_)
        | (refine wl Try.mx [(0,0),(1,0),(2,0),(4,0),(5,0),(6,0),(3,2),(7,2),(8,0),(9,0),(10,0),(11,0),(12,0),(14,0),(15,0),(16,0),(17,0),(18,0),(19,0),(13,2),(20,2),(21,0),(22,0)] (by decide +kernel) fun K hK => ?_)
        | (refine wl Try.mx [(0,0),(1,0),(2,0),(3,0),(4,0),(6,0),(7,0),(8,0),(9,0),(10,0),(5,2),(11,2),(12,0),(13,0),(14,0),(15,2),(16,0),(17,0)] (by decide +kernel) fun K hK => ?_)
        | (refine wl Try.mx [(0,0),(1,0),(2,0),(3,0),(4,0),(5,0),(6,0),(7,0),(8,0),(9,0),(10,0),(11,0),(12,0),(13,0),(15,0),(16,0),(17,0),(18,0),(19,0),(20,0),(21,0),(22,0),(23,0),(24,0),(25,0),(26,0),(14,2),(28,0),(27,2),(29,3),(30,0),(31,3)] (by decide +kernel) fun K hK => ?_)
        | (refine wl Try.mx [(0,0),(1,0),(2,0),(3,0),(4,0),(6,0),(7,0),(8,0),(9,0),(10,0),(5,2),(11,2),(12,0),(13,0),(14,0),(15,0),(16,0),(18,0),(19,0),(20,0),(17,2),(21,2),(22,0),(23,0),(24,0),(25,0),(26,2),(27,0),(28,0)] (by decide +kernel) fun K hK => ?_)
        | refine wb ?_ | refine wr ?_ | refine wk ?_ | refine we ?_ | refine ws ?_ | refine wq ?_
        | ((refine wc rfl (fun hc => ?_) (fun hc => ?_)) <;> (try simp at hc) <;> (try omega))
        | ((refine ib (fun hc => ?_) (fun hc => ?_)) <;> (try omega) <;> (try simp (disch := omega) only [if_pos, if_neg])))
        refine callK (wants_call _ ls t B2 (hl.keeps hkB2) ht3) ?_
        rintro u2 B3 ⟨o2, l2⟩ x3 _
        obtain ⟨ou2, cu2, rfl, _⟩ := o2.is.form
        repeat' (first
        | (refine lwc fun R hR => ?_; simp [wrap_i64, wrap_u64, g0, g1, g7, g12, g13, g14, g15, g16, hti, AW.row_get]; try simp (disch := omega) only [if_pos, if_neg, wrap_i64, wrap_u64])
        | (refine hR _ _ ?_; clear hR R) | (refine hK _ _ ?_; clear hK K) | refine lwn ?_ | refine lr ?_ | refine la ?_
        | refine wn fun K hK => ?_
        | simp only [nops, nop, lops, lop, slimG, List.map_cons, List.map_nil, List.filterMap_cons, List.filterMap_nil, Option.map_none, Option.map_some, List.getElem?_toArray, List.getElem?_cons_zero, List.getElem?_cons_succ, Option.bind_some]
        | (refine wl Try.mx [(0,0),(1,0),(2,0),(3,0),(4,0),(7,0),(8,0),(9,0),(5,3),(6,3),(12,0),(10,3),(11,3),(13,3),(14,0),(15,3)] (by decide +kernel) fun K hK => ?_)
        | (refine wl Try.mx [(0,0),(1,0),(2,0),(4,0),(5,0),(6,0),(3,2),(7,2),(8,0),(9,0),(10,0),(11,0),(12,0),(14,0),(15,0),(16,0),(17,0),(18,0),(19,0),(13,2),(20,2),(21,0),(22,0)] (by decide +kernel) fun K hK => ?_)
        | (refine wl Try.mx [(0,0),(1,0),(2,0),(3,0),(4,0),(6,0),(7,0),(8,0),(9,0),(10,0),(5,2),(11,2),(12,0),(13,0),(14,0),(15,2),(16,0),(17,0)] (by decide +kernel) fun K hK => ?_)
        | (refine wl Try.mx [(0,0),(1,0),(2,0),(3,0),(4,0),(5,0),(6,0),(7,0),(8,0),(9,0),(10,0),(11,0),(12,0),(13,0),(15,0),(16,0),(17,0),(18,0),(19,0),(20,0),(21,0),(22,0),(23,0),(24,0),(25,0),(26,0),(14,2),(28,0),(27,2),(29,3),(30,0),(31,3)] (by decide +kernel) fun K hK => ?_)
        | (refine wl Try.mx [(0,0),(1,0),(2,0),(3,0),(4,0),(6,0),(7,0),(8,0),(9,0),(10,0),(5,2),(11,2),(12,0),(13,0),(14,0),(15,0),(16,0),(18,0),(19,0),(20,0),(17,2),(21,2),(22,0),(23,0),(24,0),(25,0),(26,2),(27,0),(28,0)] (by decide +kernel) fun K hK => ?_)
        | refine wb ?_ | refine wr ?_ | refine wk ?_ | refine we ?_ | refine ws ?_ | refine wq ?_
        | ((refine wc rfl (fun hc => ?_) (fun hc => ?_)) <;> (try simp at hc) <;> (try omega))
        | ((refine ib (fun hc => ?_) (fun hc => ?_)) <;> (try omega) <;> (try simp (disch := omega) only [if_pos, if_neg])))
        refine callK (rnewLock_call t _ _ B3 _ o2.is (by omega) x3 (hS4.le x2 l2)) ?_
        rintro v B4 ⟨bb, rfl, hS5⟩ x4 _
        have hS6 : Sat B4 (pt ab (.cells (three (aV th nm)) true 1) * (pt (ab + 1) (.cells (three (bV th nm)) true 1) * (pt (ab + 2) (.cells (three (cV th nm)) true 1) * (pt (ab + 3) (.cells (three (dV th nm)) true 1) * (LockH ba ⟨t, lockL ls t, [], 0, false⟩ * (RLockH bb ⟨t, lockL ls t, [], 0, false⟩ * (pt pq (.cells [.pointer (some ⟨pb, 0, none⟩), .pointer (some ⟨mb, 0, none⟩)] true 1) * (bstar (fH th nm) 3 * (MemH pb M * (RefH mb M * hfix A.get)))))))))) := hS5.cast (by unfold lockL; ac_rfl)
        have hga6 := hS6.get
        have hgb6 := hS6.right.get
        have hne := hS6.ne
        have hla : t + 1 ≤ (three (aV th nm)).length := by rw [three_len]; omega
        have hlb : t + 1 ≤ (three (bV th nm)).length := by rw [three_len]; omega
        repeat' (first
        | (refine lwc fun R hR => ?_; simp [wrap_i64, wrap_u64, g0, g1, g7, g12, g13, g14, g15, g16, hga6, hgb6, hla, hlb, hne, Ne.symm hne, hti, AW.row_get, astore]; try simp (disch := omega) only [if_pos, if_neg, wrap_i64, wrap_u64])
        | (refine hR _ _ ?_; clear hR R) | (refine hK _ _ ?_; clear hK K) | refine lwn ?_ | refine lr ?_ | refine la ?_
        | refine wn fun K hK => ?_
        | simp only [nops, nop, lops, lop, slimG, List.map_cons, List.map_nil, List.filterMap_cons, List.filterMap_nil, Option.map_none, Option.map_some, List.getElem?_toArray, List.getElem?_cons_zero, List.getElem?_cons_succ, Option.bind_some]
        | (refine wl Try.mx [(0,0),(1,0),(2,0),(3,0),(4,0),(7,0),(8,0),(9,0),(5,3),(6,3),(12,0),(10,3),(11,3),(13,3),(14,0),(15,3)] (by decide +kernel) fun K hK => ?_)
        | (refine wl Try.mx [(0,0),(1,0),(2,0),(4,0),(5,0),(6,0),(3,2),(7,2),(8,0),(9,0),(10,0),(11,0),(12,0),(14,0),(15,0),(16,0),(17,0),(18,0),(19,0),(13,2),(20,2),(21,0),(22,0)] (by decide +kernel) fun K hK => ?_)
        | (refine wl Try.mx [(0,0),(1,0),(2,0),(3,0),(4,0),(6,0),(7,0),(8,0),(9,0),(10,0),(5,2),(11,2),(12,0),(13,0),(14,0),(15,2),(16,0),(17,0)] (by decide +kernel) fun K hK => ?_)
        | (refine wl Try.mx [(0,0),(1,0),(2,0),(3,0),(4,0),(5,0),(6,0),(7,0),(8,0),(9,0),(10,0),(11,0),(12,0),(13,0),(15,0),(16,0),(17,0),(18,0),(19,0),(20,0),(21,0),(22,0),(23,0),(24,0),(25,0),(26,0),(14,2),(28,0),(27,2),(29,3),(30,0),(31,3)] (by decide +kernel) fun K hK => ?_)
        | (refine wl Try.mx [(0,0),(1,0),(2,0),(3,0),(4,0),(6,0),(7,0),(8,0),(9,0),(10,0),(5,2),(11,2),(12,0),(13,0),(14,0),(15,0),(16,0),(18,0),(19,0),(20,0),(17,2),(21,2),(22,0),(23,0),(24,0),(25,0),(26,2),(27,0),(28,0)] (by decide +kernel) fun K hK => ?_)
        | refine wb ?_ | refine wr ?_ | refine wk ?_ | refine we ?_ | refine ws ?_ | refine wq ?_
        | ((refine wc rfl (fun hc => ?_) (fun hc => ?_)) <;> (try simp at hc) <;> (try omega))
        | ((refine ib (fun hc => ?_) (fun hc => ?_)) <;> (try omega) <;> (try simp (disch := omega) only [if_pos, if_neg])))
        obtain ⟨nm', hnm⟩ : ∃ nm' : Nm, nm' = ⟨fun u => if u = t then ba else nm.a u, fun u => if u = t then bb else nm.b u, nm.c, nm.d⟩ := ⟨_, rfl⟩
        obtain ⟨th', hth'⟩ : ∃ th' : FTs, th' = updF th t (some (⟨t, lockL ls t, [], 0, false⟩, none)) := ⟨_, rfl⟩
        refine ⟨th', _, by rw [hth']; simp [updF]; rfl, by simp, by simp [g16], M, nm', by simp [g0], by simp [g1], by simp [g7], by simp [g12], by simp [g13], by simp [g14], by simp [g15], (x4.set _ (x4.lt hga6)).set _ (by simpa using x4.lt hgb6), ?_, ?_⟩
        · rw [hth']
          exact hI.put hI.w6 hI.wd ⟨rfl, rfl, by simp, by simp, by simp⟩ (fun k hk => by cases hk)
        · have ea : (three (aV th nm)).set t (.pointer (some ⟨ba, 0, none⟩)) = three (aV th' nm') := by
            rw [← three_set (aV th nm) (aV th' nm') ht3 (fun u hu => by simp [aV, hth', hnm, updF, hu])]; simp [aV, hth', hnm, updF, ptrV]
          have eb : (three (bV th nm)).set t (.pointer (some ⟨bb, 0, none⟩)) = three (bV th' nm') := by
            rw [← three_set (bV th nm) (bV th' nm') ht3 (fun u hu => by simp [bV, hth', hnm, updF, hu])]; simp [bV, hth', hnm, updF, ptrV]
          have ec : three (cV th nm) = three (cV th' nm') := three_eq _ _ fun u => by
            by_cases hu : u = t
            · subst hu; simp [cV, hth', hnm, updF, hth, isRel]
            · simp [cV, hth', hnm, updF, hu]
          have ed : three (dV th nm) = three (dV th' nm') := three_eq _ _ fun u => by
            by_cases hu : u = t
            · subst hu; simp [dV, hth', hnm, updF, hth, isRel]
            · simp [dV, hth', hnm, updF, hu]
          have h7 := hS6.set (.cells ((three (aV th nm)).set t (.pointer (some ⟨ba, 0, none⟩))) true 1)
          have h8 : Sat _ (pt (ab + 1) (.cells (three (bV th nm)) true 1) * (RLockH bb ⟨t, lockL ls t, [], 0, false⟩ * (pt ab (.cells ((three (aV th nm)).set t (.pointer (some ⟨ba, 0, none⟩))) true 1) * (pt (ab + 2) (.cells (three (cV th nm)) true 1) * (pt (ab + 3) (.cells (three (dV th nm)) true 1) * (LockH ba ⟨t, lockL ls t, [], 0, false⟩ * (pt pq (.cells [.pointer (some ⟨pb, 0, none⟩), .pointer (some ⟨mb, 0, none⟩)] true 1) * (bstar (fH th nm) 3 * (MemH pb M * (RefH mb M * hfix A.get)))))))))) := h7.cast (by ac_rfl)
          have h9 := h8.set (.cells ((three (bV th nm)).set t (.pointer (some ⟨bb, 0, none⟩))) true 1)
          obtain ⟨vo, vw, h10⟩ := RLockH.open (h9.cast (by ac_rfl : _ = RLockH bb ⟨t, lockL ls t, [], 0, false⟩ * (LockH ba ⟨t, lockL ls t, [], 0, false⟩ * (pt ab (.cells ((three (aV th nm)).set t (.pointer (some ⟨ba, 0, none⟩))) true 1) * (pt (ab + 1) (.cells ((three (bV th nm)).set t (.pointer (some ⟨bb, 0, none⟩))) true 1) * (pt (ab + 2) (.cells (three (cV th nm)) true 1) * (pt (ab + 3) (.cells (three (dV th nm)) true 1) * (pt pq (.cells [.pointer (some ⟨pb, 0, none⟩), .pointer (some ⟨mb, 0, none⟩)] true 1) * (bstar (fH th nm) 3 * (MemH pb M * (RefH mb M * hfix A.get)))))))))))
          have h11 := thrH.close (a := ba) (b := bb) (c := nm.c t) (d := nm.d t) (x := (⟨t, lockL ls t, [], 0, false⟩, none)) (vo := vo) (vw := vw) (h10.cast (by
            show _ = LockH ba ⟨t, lockL ls t, [], 0, false⟩ * (pt bb (bO ⟨t, lockL ls t, [], 0, false⟩ vo vw) * (IntsH .i64 vo (lockL ls t) * (IntsH .u64 vw [] * (hemp * (pt ab (.cells ((three (aV th nm)).set t (.pointer (some ⟨ba, 0, none⟩))) true 1) * (pt (ab + 1) (.cells ((three (bV th nm)).set t (.pointer (some ⟨bb, 0, none⟩))) true 1) * (pt (ab + 2) (.cells (three (cV th nm)) true 1) * (pt (ab + 3) (.cells (three (dV th nm)) true 1) * (pt pq (.cells [.pointer (some ⟨pb, 0, none⟩), .pointer (some ⟨mb, 0, none⟩)] true 1) * (bstar (fH th nm) 3 * (MemH pb M * (RefH mb M * hfix A.get))))))))))))
            rw [hemp_mul]
            unfold bO
            ac_rfl))
          refine h11.cast ?_
          have hin := fH_in th nm nm' ht3 (⟨t, lockL ls t, [], 0, false⟩, none) (fun u hu => by simp [hnm, hu])
          have e1 : nm'.a t = ba := by simp [hnm]
          have e2 : nm'.b t = bb := by simp [hnm]
          have e3 : nm'.c t = nm.c t := by simp [hnm]
          have e4 : nm'.d t = nm.d t := by simp [hnm]
          rw [e1, e2, e3, e4, ← hth'] at hin
          unfold FoH
          rw [ea, eb, ec, ed, ← hin, fH_absent nm ht3 hth]
          ac_rfl
      · have hbv : bV th nm t = .pointer (some ⟨nm.b t, 0, none⟩) := by simp [bV, hth, ptrV]
        rw [hbv] at hbl
        repeat' (first
        | (refine lwc fun R hR => ?_; simp [wrap_i64, wrap_u64, g0, g1, g7, g12, g13, g14, g15, g16, hgb, hbl, hti, AW.row_get]; try simp (disch := omega) only [if_pos, if_neg, wrap_i64, wrap_u64])
        | (refine hR _ _ ?_; clear hR R) | (refine hK _ _ ?_; clear hK K) | refine lwn ?_ | refine lr ?_ | refine la ?_
        | refine wn fun K hK => ?_
        | simp only [nops, nop, lops, lop, slimG, List.map_cons, List.map_nil, List.filterMap_cons, List.filterMap_nil, Option.map_none, Option.map_some, List.getElem?_toArray, List.getElem?_cons_zero, List.getElem?_cons_succ, Option.bind_some]
        | (refine wl Try.mx [(0,0),(1,0),(2,0),(3,0),(4,0),(7,0),(8,0),(9,0),(5,3),(6,3),(12,0),(10,3),(11,3),(13,3),(14,0),(15,3)] (by decide +kernel) fun K hK => ?_)
        | (refine wl Try.mx [(0,0),(1,0),(2,0),(4,0),(5,0),(6,0),(3,2),(7,2),(8,0),(9,0),(10,0),(11,0),(12,0),(14,0),(15,0),(16,0),(17,0),(18,0),(19,0),(13,2),(20,2),(21,0),(22,0)] (by decide +kernel) fun K hK => ?_)
        | (refine wl Try.mx [(0,0),(1,0),(2,0),(3,0),(4,0),(6,0),(7,0),(8,0),(9,0),(10,0),(5,2),(11,2),(12,0),(13,0),(14,0),(15,2),(16,0),(17,0)] (by decide +kernel) fun K hK => ?_)
        | (refine wl Try.mx [(0,0),(1,0),(2,0),(3,0),(4,0),(5,0),(6,0),(7,0),(8,0),(9,0),(10,0),(11,0),(12,0),(13,0),(15,0),(16,0),(17,0),(18,0),(19,0),(20,0),(21,0),(22,0),(23,0),(24,0),(25,0),(26,0),(14,2),(28,0),(27,2),(29,3),(30,0),(31,3)] (by decide +kernel) fun K hK => ?_)
        | (refine wl Try.mx [(0,0),(1,0),(2,0),(3,0),(4,0),(6,0),(7,0),(8,0),(9,0),(10,0),(5,2),(11,2),(12,0),(13,0),(14,0),(15,0),(16,0),(18,0),(19,0),(20,0),(17,2),(21,2),(22,0),(23,0),(24,0),(25,0),(26,2),(27,0),(28,0)] (by decide +kernel) fun K hK => ?_)
        | refine wb ?_ | refine wr ?_ | refine wk ?_ | refine we ?_ | refine ws ?_ | refine wq ?_
        | ((refine wc rfl (fun hc => ?_) (fun hc => ?_)) <;> (try simp at hc) <;> (try omega))
        | ((refine ib (fun hc => ?_) (fun hc => ?_)) <;> (try omega) <;> (try simp (disch := omega) only [if_pos, if_neg])))
        exact ⟨th, x, hth, by simp, by simp [g16], M, nm, by simp [g0], by simp [g1], by simp [g7], by simp [g12], by simp [g13], by simp [g14], by simp [g15], hw2, hI, hS⟩
    clear hgp hcp hS hI g0 g1 g7 g12 g13 g14 g15 g16 hk2 hw2
    rintro fr A2 ⟨th, ⟨s, r⟩, hth, g17, g16, M, nm, g0, g1, g7, g12, g13, g14, g15, hw2, hI, hS⟩
    obtain ⟨hF, hR⟩ := hI.ok t s r hth
    have hLk := lockL_ok ls t ht3
    have hLn := hLk.len
    have hol : s.old.length < 2^38 := by have := hF.len; omega
    have hor : s.orecs.length < 2^38 := by rw [hF.orecs]; omega
    obtain ⟨OA, hOA⟩ : ∃ OA : AObj, OA = .cells (three (aV th nm)) true 1 := ⟨_, rfl⟩
    obtain ⟨OB, hOB⟩ : ∃ OB : AObj, OB = .cells (three (bV th nm)) true 1 := ⟨_, rfl⟩
    obtain ⟨OC, hOC⟩ : ∃ OC : AObj, OC = .cells (three (cV th nm)) true 1 := ⟨_, rfl⟩
    obtain ⟨OD, hOD⟩ : ∃ OD : AObj, OD = .cells (three (dV th nm)) true 1 := ⟨_, rfl⟩
    obtain ⟨OP, hOP⟩ : ∃ OP : AObj, OP = .cells [.pointer (some ⟨pb, 0, none⟩), .pointer (some ⟨mb, 0, none⟩)] true 1 := ⟨_, rfl⟩
    obtain ⟨ZZ, hZZ⟩ : ∃ ZZ, ZZ = bstar (updH (fH th nm) t hemp) 3 := ⟨_, rfl⟩
    have hS3 : Sat A2 (thrH (nm.a t) (nm.b t) (nm.c t) (nm.d t) (s, r) * (pt ab OA * (pt (ab + 1) OB * (pt (ab + 2) OC * (pt (ab + 3) OD * (pt pq OP * (ZZ * (MemH pb M * (RefH mb M * hfix A.get))))))))) := hS.cast (by unfold FoH; rw [fH_out ht3 hth, ← hOA, ← hOB, ← hOC, ← hOD, ← hOP, ← hZZ]; ac_rfl)
    obtain ⟨vo, vw, hS4⟩ := thrH.open hS3
    dsimp only at hS4
    have hSb : Sat A2 (pt (nm.b t) (bO s vo vw) * (IntsH .i64 vo s.orecs * (IntsH .u64 vw s.old * (LockH (nm.a t) s * (relR (nm.c t) (nm.d t) vo vw s r * (pt ab OA * (pt (ab + 1) OB * (pt (ab + 2) OC * (pt (ab + 3) OD * (pt pq OP * (ZZ * (MemH pb M * (RefH mb M * hfix A.get))))))))))))) := hS4.cast (by ac_rfl)
    have hSs : Sat A2 (pt ab OA * (pt (ab + 1) OB * (pt (ab + 2) OC * (pt (ab + 3) OD * (pt pq OP * (LockH (nm.a t) s * (pt (nm.b t) (bO s vo vw) * (IntsH .i64 vo s.orecs * (IntsH .u64 vw s.old * (relR (nm.c t) (nm.d t) vo vw s r * (ZZ * (MemH pb M * (RefH mb M * hfix A.get))))))))))))) := hS4.cast (by ac_rfl)
    have hga := hSs.get
    have hgb := hSs.right.get
    have hgc := hSs.right.right.get
    have hgd := hSs.right.right.right.get
    have hgq := hSs.right.right.right.right.get
    have hbo := hSb.get
    have hal := three_get (aV th nm) ht3
    have hbl := three_get (bV th nm) ht3
    have hav : aV th nm t = .pointer (some ⟨nm.a t, 0, none⟩) := by simp [aV, hth, ptrV]
    have hbv : bV th nm t = .pointer (some ⟨nm.b t, 0, none⟩) := by simp [bV, hth, ptrV]
    rw [hav] at hal
    rw [hbv] at hbl
    rw [hOA] at hga
    rw [hOB] at hgb
    unfold bO at hbo
    have hvwi := IntsH.is hSb.right.right
    have hrD : ∀ B : AW, A2.le B → ACall Try.prog 22 [.pointer (some ⟨nm.b t, 0, none⟩)] B (fun v A' => v = .bool s.done ∧ B = A') := fun B hle =>
      rlockDone_call (nm.b t) s B _ ((RLockH.close (vo := vo) (vw := vw) (hSb.cast (by unfold bO; rfl))).le hw2 hle)
    repeat' (first
    | (refine lwc fun R hR => ?_; simp [wrap_i64, wrap_u64, g0, g1, g7, g12, g13, g14, g15, g16, g17, hga, hal, hgb, hbl, hbo, hti, AW.row_get]; try simp (disch := omega) only [if_pos, if_neg, wrap_i64, wrap_u64])
    | (refine hR _ _ ?_; clear hR R) | (refine hK _ _ ?_; clear hK K) | refine lwn ?_ | refine lr ?_ | refine la ?_
    | refine wn fun K hK => ?_
    | simp only [nops, nop, lops, lop, slimG, List.map_cons, List.map_nil, List.filterMap_cons, List.filterMap_nil, Option.map_none, Option.map_some, List.getElem?_toArray, List.getElem?_cons_zero, List.getElem?_cons_succ, Option.bind_some]
    | (refine wl Try.mx [(0,0),(1,0),(2,0),(3,0),(4,0),(7,0),(8,0),(9,0),(5,3),(6,3),(12,0),(10,3),(11,3),(13,3),(14,0),(15,3)] (by decide +kernel) fun K hK => ?_)
    | (refine wl Try.mx [(0,0),(1,0),(2,0),(4,0),(5,0),(6,0),(3,2),(7,2),(8,0),(9,0),(10,0),(11,0),(12,0),(14,0),(15,0),(16,0),(17,0),(18,0),(19,0),(13,2),(20,2),(21,0),(22,0)] (by decide +kernel) fun K hK => ?_)
    | (refine wl Try.mx [(0,0),(1,0),(2,0),(3,0),(4,0),(6,0),(7,0),(8,0),(9,0),(10,0),(5,2),(11,2),(12,0),(13,0),(14,0),(15,2),(16,0),(17,0)] (by decide +kernel) fun K hK => ?_)
    | (refine wl Try.mx [(0,0),(1,0),(2,0),(3,0),(4,0),(5,0),(6,0),(7,0),(8,0),(9,0),(10,0),(11,0),(12,0),(13,0),(15,0),(16,0),(17,0),(18,0),(19,0),(20,0),(21,0),(22,0),(23,0),(24,0),(25,0),(26,0),(14,2),(28,0),(27,2),(29,3),(30,0),(31,3)] (by decide +kernel) fun K hK => ?_)
    | (refine wl Try.mx [(0,0),(1,0),(2,0),(3,0),(4,0),(6,0),(7,0),(8,0),(9,0),(10,0),(5,2),(11,2),(12,0),(13,0),(14,0),(15,0),(16,0),(18,0),(19,0),(20,0),(17,2),(21,2),(22,0),(23,0),(24,0),(25,0),(26,2),(27,0),(28,0)] (by decide +kernel) fun K hK => ?_)
    | (refine callK (lockDone_call (nm.a t) s _ _ hS4) ?_; rintro _ _ ⟨rfl, rfl⟩ _ _)
    | (refine callK (hrD _ (AW.le.refl _)) ?_; rintro _ _ ⟨rfl, rfl⟩ _ _)
    | refine wb ?_ | refine wr ?_ | refine wk ?_ | refine we ?_ | refine ws ?_ | refine wq ?_
    | ((refine wc rfl (fun hc => ?_) (fun hc => ?_)) <;> (try simp at hc) <;> (try omega))
    | ((refine ib (fun hc => ?_) (fun hc => ?_)) <;> (try omega) <;> (try simp (disch := omega) only [if_pos, if_neg])))
    refine callK (lockOld_call (nm.a t) s A2 _ hS4 hol) ?_
    rintro vq B1 ⟨o1, l1⟩ x1 _
    refine ⟨l1, ?_⟩
    have hgb1 := l1.keep hw2 hgb
    repeat' (first
    | (refine lwc fun R hR => ?_; simp [wrap_i64, wrap_u64, g0, g1, g7, g12, g13, g14, g15, g16, g17, hgb1, hbl, hti, AW.row_get]; try simp (disch := omega) only [if_pos, if_neg, wrap_i64, wrap_u64])
    | (refine hR _ _ ?_; clear hR R) | (refine hK _ _ ?_; clear hK K) | refine lwn ?_ | refine lr ?_ | refine la ?_
    | refine wn fun K hK => ?_
    | simp only [nops, nop, lops, lop, slimG, List.map_cons, List.map_nil, List.filterMap_cons, List.filterMap_nil, Option.map_none, Option.map_some, List.getElem?_toArray, List.getElem?_cons_zero, List.getElem?_cons_succ, Option.bind_some]
    | (refine wl Try.mx [(0,0),(1,0),(2,0),(3,0),(4,0),(7,0),(8,0),(9,0),(5,3),(6,3),(12,0),(10,3),(11,3),(13,3),(14,0),(15,3)] (by decide +kernel) fun K hK => ?_)
    | (refine wl Try.mx [(0,0),(1,0),(2,0),(4,0),(5,0),(6,0),(3,2),(7,2),(8,0),(9,0),(10,0),(11,0),(12,0),(14,0),(15,0),(16,0),(17,0),(18,0),(19,0),(13,2),(20,2),(21,0),(22,0)] (by decide +kernel) fun K hK => ?_)
    | (refine wl Try.mx [(0,0),(1,0),(2,0),(3,0),(4,0),(6,0),(7,0),(8,0),(9,0),(10,0),(5,2),(11,2),(12,0),(13,0),(14,0),(15,2),(16,0),(17,0)] (by decide +kernel) fun K hK => ?_)
    | (refine wl Try.mx [(0,0),(1,0),(2,0),(3,0),(4,0),(5,0),(6,0),(7,0),(8,0),(9,0),(10,0),(11,0),(12,0),(13,0),(15,0),(16,0),(17,0),(18,0),(19,0),(20,0),(21,0),(22,0),(23,0),(24,0),(25,0),(26,0),(14,2),(28,0),(27,2),(29,3),(30,0),(31,3)] (by decide +kernel) fun K hK => ?_)
    | (refine wl Try.mx [(0,0),(1,0),(2,0),(3,0),(4,0),(6,0),(7,0),(8,0),(9,0),(10,0),(5,2),(11,2),(12,0),(13,0),(14,0),(15,0),(16,0),(18,0),(19,0),(20,0),(17,2),(21,2),(22,0),(23,0),(24,0),(25,0),(26,2),(27,0),(28,0)] (by decide +kernel) fun K hK => ?_)
    | (refine callK (words_call vq vw s.old s.old B1 o1.is (hvwi.le l1 hw2) (by omega)) ?_; rintro _ _ ⟨rfl, rfl⟩ _ _)
    | refine wb ?_ | refine wr ?_ | refine wk ?_ | refine we ?_ | refine ws ?_ | refine wq ?_
    | ((refine wc rfl (fun hc => ?_) (fun hc => ?_)) <;> (try simp at hc) <;> (try omega))
    | ((refine ib (fun hc => ?_) (fun hc => ?_)) <;> (try omega) <;> (try simp (disch := omega) only [if_pos, if_neg])))
    refine callK (hrD B1 l1) ?_
    rintro _ _ ⟨rfl, rfl⟩ _ _
    repeat' (first
    | (refine lwc fun R hR => ?_; simp [wrap_i64, wrap_u64]; try simp (disch := omega) only [if_pos, if_neg, wrap_i64, wrap_u64])
    | (refine hR _ _ ?_; clear hR R) | refine lwn ?_ | refine lr ?_ | refine la ?_
    | simp only [nops, nop, lops, lop, slimG, List.map_cons, List.map_nil, List.filterMap_cons, List.filterMap_nil, Option.map_none, Option.map_some, List.getElem?_toArray, List.getElem?_cons_zero, List.getElem?_cons_succ, Option.bind_some]
    | ((refine ib (fun hc => ?_) (fun hc => ?_)) <;> (try omega) <;> (try simp (disch := omega) only [if_pos, if_neg])))
    refine hK _ _ ?_
    clear hK
    refine wc rfl (fun hc => ?_) (fun hc => ?_)
    · have hd : s.done = false := by simpa using hc
      have hr : r = none := by
        cases r with
        | none => rfl
        | some k => have := (hR k rfl).1; rw [hd] at this; cases this
      subst hr
      obtain ⟨f1, f2, f3, f4⟩ := fok_step ht3 hLk hF hI.w6 hI.wd
      have hS5 := hS4.le hw2 l1
      have hga1 := l1.keep hw2 hga
      have hgq1 := l1.keep hw2 hgq
      have hgb1' := hgb1
      rw [hOP] at hgq1
      rw [← hOB] at hgb1'
      obtain ⟨X1, hX1⟩ : ∃ X1, X1 = lockStep s M := ⟨_, rfl⟩
      rw [← hX1] at f1 f2 f3 f4
      repeat' (first
      | (refine lwc fun R hR => ?_; simp [wrap_i64, wrap_u64, g0, g1, g7, g12, g13, g14, g15, g16, g17, hga1, hal, hgb1, hbl, hgq1, hti, AW.row_get]; try simp (disch := omega) only [if_pos, if_neg, wrap_i64, wrap_u64])
      | (refine hR _ _ ?_; clear hR R) | (refine hK _ _ ?_; clear hK K) | refine lwn ?_ | refine lr ?_ | refine la ?_
      | refine wn fun K hK => ?_
      | simp only [nops, nop, lops, lop, slimG, List.map_cons, List.map_nil, List.filterMap_cons, List.filterMap_nil, Option.map_none, Option.map_some, List.getElem?_toArray, List.getElem?_cons_zero, List.getElem?_cons_succ, Option.bind_some]
      | (refine wl Try.mx [(0,0),(1,0),(2,0),(3,0),(4,0),(7,0),(8,0),(9,0),(5,3),(6,3),(12,0),(10,3),(11,3),(13,3),(14,0),(15,3)] (by decide +kernel) fun K hK => ?_)
      | (refine wl Try.mx [(0,0),(1,0),(2,0),(4,0),(5,0),(6,0),(3,2),(7,2),(8,0),(9,0),(10,0),(11,0),(12,0),(14,0),(15,0),(16,0),(17,0),(18,0),(19,0),(13,2),(20,2),(21,0),(22,0)] (by decide +kernel) fun K hK => ?_)
      | (refine wl Try.mx [(0,0),(1,0),(2,0),(3,0),(4,0),(5,0),(6,0),(7,0),(8,0),(9,0),(10,0),(11,0),(12,0),(13,0),(15,0),(16,0),(17,0),(18,0),(19,0),(20,0),(21,0),(22,0),(23,0),(24,0),(25,0),(26,0),(14,2),(28,0),(27,2),(29,3),(30,0),(31,3)] (by decide +kernel) fun K hK => ?_)
      | (refine wl Try.mx [(0,0),(1,0),(2,0),(3,0),(4,0),(6,0),(7,0),(8,0),(9,0),(10,0),(5,2),(11,2),(12,0),(13,0),(14,0),(15,0),(16,0),(18,0),(19,0),(20,0),(17,2),(21,2),(22,0),(23,0),(24,0),(25,0),(26,2),(27,0),(28,0)] (by decide +kernel) fun K hK => ?_)
      | (refine ⟨fun A' h1 h2 => by simp [h1, h2, hbl], ?_⟩)
      | (refine wlS (fun A' => A'.get (ab + 1) = some (.cells (three (bV th nm)) true 1) ∧ A'.get pq = some (.cells [.pointer (some ⟨pb, 0, none⟩), .pointer (some ⟨mb, 0, none⟩)] true 1)) Try.mx [(0, 0), (1, 0), (2, 0), (3, 0), (4, 0), (6, 0), (7, 0), (8, 1), (9, 0), (10, 1), (5, 3), (11, 3), (12, 0), (13, 0), (14, 0), (15, 3), (16, 0), (17, 0)] (by decide +kernel) fun K hK => ?_)
      | refine wb ?_ | refine wr ?_ | refine wk ?_ | refine we ?_ | refine ws ?_ | refine wq ?_
      | ((refine wc rfl (fun hc => ?_) (fun hc => ?_)) <;> (try simp at hc) <;> (try omega))
      | ((refine ib (fun hc => ?_) (fun hc => ?_)) <;> (try omega) <;> (try simp (disch := omega) only [if_pos, if_neg])))
      refine (lockStep_call (nm.a t) pb s M (by rw [hF.orecs]; exact hF.len) hor).use x1 hS5 (by ac_rfl : _ = (LockH (nm.a t) s * MemH pb M) * (pt (ab + 1) OB * (pt pq OP * (pt (nm.b t) (bO s vo vw) * (IntsH .i64 vo s.orecs * (IntsH .u64 vw s.old * (relR (nm.c t) (nm.d t) vo vw s none * (pt ab OA * (pt (ab + 2) OC * (pt (ab + 3) OD * (ZZ * (RefH mb M * hfix A.get)))))))))))) ?_
      intro v B2 hU x2 _
      obtain ⟨rfl, hY⟩ := hU.unpost
      clear hU
      rw [← hX1] at hY ⊢
      have hY1 : Sat B2 (pt (ab + 1) OB * (pt pq OP * (pt (nm.b t) (bO s vo vw) * (IntsH .i64 vo s.orecs * (IntsH .u64 vw s.old * (LockH (nm.a t) X1.2.1 * (MemH pb X1.2.2 * (pt ab OA * (pt (ab + 2) OC * (pt (ab + 3) OD * (ZZ * (RefH mb M * hfix A.get)))))))))))) := Sat.right (P := relR (nm.c t) (nm.d t) vo vw s none) (hY.cast (by ac_rfl))
      refine ⟨⟨by rw [← hOB]; exact hY1.get, by rw [← hOP]; exact hY1.right.get⟩, ?_⟩
      repeat' (first
      | (refine lwc fun R hR => ?_; simp [wrap_i64, wrap_u64, AW.row_get]; try simp (disch := omega) only [if_pos, if_neg, wrap_i64, wrap_u64])
      | (refine hR _ _ ?_; clear hR R) | (refine hK _ _ ?_; clear hK K) | refine lwn ?_ | refine lr ?_ | refine la ?_
      | refine wn fun K hK => ?_
      | simp only [nops, nop, lops, lop, slimG, List.map_cons, List.map_nil, List.filterMap_cons, List.filterMap_nil, Option.map_none, Option.map_some, List.getElem?_toArray, List.getElem?_cons_zero, List.getElem?_cons_succ, Option.bind_some]
      | (refine wl Try.mx [(0,0),(1,0),(2,0),(3,0),(4,0),(7,0),(8,0),(9,0),(5,3),(6,3),(12,0),(10,3),(11,3),(13,3),(14,0),(15,3)] (by decide +kernel) fun K hK => ?_)
      | (refine wl Try.mx [(0,0),(1,0),(2,0),(4,0),(5,0),(6,0),(3,2),(7,2),(8,0),(9,0),(10,0),(11,0),(12,0),(14,0),(15,0),(16,0),(17,0),(18,0),(19,0),(13,2),(20,2),(21,0),(22,0)] (by decide +kernel) fun K hK => ?_)
      | (refine wl Try.mx [(0,0),(1,0),(2,0),(3,0),(4,0),(6,0),(7,0),(8,0),(9,0),(10,0),(5,2),(11,2),(12,0),(13,0),(14,0),(15,2),(16,0),(17,0)] (by decide +kernel) fun K hK => ?_)
      | (refine wl Try.mx [(0,0),(1,0),(2,0),(3,0),(4,0),(5,0),(6,0),(7,0),(8,0),(9,0),(10,0),(11,0),(12,0),(13,0),(15,0),(16,0),(17,0),(18,0),(19,0),(20,0),(21,0),(22,0),(23,0),(24,0),(25,0),(26,0),(14,2),(28,0),(27,2),(29,3),(30,0),(31,3)] (by decide +kernel) fun K hK => ?_)
      | (refine wl Try.mx [(0,0),(1,0),(2,0),(3,0),(4,0),(6,0),(7,0),(8,0),(9,0),(10,0),(5,2),(11,2),(12,0),(13,0),(14,0),(15,0),(16,0),(18,0),(19,0),(20,0),(17,2),(21,2),(22,0),(23,0),(24,0),(25,0),(26,2),(27,0),(28,0)] (by decide +kernel) fun K hK => ?_)
      | refine wb ?_ | refine wr ?_ | refine wk ?_ | refine we ?_ | refine ws ?_ | refine wq ?_
      | ((refine wc rfl (fun hc => ?_) (fun hc => ?_)) <;> (try simp at hc) <;> (try omega))
      | ((refine ib (fun hc => ?_) (fun hc => ?_)) <;> (try omega) <;> (try simp (disch := omega) only [if_pos, if_neg])))
      have hY2 := RLockH.close (vo := vo) (vw := vw) (s := s) (hY1.cast (by unfold bO; ac_rfl : _ = pt (nm.b t) (.cells [.int .i64 s.thread, vo, vw, .bool s.loaded, .int .u64 s.seen] true 1) * (IntsH .i64 vo s.orecs * (IntsH .u64 vw s.old * (pt (ab + 1) OB * (pt pq OP * (LockH (nm.a t) X1.2.1 * (MemH pb X1.2.2 * (pt ab OA * (pt (ab + 2) OC * (pt (ab + 3) OD * (ZZ * (RefH mb M * hfix A.get)))))))))))))
      refine (rlockStep_call (nm.b t) mb s M hI.ref (by rw [hF.orecs]; exact hF.len) hor).use x2 hY2 (by ac_rfl : _ = (RLockH (nm.b t) s * RefH mb M) * (pt (ab + 1) OB * (pt pq OP * (LockH (nm.a t) X1.2.1 * (MemH pb X1.2.2 * (pt ab OA * (pt (ab + 2) OC * (pt (ab + 3) OD * (ZZ * hfix A.get))))))))) ?_
      intro v B3 hU x3 _
      rw [f4] at hU
      obtain ⟨rfl, hY3⟩ := hU.unpost
      clear hU
      have hY4 : Sat B3 (pt (ab + 1) OB * (pt pq OP * (RLockH (nm.b t) X1.2.1 * (LockH (nm.a t) X1.2.1 * (pt ab OA * (pt (ab + 2) OC * (pt (ab + 3) OD * (ZZ * (MemH pb X1.2.2 * (RefH mb X1.2.2 * hfix A.get)))))))))) := hY3.cast (by ac_rfl)
      have hgb3 := hY4.get
      have hgq3 := hY4.right.get
      rw [hOB] at hgb3
      rw [hOP] at hgq3
      refine ⟨⟨hgb3, hgq3⟩, ?_⟩
      obtain ⟨ac, hac⟩ : ∃ ac, ac = X1.1 := ⟨_, rfl⟩
      rw [← hac]
      repeat' (first
      | (refine lwc fun R hR => ?_; simp [wrap_i64, wrap_u64, AW.row_get, Acc.v, hgq3, g7]; try simp (disch := omega) only [if_pos, if_neg, wrap_i64, wrap_u64])
      | (refine hR _ _ ?_; clear hR R) | (refine hK _ _ ?_; clear hK K) | refine lwn ?_ | refine lr ?_ | refine la ?_
      | refine wn fun K hK => ?_
      | simp only [nops, nop, lops, lop, slimG, List.map_cons, List.map_nil, List.filterMap_cons, List.filterMap_nil, Option.map_none, Option.map_some, List.getElem?_toArray, List.getElem?_cons_zero, List.getElem?_cons_succ, Option.bind_some]
      | (refine wl Try.mx [(0,0),(1,0),(2,0),(3,0),(4,0),(7,0),(8,0),(9,0),(5,3),(6,3),(12,0),(10,3),(11,3),(13,3),(14,0),(15,3)] (by decide +kernel) fun K hK => ?_)
      | (refine wl Try.mx [(0,0),(1,0),(2,0),(4,0),(5,0),(6,0),(3,2),(7,2),(8,0),(9,0),(10,0),(11,0),(12,0),(14,0),(15,0),(16,0),(17,0),(18,0),(19,0),(13,2),(20,2),(21,0),(22,0)] (by decide +kernel) fun K hK => ?_)
      | (refine wl Try.mx [(0,0),(1,0),(2,0),(3,0),(4,0),(6,0),(7,0),(8,0),(9,0),(10,0),(5,2),(11,2),(12,0),(13,0),(14,0),(15,2),(16,0),(17,0)] (by decide +kernel) fun K hK => ?_)
      | (refine wl Try.mx [(0,0),(1,0),(2,0),(3,0),(4,0),(5,0),(6,0),(7,0),(8,0),(9,0),(10,0),(11,0),(12,0),(13,0),(15,0),(16,0),(17,0),(18,0),(19,0),(20,0),(21,0),(22,0),(23,0),(24,0),(25,0),(26,0),(14,2),(28,0),(27,2),(29,3),(30,0),(31,3)] (by decide +kernel) fun K hK => ?_)
      | (refine wl Try.mx [(0,0),(1,0),(2,0),(3,0),(4,0),(6,0),(7,0),(8,0),(9,0),(10,0),(5,2),(11,2),(12,0),(13,0),(14,0),(15,0),(16,0),(18,0),(19,0),(20,0),(17,2),(21,2),(22,0),(23,0),(24,0),(25,0),(26,2),(27,0),(28,0)] (by decide +kernel) fun K hK => ?_)
      | refine wb ?_ | refine wr ?_ | refine wk ?_ | refine we ?_ | refine ws ?_ | refine wq ?_
      | ((refine wc rfl (fun hc => ?_) (fun hc => ?_)) <;> (try simp at hc) <;> (try omega))
      | ((refine ib (fun hc => ?_) (fun hc => ?_)) <;> (try omega) <;> (try simp (disch := omega) only [if_pos, if_neg])))
      refine callK (pairSame_call pb mb X1.2.2 B3 _ (hY4.cast (by ac_rfl : _ = MemH pb X1.2.2 * (RefH mb X1.2.2 * (pt (ab + 1) OB * (pt pq OP * (RLockH (nm.b t) X1.2.1 * (LockH (nm.a t) X1.2.1 * (pt ab OA * (pt (ab + 2) OC * (pt (ab + 3) OD * (ZZ * hfix A.get))))))))))) f2.len ⟨f2.l2, f2.l3, f2.l4⟩) ?_
      rintro _ B4 ⟨rfl, l4⟩ x4 _
      refine ⟨⟨l4.keep x3 hgb3, l4.keep x3 hgq3⟩, ?_⟩
      repeat' (first
      | (refine lwc fun R hR => ?_; simp [wrap_i64, wrap_u64, g0, g1, g7, g12, g13, g14, g15, g16, g17, hj1, AW.row_get]; try simp (disch := omega) only [if_pos, if_neg, wrap_i64, wrap_u64])
      | (refine hR _ _ ?_; clear hR R) | (refine hK _ _ ?_; clear hK K) | refine lwn ?_ | refine lr ?_ | refine la ?_
      | refine wn fun K hK => ?_
      | simp only [nops, nop, lops, lop, slimG, List.map_cons, List.map_nil, List.filterMap_cons, List.filterMap_nil, Option.map_none, Option.map_some, List.getElem?_toArray, List.getElem?_cons_zero, List.getElem?_cons_succ, Option.bind_some]
      | (refine wl Try.mx [(0,0),(1,0),(2,0),(3,0),(4,0),(7,0),(8,0),(9,0),(5,3),(6,3),(12,0),(10,3),(11,3),(13,3),(14,0),(15,3)] (by decide +kernel) fun K hK => ?_)
      | (refine wl Try.mx [(0,0),(1,0),(2,0),(4,0),(5,0),(6,0),(3,2),(7,2),(8,0),(9,0),(10,0),(11,0),(12,0),(14,0),(15,0),(16,0),(17,0),(18,0),(19,0),(13,2),(20,2),(21,0),(22,0)] (by decide +kernel) fun K hK => ?_)
      | (refine wl Try.mx [(0,0),(1,0),(2,0),(3,0),(4,0),(6,0),(7,0),(8,0),(9,0),(10,0),(5,2),(11,2),(12,0),(13,0),(14,0),(15,2),(16,0),(17,0)] (by decide +kernel) fun K hK => ?_)
      | (refine wl Try.mx [(0,0),(1,0),(2,0),(3,0),(4,0),(5,0),(6,0),(7,0),(8,0),(9,0),(10,0),(11,0),(12,0),(13,0),(15,0),(16,0),(17,0),(18,0),(19,0),(20,0),(21,0),(22,0),(23,0),(24,0),(25,0),(26,0),(14,2),(28,0),(27,2),(29,3),(30,0),(31,3)] (by decide +kernel) fun K hK => ?_)
      | (refine wl Try.mx [(0,0),(1,0),(2,0),(3,0),(4,0),(6,0),(7,0),(8,0),(9,0),(10,0),(5,2),(11,2),(12,0),(13,0),(14,0),(15,0),(16,0),(18,0),(19,0),(20,0),(17,2),(21,2),(22,0),(23,0),(24,0),(25,0),(26,2),(27,0),(28,0)] (by decide +kernel) fun K hK => ?_)
      | refine wb ?_ | refine wr ?_ | refine wk ?_ | refine we ?_ | refine ws ?_ | refine wq ?_
      | ((refine wc rfl (fun hc => ?_) (fun hc => ?_)) <;> (try simp at hc) <;> (try omega))
      | ((refine ib (fun hc => ?_) (fun hc => ?_)) <;> (try omega) <;> (try simp (disch := omega) only [if_pos, if_neg])))
      obtain ⟨vo', vw', hY5⟩ := RLockH.open ((hY4.le x3 l4).cast (by ac_rfl : _ = RLockH (nm.b t) X1.2.1 * (LockH (nm.a t) X1.2.1 * (pt (ab + 1) OB * (pt pq OP * (pt ab OA * (pt (ab + 2) OC * (pt (ab + 3) OD * (ZZ * (MemH pb X1.2.2 * (RefH mb X1.2.2 * hfix A.get)))))))))))
      have hY6 := thrH.close (a := nm.a t) (b := nm.b t) (c := nm.c t) (d := nm.d t) (x := (X1.2.1, none)) (vo := vo') (vw := vw') (hY5.cast (by
        show _ = LockH (nm.a t) X1.2.1 * (pt (nm.b t) (bO X1.2.1 vo' vw') * (IntsH .i64 vo' X1.2.1.orecs * (IntsH .u64 vw' X1.2.1.old * (hemp * (pt (ab + 1) OB * (pt pq OP * (pt ab OA * (pt (ab + 2) OC * (pt (ab + 3) OD * (ZZ * (MemH pb X1.2.2 * (RefH mb X1.2.2 * hfix A.get))))))))))))
        rw [hemp_mul]
        unfold bO
        ac_rfl))
      obtain ⟨th', hth'⟩ : ∃ th' : FTs, th' = updF th t (some (X1.2.1, none)) := ⟨_, rfl⟩
      refine ⟨picks.length - (j + 1), by omega, j + 1, th', rfl, by omega, by simp, X1.2.2, nm, by simp [g0], by simp [g1], by simp [g7], by simp [g12], by simp [g13], by simp [g14], by simp [g15], x4, by rw [hth']; exact hI.put f2 f3 f1 (fun k hk => by cases hk), ?_⟩
      have e : ∀ u, (th' u).isSome = (th u).isSome ∧ isRel (th' u) = isRel (th u) := fun u => by
        by_cases hu : u = t
        · subst hu; simp [hth', updF, hth, isRel]
        · simp [hth', updF, hu]
      refine hY6.cast ?_
      have hin := fH_in th nm nm ht3 (X1.2.1, none) (fun u hu => ⟨rfl, rfl, rfl, rfl⟩)
      rw [← hth', ← hZZ] at hin
      unfold FoH
      rw [← hin, ← three_eq (aV th nm) (aV th' nm) (fun u => by simp [aV, (e u).1]), ← three_eq (bV th nm) (bV th' nm) (fun u => by simp [bV, (e u).1]), ← three_eq (cV th nm) (cV th' nm) (fun u => by simp [cV, (e u).2]), ← three_eq (dV th nm) (dV th' nm) (fun u => by simp [dV, (e u).2]), ← hOA, ← hOB, ← hOC, ← hOD, ← hOP]
      ac_rfl
    have hd : s.done = true := by simpa using hc
    refine wk ?_
    refine wq ?_
    refine awp_join (fun fr' A3 => ∃ th s k, th t = some (s, some k) ∧ fr' 17 = .int .i64 t ∧ fr' 16 = .int .i64 j ∧ FoJ pb pq mb ab A ls ol (some pp) ls.length cl picks.length cp th fr' A3) ?_ ?_
    · have hdl := three_get (dV th nm) ht3
      have hgd1 := l1.keep hw2 hgd
      have hgc1 := l1.keep hw2 hgc
      rw [hOD] at hgd1
      rw [hOC] at hgc1
      cases r with
      | some k =>
        have hdv : dV th nm t = .pointer (some ⟨nm.d t, 0, none⟩) := by simp [dV, hth, isRel, ptrV]
        rw [hdv] at hdl
        repeat' (first
        | (refine lwc fun R hR => ?_; simp [wrap_i64, wrap_u64, g0, g1, g7, g12, g13, g14, g15, g16, g17, hgd1, hdl, hti, AW.row_get]; try simp (disch := omega) only [if_pos, if_neg, wrap_i64, wrap_u64])
        | (refine hR _ _ ?_; clear hR R) | (refine hK _ _ ?_; clear hK K) | refine lwn ?_ | refine lr ?_ | refine la ?_
        | refine wn fun K hK => ?_
        | simp only [nops, nop, lops, lop, slimG, List.map_cons, List.map_nil, List.filterMap_cons, List.filterMap_nil, Option.map_none, Option.map_some, List.getElem?_toArray, List.getElem?_cons_zero, List.getElem?_cons_succ, Option.bind_some]
        | (refine wl Try.mx [(0,0),(1,0),(2,0),(3,0),(4,0),(7,0),(8,0),(9,0),(5,3),(6,3),(12,0),(10,3),(11,3),(13,3),(14,0),(15,3)] (by decide +kernel) fun K hK => ?_)
        | (refine wl Try.mx [(0,0),(1,0),(2,0),(4,0),(5,0),(6,0),(3,2),(7,2),(8,0),(9,0),(10,0),(11,0),(12,0),(14,0),(15,0),(16,0),(17,0),(18,0),(19,0),(13,2),(20,2),(21,0),(22,0)] (by decide +kernel) fun K hK => ?_)
        | (refine wl Try.mx [(0,0),(1,0),(2,0),(3,0),(4,0),(6,0),(7,0),(8,0),(9,0),(10,0),(5,2),(11,2),(12,0),(13,0),(14,0),(15,2),(16,0),(17,0)] (by decide +kernel) fun K hK => ?_)
        | (refine wl Try.mx [(0,0),(1,0),(2,0),(3,0),(4,0),(5,0),(6,0),(7,0),(8,0),(9,0),(10,0),(11,0),(12,0),(13,0),(15,0),(16,0),(17,0),(18,0),(19,0),(20,0),(21,0),(22,0),(23,0),(24,0),(25,0),(26,0),(14,2),(28,0),(27,2),(29,3),(30,0),(31,3)] (by decide +kernel) fun K hK => ?_)
        | (refine wl Try.mx [(0,0),(1,0),(2,0),(3,0),(4,0),(6,0),(7,0),(8,0),(9,0),(10,0),(5,2),(11,2),(12,0),(13,0),(14,0),(15,0),(16,0),(18,0),(19,0),(20,0),(17,2),(21,2),(22,0),(23,0),(24,0),(25,0),(26,2),(27,0),(28,0)] (by decide +kernel) fun K hK => ?_)
        | refine wb ?_ | refine wr ?_ | refine wk ?_ | refine we ?_ | refine ws ?_ | refine wq ?_
        | ((refine wc rfl (fun hc => ?_) (fun hc => ?_)) <;> (try simp at hc) <;> (try omega))
        | ((refine ib (fun hc => ?_) (fun hc => ?_)) <;> (try omega) <;> (try simp (disch := omega) only [if_pos, if_neg])))
        exact ⟨th, s, k, hth, by simp [g17], by simp [g16], M, nm, by simp [g0], by simp [g1], by simp [g7], by simp [g12], by simp [g13], by simp [g14], by simp [g15], x1, hI, hS.le hw2 l1⟩
      | none =>
        have hdv : dV th nm t = .pointer none := by simp [dV, hth, isRel]
        rw [hdv] at hdl
        have hlen : s.old.length = s.orecs.length := by simpa [LockS.done] using hd
        obtain ⟨oo, co, hvo, hoc⟩ := (IntsH.is hSb.right).form
        obtain ⟨ow', cw', hvw, hwc⟩ := hvwi.form
        have hns : ∀ B : AW, ACall Try.prog 29 [.int .i64 2, vo, vw] B (fun v A' => v = .pointer (some ⟨B.next, 0, none⟩) ∧ A' = B.alloc (storesO 2 vo vw 0)) := fun B => by
          rw [hvo, hvw, hlen]
          exact newStores_call 2 oo ow' _ co cw' B hoc (by omega)
        have hbo1 := l1.keep hw2 hbo
        repeat' (first
        | (refine lwc fun R hR => ?_; simp [wrap_i64, wrap_u64, g0, g1, g7, g12, g13, g14, g15, g16, g17, hgd1, hdl, hgb1, hbl, hbo1, hti, AW.row_get]; try simp (disch := omega) only [if_pos, if_neg, wrap_i64, wrap_u64])
        | (refine hR _ _ ?_; clear hR R) | (refine hK _ _ ?_; clear hK K) | refine lwn ?_ | refine lr ?_ | refine la ?_
        | refine wn fun K hK => ?_
        | simp only [nops, nop, lops, lop, slimG, List.map_cons, List.map_nil, List.filterMap_cons, List.filterMap_nil, Option.map_none, Option.map_some, List.getElem?_toArray, List.getElem?_cons_zero, List.getElem?_cons_succ, Option.bind_some]
        | (refine wl Try.mx [(0,0),(1,0),(2,0),(3,0),(4,0),(7,0),(8,0),(9,0),(5,3),(6,3),(12,0),(10,3),(11,3),(13,3),(14,0),(15,3)] (by decide +kernel) fun K hK => ?_)
        | (refine wl Try.mx [(0,0),(1,0),(2,0),(4,0),(5,0),(6,0),(3,2),(7,2),(8,0),(9,0),(10,0),(11,0),(12,0),(14,0),(15,0),(16,0),(17,0),(18,0),(19,0),(13,2),(20,2),(21,0),(22,0)] (by decide +kernel) fun K hK => ?_)
        | (refine wl Try.mx [(0,0),(1,0),(2,0),(3,0),(4,0),(6,0),(7,0),(8,0),(9,0),(10,0),(5,2),(11,2),(12,0),(13,0),(14,0),(15,2),(16,0),(17,0)] (by decide +kernel) fun K hK => ?_)
        | (refine wl Try.mx [(0,0),(1,0),(2,0),(3,0),(4,0),(5,0),(6,0),(7,0),(8,0),(9,0),(10,0),(11,0),(12,0),(13,0),(15,0),(16,0),(17,0),(18,0),(19,0),(20,0),(21,0),(22,0),(23,0),(24,0),(25,0),(26,0),(14,2),(28,0),(27,2),(29,3),(30,0),(31,3)] (by decide +kernel) fun K hK => ?_)
        | (refine wl Try.mx [(0,0),(1,0),(2,0),(3,0),(4,0),(6,0),(7,0),(8,0),(9,0),(10,0),(5,2),(11,2),(12,0),(13,0),(14,0),(15,0),(16,0),(18,0),(19,0),(20,0),(17,2),(21,2),(22,0),(23,0),(24,0),(25,0),(26,2),(27,0),(28,0)] (by decide +kernel) fun K hK => ?_)
        | refine wb ?_ | refine wr ?_ | refine wk ?_ | refine we ?_ | refine ws ?_ | refine wq ?_
        | ((refine wc rfl (fun hc => ?_) (fun hc => ?_)) <;> (try simp at hc) <;> (try omega))
        | ((refine ib (fun hc => ?_) (fun hc => ?_)) <;> (try omega) <;> (try simp (disch := omega) only [if_pos, if_neg])))
        refine callK (newRelease_le vo vw s.orecs s.old B1 _ ((IntsH.is hSb.right).le l1 hw2) (hvwi.le l1 hw2) hlen.symm hor x1 (hS4.le hw2 l1)) ?_
        rintro v B2 ⟨bc, rfl, hS7, l2⟩ x2 _
        refine ⟨l2, ?_⟩
        have hgc2 := l2.keep x1 hgc1
        have hgd2 := l2.keep x1 hgd1
        obtain ⟨nc, nc'⟩ := x2.old hgc2
        obtain ⟨nd, nd'⟩ := x2.old hgd2
        have hlc : t + 1 ≤ (three (cV th nm)).length := by rw [three_len]; omega
        have hld : t + 1 ≤ (three (dV th nm)).length := by rw [three_len]; omega
        repeat' (first
        | (refine lwc fun R hR => ?_; simp [wrap_i64, wrap_u64, g0, g1, g7, g12, g13, g14, g15, g16, g17, hgc2, hgd2, nc, nc', nd, nd', hlc, hld, hti, AW.row_get, astore]; try simp (disch := omega) only [if_pos, if_neg, wrap_i64, wrap_u64])
        | (refine hR _ _ ?_; clear hR R) | (refine hK _ _ ?_; clear hK K) | refine lwn ?_ | refine lr ?_ | refine la ?_
        | refine wn fun K hK => ?_
        | simp only [nops, nop, lops, lop, slimG, List.map_cons, List.map_nil, List.filterMap_cons, List.filterMap_nil, Option.map_none, Option.map_some, List.getElem?_toArray, List.getElem?_cons_zero, List.getElem?_cons_succ, Option.bind_some]
        | (refine wl Try.mx [(0,0),(1,0),(2,0),(3,0),(4,0),(7,0),(8,0),(9,0),(5,3),(6,3),(12,0),(10,3),(11,3),(13,3),(14,0),(15,3)] (by decide +kernel) fun K hK => ?_)
        | (refine wl Try.mx [(0,0),(1,0),(2,0),(4,0),(5,0),(6,0),(3,2),(7,2),(8,0),(9,0),(10,0),(11,0),(12,0),(14,0),(15,0),(16,0),(17,0),(18,0),(19,0),(13,2),(20,2),(21,0),(22,0)] (by decide +kernel) fun K hK => ?_)
        | (refine wl Try.mx [(0,0),(1,0),(2,0),(3,0),(4,0),(6,0),(7,0),(8,0),(9,0),(10,0),(5,2),(11,2),(12,0),(13,0),(14,0),(15,2),(16,0),(17,0)] (by decide +kernel) fun K hK => ?_)
        | (refine wl Try.mx [(0,0),(1,0),(2,0),(3,0),(4,0),(5,0),(6,0),(7,0),(8,0),(9,0),(10,0),(11,0),(12,0),(13,0),(15,0),(16,0),(17,0),(18,0),(19,0),(20,0),(21,0),(22,0),(23,0),(24,0),(25,0),(26,0),(14,2),(28,0),(27,2),(29,3),(30,0),(31,3)] (by decide +kernel) fun K hK => ?_)
        | (refine wl Try.mx [(0,0),(1,0),(2,0),(3,0),(4,0),(6,0),(7,0),(8,0),(9,0),(10,0),(5,2),(11,2),(12,0),(13,0),(14,0),(15,0),(16,0),(18,0),(19,0),(20,0),(17,2),(21,2),(22,0),(23,0),(24,0),(25,0),(26,2),(27,0),(28,0)] (by decide +kernel) fun K hK => ?_)
        | (refine callK (hns _) ?_; rintro _ _ ⟨rfl, rfl⟩ _ _)
        | refine wb ?_ | refine wr ?_ | refine wk ?_ | refine we ?_ | refine ws ?_ | refine wq ?_
        | ((refine wc rfl (fun hc => ?_) (fun hc => ?_)) <;> (try simp at hc) <;> (try omega))
        | ((refine ib (fun hc => ?_) (fun hc => ?_)) <;> (try omega) <;> (try simp (disch := omega) only [if_pos, if_neg])))
        obtain ⟨nm', hnm⟩ : ∃ nm' : Nm, nm' = ⟨nm.a, nm.b, fun u => if u = t then bc else nm.c u, fun u => if u = t then B2.next else nm.d u⟩ := ⟨_, rfl⟩
        obtain ⟨th', hth'⟩ : ∃ th' : FTs, th' = updF th t (some (s, some 0)) := ⟨_, rfl⟩
        have w3 := x2.alloc (storesO 2 vo vw 0)
        have q1 : Sat (B2.alloc (storesO 2 vo vw 0)) (pt (ab + 2) OC * (pt B2.next (storesO 2 vo vw 0) * (RelH bc ⟨s.orecs, s.old⟩ * (LockH (nm.a t) s * (pt (nm.b t) (bO s vo vw) * (IntsH .i64 vo s.orecs * (IntsH .u64 vw s.old * (pt ab OA * (pt (ab + 1) OB * (pt (ab + 3) OD * (pt pq OP * (ZZ * (MemH pb M * (RefH mb M * hfix A.get)))))))))))))) :=
          Sat.right (P := relR (nm.c t) (nm.d t) vo vw s none) ((hS7.alloc x2 (storesO 2 vo vw 0)).cast (by ac_rfl))
        have ec : (three (cV th nm)).set t (.pointer (some ⟨bc, 0, none⟩)) = three (cV th' nm') := by
          rw [← three_set (cV th nm) (cV th' nm') ht3 (fun u hu => by simp [cV, hth', hnm, updF, hu])]; simp [cV, hth', hnm, updF, ptrV, isRel]
        have ed : (three (dV th nm)).set t (.pointer (some ⟨B2.next, 0, none⟩)) = three (dV th' nm') := by
          rw [← three_set (dV th nm) (dV th' nm') ht3 (fun u hu => by simp [dV, hth', hnm, updF, hu])]; simp [dV, hth', hnm, updF, ptrV, isRel]
        have q2 := q1.set (.cells ((three (cV th nm)).set t (.pointer (some ⟨bc, 0, none⟩))) true 1)
        have w4 := w3.set (i := ab + 2) (some (.cells ((three (cV th nm)).set t (.pointer (some ⟨bc, 0, none⟩))) true 1)) (w3.lt q1.get)
        have q3 : Sat _ (pt (ab + 3) OD * (pt (ab + 2) (.cells ((three (cV th nm)).set t (.pointer (some ⟨bc, 0, none⟩))) true 1) * (pt B2.next (storesO 2 vo vw 0) * (RelH bc ⟨s.orecs, s.old⟩ * (LockH (nm.a t) s * (pt (nm.b t) (bO s vo vw) * (IntsH .i64 vo s.orecs * (IntsH .u64 vw s.old * (pt ab OA * (pt (ab + 1) OB * (pt pq OP * (ZZ * (MemH pb M * (RefH mb M * hfix A.get)))))))))))))) := q2.cast (by ac_rfl)
        have q4 := q3.set (.cells ((three (dV th nm)).set t (.pointer (some ⟨B2.next, 0, none⟩))) true 1)
        have w5 := w4.set (i := ab + 3) (some (.cells ((three (dV th nm)).set t (.pointer (some ⟨B2.next, 0, none⟩))) true 1)) (w4.lt q3.get)
        refine ⟨th', s, 0, by rw [hth']; simp [updF], by simp [g17], by simp [g16], M, nm', by simp [g0], by simp [g1], by simp [g7], by simp [g12], by simp [g13], by simp [g14], by simp [g15], w5, by rw [hth']; exact hI.put hI.w6 hI.wd hF (fun k hk => by injection hk with hk; subst hk; exact ⟨hd, Nat.zero_le _⟩), ?_⟩
        have q5 := thrH.close (a := nm.a t) (b := nm.b t) (c := bc) (d := B2.next) (x := (s, some 0)) (vo := vo) (vw := vw) (q4.cast (by
          show _ = LockH (nm.a t) s * (pt (nm.b t) (bO s vo vw) * (IntsH .i64 vo s.orecs * (IntsH .u64 vw s.old * ((pt B2.next (storesO 2 vo vw 0) * RelH bc ⟨s.orecs, s.old⟩) * (pt (ab + 3) (.cells ((three (dV th nm)).set t (.pointer (some ⟨B2.next, 0, none⟩))) true 1) * (pt (ab + 2) (.cells ((three (cV th nm)).set t (.pointer (some ⟨bc, 0, none⟩))) true 1) * (pt ab OA * (pt (ab + 1) OB * (pt pq OP * (ZZ * (MemH pb M * (RefH mb M * hfix A.get))))))))))))
          ac_rfl))
        refine q5.cast ?_
        have hin := fH_in th nm nm' ht3 (s, some 0) (fun u hu => by simp [hnm, hu])
        have e1 : nm'.a = nm.a := by rw [hnm]
        have e2 : nm'.b = nm.b := by rw [hnm]
        have e3 : nm'.c t = bc := by simp [hnm]
        have e4 : nm'.d t = B2.next := by simp [hnm]
        rw [e1, e2, e3, e4, ← hth', ← hZZ] at hin
        have ei : ∀ u, (th' u).isSome = (th u).isSome := fun u => by
          by_cases hu : u = t
          · subst hu; simp [hth', updF, hth]
          · simp [hth', updF, hu]
        unfold FoH
        rw [← hin, ← three_eq (aV th nm) (aV th' nm') (fun u => by simp [aV, ei u, e1]), ← three_eq (bV th nm) (bV th' nm') (fun u => by simp [bV, ei u, e2]), ec, ed, ← hOA, ← hOB, ← hOP]
        ac_rfl
    clear hS hI g0 g1 g7 g12 g13 g14 g15 g16 g17 hw2 hth hF hR hol hor hOA hOB hOC hOD hOP hZZ hS3 hS4 hSb hSs hga hgb hgc hgd hgq hbo hal hbl hav hbv hvwi hrD hd o1 l1 x1 hgb1
    rintro fr A2 ⟨th, s, k, hth, g17, g16, M, nm, g0, g1, g7, g12, g13, g14, g15, hw2, hI, hS⟩
    obtain ⟨hF, hR⟩ := hI.ok t s (some k) hth
    obtain ⟨hd, hk⟩ := hR k rfl
    have hlen : s.old.length = s.orecs.length := by simpa [LockS.done] using hd
    have hor : s.orecs.length < 2^38 := by rw [hF.orecs]; omega
    have hk' : k ≤ s.orecs.length := by rw [hF.orecs]; exact hk
    obtain ⟨OA, hOA⟩ : ∃ OA : AObj, OA = .cells (three (aV th nm)) true 1 := ⟨_, rfl⟩
    obtain ⟨OB, hOB⟩ : ∃ OB : AObj, OB = .cells (three (bV th nm)) true 1 := ⟨_, rfl⟩
    obtain ⟨OC, hOC⟩ : ∃ OC : AObj, OC = .cells (three (cV th nm)) true 1 := ⟨_, rfl⟩
    obtain ⟨OD, hOD⟩ : ∃ OD : AObj, OD = .cells (three (dV th nm)) true 1 := ⟨_, rfl⟩
    obtain ⟨OP, hOP⟩ : ∃ OP : AObj, OP = .cells [.pointer (some ⟨pb, 0, none⟩), .pointer (some ⟨mb, 0, none⟩)] true 1 := ⟨_, rfl⟩
    obtain ⟨ZZ, hZZ⟩ : ∃ ZZ, ZZ = bstar (updH (fH th nm) t hemp) 3 := ⟨_, rfl⟩
    have hS3 : Sat A2 (thrH (nm.a t) (nm.b t) (nm.c t) (nm.d t) (s, some k) * (pt ab OA * (pt (ab + 1) OB * (pt (ab + 2) OC * (pt (ab + 3) OD * (pt pq OP * (ZZ * (MemH pb M * (RefH mb M * hfix A.get))))))))) := hS.cast (by unfold FoH; rw [fH_out ht3 hth, ← hOA, ← hOB, ← hOC, ← hOD, ← hOP, ← hZZ]; ac_rfl)
    obtain ⟨vo, vw, hS4⟩ := thrH.open hS3
    dsimp only [relR] at hS4
    have hSs : Sat A2 (pt (ab + 2) OC * (pt (ab + 3) OD * (pt pq OP * (pt ab OA * (pt (ab + 1) OB * (LockH (nm.a t) s * (pt (nm.b t) (bO s vo vw) * (IntsH .i64 vo s.orecs * (IntsH .u64 vw s.old * (pt (nm.d t) (storesO 2 vo vw k) * (RelH (nm.c t) ⟨s.orecs.drop k, s.old.drop k⟩ * (ZZ * (MemH pb M * (RefH mb M * hfix A.get)))))))))))))) := hS4.cast (by ac_rfl)
    have hgc := hSs.get
    have hgd := hSs.right.get
    have hgq := hSs.right.right.get
    have hcl := three_get (cV th nm) ht3
    have hdl := three_get (dV th nm) ht3
    have hcv : cV th nm t = .pointer (some ⟨nm.c t, 0, none⟩) := by simp [cV, hth, isRel, ptrV]
    have hdv : dV th nm t = .pointer (some ⟨nm.d t, 0, none⟩) := by simp [dV, hth, isRel, ptrV]
    rw [hcv] at hcl
    rw [hdv] at hdl
    rw [hOC] at hgc
    rw [hOD] at hgd
    rw [hOP] at hgq
    obtain ⟨Y1, hY1⟩ : ∃ Y1, Y1 = storesStep 2 s.orecs s.old k M := ⟨_, rfl⟩
    have hrs := rel_stores s.orecs s.old k M hk'
    obtain ⟨f2, f3, f4⟩ := frel_step hLk hF.old (by rw [hlen, hF.orecs]) hk hI.w6 hI.wd
    rw [← hF.orecs, ← hY1] at f2 f3 f4
    rw [← hY1] at hrs
    repeat' (first
    | (refine lwc fun R hR => ?_; simp [wrap_i64, wrap_u64, g0, g1, g7, g12, g13, g14, g15, g16, g17, hgc, hcl, hgd, hdl, hgq, hti, AW.row_get]; try simp (disch := omega) only [if_pos, if_neg, wrap_i64, wrap_u64])
    | (refine hR _ _ ?_; clear hR R) | (refine hK _ _ ?_; clear hK K) | refine lwn ?_ | refine lr ?_ | refine la ?_
    | refine wn fun K hK => ?_
    | simp only [nops, nop, lops, lop, slimG, List.map_cons, List.map_nil, List.filterMap_cons, List.filterMap_nil, Option.map_none, Option.map_some, List.getElem?_toArray, List.getElem?_cons_zero, List.getElem?_cons_succ, Option.bind_some]
    | (refine wl Try.mx [(0,0),(1,0),(2,0),(3,0),(4,0),(7,0),(8,0),(9,0),(5,3),(6,3),(12,0),(10,3),(11,3),(13,3),(14,0),(15,3)] (by decide +kernel) fun K hK => ?_)
    | (refine wl Try.mx [(0,0),(1,0),(2,0),(4,0),(5,0),(6,0),(3,2),(7,2),(8,0),(9,0),(10,0),(11,0),(12,0),(14,0),(15,0),(16,0),(17,0),(18,0),(19,0),(13,2),(20,2),(21,0),(22,0)] (by decide +kernel) fun K hK => ?_)
    | (refine wl Try.mx [(0,0),(1,0),(2,0),(3,0),(4,0),(6,0),(7,0),(8,0),(9,0),(10,0),(5,2),(11,2),(12,0),(13,0),(14,0),(15,2),(16,0),(17,0)] (by decide +kernel) fun K hK => ?_)
    | (refine wl Try.mx [(0,0),(1,0),(2,0),(3,0),(4,0),(5,0),(6,0),(7,0),(8,0),(9,0),(10,0),(11,0),(12,0),(13,0),(15,0),(16,0),(17,0),(18,0),(19,0),(20,0),(21,0),(22,0),(23,0),(24,0),(25,0),(26,0),(14,2),(28,0),(27,2),(29,3),(30,0),(31,3)] (by decide +kernel) fun K hK => ?_)
    | (refine ⟨fun A' h1 h2 => by simp [h1, h2, hdl], ?_⟩)
    | (refine wlS (fun A' => A'.get (ab + 3) = some (.cells (three (dV th nm)) true 1) ∧ A'.get pq = some (.cells [.pointer (some ⟨pb, 0, none⟩), .pointer (some ⟨mb, 0, none⟩)] true 1)) Try.mx [(0, 0), (1, 0), (2, 0), (3, 0), (4, 0), (6, 0), (7, 0), (8, 1), (9, 0), (10, 1), (5, 3), (11, 3), (12, 0), (13, 0), (14, 0), (15, 0), (16, 0), (18, 0), (19, 0), (20, 1), (17, 3), (21, 3), (22, 0), (23, 0), (24, 0), (25, 0), (26, 3), (27, 0), (28, 0)] (by decide +kernel) fun K hK => ?_)
    | refine wb ?_ | refine wr ?_ | refine wk ?_ | refine we ?_ | refine ws ?_ | refine wq ?_
    | ((refine wc rfl (fun hc => ?_) (fun hc => ?_)) <;> (try simp at hc) <;> (try omega))
    | ((refine ib (fun hc => ?_) (fun hc => ?_)) <;> (try omega) <;> (try simp (disch := omega) only [if_pos, if_neg])))
    refine (relStep_call (nm.c t) pb ⟨s.orecs.drop k, s.old.drop k⟩ M (by simp [hlen])).use hw2 hSs (by ac_rfl : _ = (RelH (nm.c t) ⟨s.orecs.drop k, s.old.drop k⟩ * MemH pb M) * (pt (ab + 3) OD * (pt pq OP * (pt (ab + 2) OC * (pt ab OA * (pt (ab + 1) OB * (LockH (nm.a t) s * (pt (nm.b t) (bO s vo vw) * (IntsH .i64 vo s.orecs * (IntsH .u64 vw s.old * (pt (nm.d t) (storesO 2 vo vw k) * (ZZ * (RefH mb M * hfix A.get))))))))))))) ?_
    intro v B1 hU x1 _
    rw [hrs] at hU
    obtain ⟨rfl, hY⟩ := hU.unpost
    clear hU
    dsimp only at hY ⊢
    have hT1 : Sat B1 (pt (ab + 3) OD * (pt pq OP * (RelH (nm.c t) ⟨s.orecs.drop Y1.2.1, s.old.drop Y1.2.1⟩ * (MemH pb Y1.2.2 * (pt (ab + 2) OC * (pt ab OA * (pt (ab + 1) OB * (LockH (nm.a t) s * (pt (nm.b t) (bO s vo vw) * (IntsH .i64 vo s.orecs * (IntsH .u64 vw s.old * (pt (nm.d t) (storesO 2 vo vw k) * (ZZ * (RefH mb M * hfix A.get)))))))))))))) := hY.cast (by ac_rfl)
    refine ⟨⟨by rw [← hOD]; exact hT1.get, by rw [← hOP]; exact hT1.right.get⟩, ?_⟩
    repeat' (first
    | (refine lwc fun R hR => ?_; simp [wrap_i64, wrap_u64, AW.row_get]; try simp (disch := omega) only [if_pos, if_neg, wrap_i64, wrap_u64])
    | (refine hR _ _ ?_; clear hR R) | (refine hK _ _ ?_; clear hK K) | refine lwn ?_ | refine lr ?_ | refine la ?_
    | refine wn fun K hK => ?_
    | simp only [nops, nop, lops, lop, slimG, List.map_cons, List.map_nil, List.filterMap_cons, List.filterMap_nil, Option.map_none, Option.map_some, List.getElem?_toArray, List.getElem?_cons_zero, List.getElem?_cons_succ, Option.bind_some]
    | (refine wl Try.mx [(0,0),(1,0),(2,0),(3,0),(4,0),(7,0),(8,0),(9,0),(5,3),(6,3),(12,0),(10,3),(11,3),(13,3),(14,0),(15,3)] (by decide +kernel) fun K hK => ?_)
    | (refine wl Try.mx [(0,0),(1,0),(2,0),(4,0),(5,0),(6,0),(3,2),(7,2),(8,0),(9,0),(10,0),(11,0),(12,0),(14,0),(15,0),(16,0),(17,0),(18,0),(19,0),(13,2),(20,2),(21,0),(22,0)] (by decide +kernel) fun K hK => ?_)
    | (refine wl Try.mx [(0,0),(1,0),(2,0),(3,0),(4,0),(6,0),(7,0),(8,0),(9,0),(10,0),(5,2),(11,2),(12,0),(13,0),(14,0),(15,2),(16,0),(17,0)] (by decide +kernel) fun K hK => ?_)
    | (refine wl Try.mx [(0,0),(1,0),(2,0),(3,0),(4,0),(5,0),(6,0),(7,0),(8,0),(9,0),(10,0),(11,0),(12,0),(13,0),(15,0),(16,0),(17,0),(18,0),(19,0),(20,0),(21,0),(22,0),(23,0),(24,0),(25,0),(26,0),(14,2),(28,0),(27,2),(29,3),(30,0),(31,3)] (by decide +kernel) fun K hK => ?_)
    | (refine wl Try.mx [(0,0),(1,0),(2,0),(3,0),(4,0),(6,0),(7,0),(8,0),(9,0),(10,0),(5,2),(11,2),(12,0),(13,0),(14,0),(15,0),(16,0),(18,0),(19,0),(20,0),(17,2),(21,2),(22,0),(23,0),(24,0),(25,0),(26,2),(27,0),(28,0)] (by decide +kernel) fun K hK => ?_)
    | refine wb ?_ | refine wr ?_ | refine wk ?_ | refine we ?_ | refine ws ?_ | refine wq ?_
    | ((refine wc rfl (fun hc => ?_) (fun hc => ?_)) <;> (try simp at hc) <;> (try omega))
    | ((refine ib (fun hc => ?_) (fun hc => ?_)) <;> (try omega) <;> (try simp (disch := omega) only [if_pos, if_neg])))
    refine (storesStep_call (nm.d t) mb 2 vo vw k s.orecs s.old M hI.ref hlen.symm hk' hor).use x1 hT1 (by unfold StoresH; ac_rfl : _ = (StoresH (nm.d t) 2 vo vw k s.orecs s.old * RefH mb M) * (pt (ab + 3) OD * (pt pq OP * (RelH (nm.c t) ⟨s.orecs.drop Y1.2.1, s.old.drop Y1.2.1⟩ * (MemH pb Y1.2.2 * (pt (ab + 2) OC * (pt ab OA * (pt (ab + 1) OB * (LockH (nm.a t) s * (pt (nm.b t) (bO s vo vw) * (ZZ * hfix A.get))))))))))) ?_
    intro v B2 hU x2 _
    rw [← hY1] at hU
    obtain ⟨rfl, hT2⟩ := hU.unpost
    clear hU
    have hT3 : Sat B2 (pt (ab + 3) OD * (pt pq OP * (pt (ab + 2) OC * (pt ab OA * (pt (ab + 1) OB * (pt (nm.d t) (storesO 2 vo vw Y1.2.1) * (RelH (nm.c t) ⟨s.orecs.drop Y1.2.1, s.old.drop Y1.2.1⟩ * (MemH pb Y1.2.2 * (RefH mb Y1.2.2 * (LockH (nm.a t) s * (pt (nm.b t) (bO s vo vw) * (IntsH .i64 vo s.orecs * (IntsH .u64 vw s.old * (ZZ * hfix A.get)))))))))))))) := hT2.cast (by unfold StoresH; ac_rfl)
    have hgd2 := hT3.get
    have hgq2 := hT3.right.get
    rw [hOD] at hgd2
    rw [hOP] at hgq2
    have hgc2 := hT3.right.right.get
    rw [hOC] at hgc2
    refine ⟨⟨hgd2, hgq2⟩, ?_⟩
    obtain ⟨ac, hac⟩ : ∃ ac, ac = Y1.1 := ⟨_, rfl⟩
    rw [← hac]
    obtain ⟨oo, co, hvo, hoc⟩ := (IntsH.is (hT3.cast (by ac_rfl : _ = IntsH .i64 vo s.orecs * (pt (ab + 3) OD * (pt pq OP * (pt (ab + 2) OC * (pt ab OA * (pt (ab + 1) OB * (pt (nm.d t) (storesO 2 vo vw Y1.2.1) * (RelH (nm.c t) ⟨s.orecs.drop Y1.2.1, s.old.drop Y1.2.1⟩ * (MemH pb Y1.2.2 * (RefH mb Y1.2.2 * (LockH (nm.a t) s * (pt (nm.b t) (bO s vo vw) * (IntsH .u64 vw s.old * (ZZ * hfix A.get)))))))))))))))).form
    have hk2' : Y1.2.1 ≤ s.orecs.length := f4
    have hdd : (⟨s.orecs.drop Y1.2.1, s.old.drop Y1.2.1⟩ : RelS).done = decide (Y1.2.1 = s.orecs.length) := by
      unfold RelS.done
      simp only [List.length_drop, decide_eq_decide]
      omega
    have hgD := (hT3.cast (by ac_rfl : _ = pt (nm.d t) (storesO 2 vo vw Y1.2.1) * (pt (ab + 3) OD * (pt pq OP * (pt (ab + 2) OC * (pt ab OA * (pt (ab + 1) OB * (RelH (nm.c t) ⟨s.orecs.drop Y1.2.1, s.old.drop Y1.2.1⟩ * (MemH pb Y1.2.2 * (RefH mb Y1.2.2 * (LockH (nm.a t) s * (pt (nm.b t) (bO s vo vw) * (IntsH .i64 vo s.orecs * (IntsH .u64 vw s.old * (ZZ * hfix A.get))))))))))))))).get
    have hcD := relDone_call (nm.c t) ⟨s.orecs.drop Y1.2.1, s.old.drop Y1.2.1⟩ B2 _ (hT3.cast (by ac_rfl : _ = RelH (nm.c t) ⟨s.orecs.drop Y1.2.1, s.old.drop Y1.2.1⟩ * (pt (ab + 3) OD * (pt pq OP * (pt (ab + 2) OC * (pt ab OA * (pt (ab + 1) OB * (pt (nm.d t) (storesO 2 vo vw Y1.2.1) * (MemH pb Y1.2.2 * (RefH mb Y1.2.2 * (LockH (nm.a t) s * (pt (nm.b t) (bO s vo vw) * (IntsH .i64 vo s.orecs * (IntsH .u64 vw s.old * (ZZ * hfix A.get)))))))))))))))
    rw [hdd] at hcD
    have hdD : ∀ B : AW, B2.le B → ACall Try.prog 33 [.pointer (some ⟨nm.d t, 0, none⟩)] B (fun v A' => v = .bool (decide (Y1.2.1 = s.orecs.length)) ∧ B = A') := fun B hle =>
      storesDone_call (nm.d t) 2 vo vw oo s.orecs.length co Y1.2.1 B hvo (hle.keep x2 hgD)
    repeat' (first
    | (refine lwc fun R hR => ?_; simp [wrap_i64, wrap_u64, AW.row_get, Acc.v, g7, hgc2, hcl, hgd2, hdl, hgq2, hti, g12, g13, g14, g15, g17]; try simp (disch := omega) only [if_pos, if_neg, wrap_i64, wrap_u64])
    | (refine hR _ _ ?_; clear hR R) | (refine hK _ _ ?_; clear hK K) | refine lwn ?_ | refine lr ?_ | refine la ?_
    | refine wn fun K hK => ?_
    | simp only [nops, nop, lops, lop, slimG, List.map_cons, List.map_nil, List.filterMap_cons, List.filterMap_nil, Option.map_none, Option.map_some, List.getElem?_toArray, List.getElem?_cons_zero, List.getElem?_cons_succ, Option.bind_some]
    | (refine wl Try.mx [(0,0),(1,0),(2,0),(3,0),(4,0),(7,0),(8,0),(9,0),(5,3),(6,3),(12,0),(10,3),(11,3),(13,3),(14,0),(15,3)] (by decide +kernel) fun K hK => ?_)
    | (refine wl Try.mx [(0,0),(1,0),(2,0),(4,0),(5,0),(6,0),(3,2),(7,2),(8,0),(9,0),(10,0),(11,0),(12,0),(14,0),(15,0),(16,0),(17,0),(18,0),(19,0),(13,2),(20,2),(21,0),(22,0)] (by decide +kernel) fun K hK => ?_)
    | (refine wl Try.mx [(0,0),(1,0),(2,0),(3,0),(4,0),(6,0),(7,0),(8,0),(9,0),(10,0),(5,2),(11,2),(12,0),(13,0),(14,0),(15,2),(16,0),(17,0)] (by decide +kernel) fun K hK => ?_)
    | (refine wl Try.mx [(0,0),(1,0),(2,0),(3,0),(4,0),(5,0),(6,0),(7,0),(8,0),(9,0),(10,0),(11,0),(12,0),(13,0),(15,0),(16,0),(17,0),(18,0),(19,0),(20,0),(21,0),(22,0),(23,0),(24,0),(25,0),(26,0),(14,2),(28,0),(27,2),(29,3),(30,0),(31,3)] (by decide +kernel) fun K hK => ?_)
    | (refine wl Try.mx [(0,0),(1,0),(2,0),(3,0),(4,0),(6,0),(7,0),(8,0),(9,0),(10,0),(5,2),(11,2),(12,0),(13,0),(14,0),(15,0),(16,0),(18,0),(19,0),(20,0),(17,2),(21,2),(22,0),(23,0),(24,0),(25,0),(26,2),(27,0),(28,0)] (by decide +kernel) fun K hK => ?_)
    | (refine callK (hcD) ?_; rintro _ _ ⟨rfl, rfl⟩ _ _)
    | (refine callK (hdD _ (AW.le.refl _)) ?_; rintro _ _ ⟨rfl, rfl⟩ _ _)
    | (refine ⟨⟨hgd2, hgq2⟩, ?_⟩)
    | (refine ⟨fun A' h1 h2 => by simp [h1, h2, hdl], ?_⟩)
    | refine wb ?_ | refine wr ?_ | refine wk ?_ | refine we ?_ | refine ws ?_ | refine wq ?_
    | ((refine wc rfl (fun hc => ?_) (fun hc => ?_)) <;> (try simp at hc) <;> (try omega))
    | ((refine ib (fun hc => ?_) (fun hc => ?_)) <;> (try omega) <;> (try simp (disch := omega) only [if_pos, if_neg])))
    refine callK (pairSame_call pb mb Y1.2.2 B2 _ (hT3.cast (by ac_rfl : _ = MemH pb Y1.2.2 * (RefH mb Y1.2.2 * (pt (ab + 3) OD * (pt pq OP * (pt (ab + 2) OC * (pt ab OA * (pt (ab + 1) OB * (pt (nm.d t) (storesO 2 vo vw Y1.2.1) * (RelH (nm.c t) ⟨s.orecs.drop Y1.2.1, s.old.drop Y1.2.1⟩ * (LockH (nm.a t) s * (pt (nm.b t) (bO s vo vw) * (IntsH .i64 vo s.orecs * (IntsH .u64 vw s.old * (ZZ * hfix A.get))))))))))))))) f2.len ⟨f2.l2, f2.l3, f2.l4⟩) ?_
    rintro _ B3 ⟨rfl, l3⟩ x3 _
    have hgd3 := l3.keep x2 hgd2
    refine ⟨⟨hgd3, l3.keep x2 hgq2⟩, ?_⟩
    have hT4 := hT3.le x2 l3
    have hdD3 := hdD B3 l3
    by_cases hfin : Y1.2.1 = s.orecs.length
    · have hdec : decide (Y1.2.1 = s.orecs.length) = true := decide_eq_true hfin
      rw [hdec] at hdD3
      have hgc3 := l3.keep x2 hgc2
      have hga3 := hT4.right.right.right.get
      have hgb3 := hT4.right.right.right.right.get
      rw [hOA] at hga3
      rw [hOB] at hgb3
      have hla : t + 1 ≤ (three (aV th nm)).length := by rw [three_len]; omega
      have hlb : t + 1 ≤ (three (bV th nm)).length := by rw [three_len]; omega
      have hlc : t + 1 ≤ (three (cV th nm)).length := by rw [three_len]; omega
      have hld : t + 1 ≤ (three (dV th nm)).length := by rw [three_len]; omega
      repeat' (first
      | (refine lwc fun R hR => ?_; simp [wrap_i64, wrap_u64, g0, g1, g7, g12, g13, g14, g15, g16, g17, hga3, hgb3, hgc3, hgd3, hdl, hla, hlb, hlc, hld, hti, hj1, AW.row_get, astore]; try simp (disch := omega) only [if_pos, if_neg, wrap_i64, wrap_u64])
      | (refine hR _ _ ?_; clear hR R) | (refine hK _ _ ?_; clear hK K) | refine lwn ?_ | refine lr ?_ | refine la ?_
      | refine wn fun K hK => ?_
      | simp only [nops, nop, lops, lop, slimG, List.map_cons, List.map_nil, List.filterMap_cons, List.filterMap_nil, Option.map_none, Option.map_some, List.getElem?_toArray, List.getElem?_cons_zero, List.getElem?_cons_succ, Option.bind_some]
      | (refine wl Try.mx [(0,0),(1,0),(2,0),(3,0),(4,0),(7,0),(8,0),(9,0),(5,3),(6,3),(12,0),(10,3),(11,3),(13,3),(14,0),(15,3)] (by decide +kernel) fun K hK => ?_)
      | (refine wl Try.mx [(0,0),(1,0),(2,0),(4,0),(5,0),(6,0),(3,2),(7,2),(8,0),(9,0),(10,0),(11,0),(12,0),(14,0),(15,0),(16,0),(17,0),(18,0),(19,0),(13,2),(20,2),(21,0),(22,0)] (by decide +kernel) fun K hK => ?_)
      | (refine wl Try.mx [(0,0),(1,0),(2,0),(3,0),(4,0),(6,0),(7,0),(8,0),(9,0),(10,0),(5,2),(11,2),(12,0),(13,0),(14,0),(15,2),(16,0),(17,0)] (by decide +kernel) fun K hK => ?_)
      | (refine wl Try.mx [(0,0),(1,0),(2,0),(3,0),(4,0),(5,0),(6,0),(7,0),(8,0),(9,0),(10,0),(11,0),(12,0),(13,0),(15,0),(16,0),(17,0),(18,0),(19,0),(20,0),(21,0),(22,0),(23,0),(24,0),(25,0),(26,0),(14,2),(28,0),(27,2),(29,3),(30,0),(31,3)] (by decide +kernel) fun K hK => ?_)
      | (refine wl Try.mx [(0,0),(1,0),(2,0),(3,0),(4,0),(6,0),(7,0),(8,0),(9,0),(10,0),(5,2),(11,2),(12,0),(13,0),(14,0),(15,0),(16,0),(18,0),(19,0),(20,0),(17,2),(21,2),(22,0),(23,0),(24,0),(25,0),(26,2),(27,0),(28,0)] (by decide +kernel) fun K hK => ?_)
      | (refine callK (hdD3) ?_; rintro _ _ ⟨rfl, rfl⟩ _ _)
      | refine wb ?_ | refine wr ?_ | refine wk ?_ | refine we ?_ | refine ws ?_ | refine wq ?_
      | ((refine wc rfl (fun hc => ?_) (fun hc => ?_)) <;> (try simp at hc) <;> (try omega))
      | ((refine ib (fun hc => ?_) (fun hc => ?_)) <;> (try omega) <;> (try simp (disch := omega) only [if_pos, if_neg])))
      obtain ⟨th', hth'⟩ : ∃ th' : FTs, th' = updF th t none := ⟨_, rfl⟩
      have hz : ∀ (f g : Nat → Value), g t = .pointer none → (∀ u, u ≠ t → g u = f u) → (three f).set t (.pointer none) = three g := fun f g h1 h2 => by rw [← h1]; exact three_set f g ht3 h2
      have ea := hz (aV th nm) (aV th' nm) (by simp [aV, hth', updF]) (fun u hu => by simp [aV, hth', updF, hu])
      have eb := hz (bV th nm) (bV th' nm) (by simp [bV, hth', updF]) (fun u hu => by simp [bV, hth', updF, hu])
      have ec := hz (cV th nm) (cV th' nm) (by simp [cV, hth', updF, isRel]) (fun u hu => by simp [cV, hth', updF, hu])
      have ed := hz (dV th nm) (dV th' nm) (by simp [dV, hth', updF, isRel]) (fun u hu => by simp [dV, hth', updF, hu])
      rw [ea, eb, ec, ed]
      have p1 : Sat B3 (pt ab OA * (pt (ab + 1) OB * (pt (ab + 2) OC * (pt (ab + 3) OD * (pt pq OP * (ZZ * (MemH pb Y1.2.2 * (RefH mb Y1.2.2 * hfix A.get)))))))) :=
        Sat.right (P := pt (nm.d t) (storesO 2 vo vw Y1.2.1) * (RelH (nm.c t) ⟨s.orecs.drop Y1.2.1, s.old.drop Y1.2.1⟩ * (LockH (nm.a t) s * (pt (nm.b t) (bO s vo vw) * (IntsH .i64 vo s.orecs * IntsH .u64 vw s.old))))) (hT4.cast (by ac_rfl))
      have p2 : Sat _ (pt (ab + 1) OB * (pt ab (.cells (three (aV th' nm)) true 1) * (pt (ab + 2) OC * (pt (ab + 3) OD * (pt pq OP * (ZZ * (MemH pb Y1.2.2 * (RefH mb Y1.2.2 * hfix A.get)))))))) := (p1.set (.cells (three (aV th' nm)) true 1)).cast (by ac_rfl)
      have w1 := x3.set (i := ab) (some (.cells (three (aV th' nm)) true 1)) (x3.lt p1.get)
      have p3 : Sat _ (pt (ab + 2) OC * (pt ab (.cells (three (aV th' nm)) true 1) * (pt (ab + 1) (.cells (three (bV th' nm)) true 1) * (pt (ab + 3) OD * (pt pq OP * (ZZ * (MemH pb Y1.2.2 * (RefH mb Y1.2.2 * hfix A.get)))))))) := (p2.set (.cells (three (bV th' nm)) true 1)).cast (by ac_rfl)
      have w2 := w1.set (i := ab + 1) (some (.cells (three (bV th' nm)) true 1)) (w1.lt p2.get)
      have p4 : Sat _ (pt (ab + 3) OD * (pt ab (.cells (three (aV th' nm)) true 1) * (pt (ab + 1) (.cells (three (bV th' nm)) true 1) * (pt (ab + 2) (.cells (three (cV th' nm)) true 1) * (pt pq OP * (ZZ * (MemH pb Y1.2.2 * (RefH mb Y1.2.2 * hfix A.get)))))))) := (p3.set (.cells (three (cV th' nm)) true 1)).cast (by ac_rfl)
      have w3 := w2.set (i := ab + 2) (some (.cells (three (cV th' nm)) true 1)) (w2.lt p3.get)
      have p5 := p4.set (.cells (three (dV th' nm)) true 1)
      have w4 := w3.set (i := ab + 3) (some (.cells (three (dV th' nm)) true 1)) (w3.lt p4.get)
      refine ⟨picks.length - (j + 1), by omega, j + 1, th', rfl, by omega, by simp, Y1.2.2, nm, by simp [g0], by simp [g1], by simp [g7], by simp [g12], by simp [g13], by simp [g14], by simp [g15], w4, by rw [hth']; exact hI.del f2 f3, ?_⟩
      refine p5.cast ?_
      have hof := fH_off th nm ht3
      rw [← hth', ← hZZ] at hof
      unfold FoH
      rw [← hof, ← hOP]
      ac_rfl
    · have hdec : decide (Y1.2.1 = s.orecs.length) = false := decide_eq_false hfin
      rw [hdec] at hdD3
      repeat' (first
      | (refine lwc fun R hR => ?_; simp [wrap_i64, wrap_u64, g0, g1, g7, g12, g13, g14, g15, g16, g17, hgd3, hdl, hti, hj1, AW.row_get]; try simp (disch := omega) only [if_pos, if_neg, wrap_i64, wrap_u64])
      | (refine hR _ _ ?_; clear hR R) | (refine hK _ _ ?_; clear hK K) | refine lwn ?_ | refine lr ?_ | refine la ?_
      | refine wn fun K hK => ?_
      | simp only [nops, nop, lops, lop, slimG, List.map_cons, List.map_nil, List.filterMap_cons, List.filterMap_nil, Option.map_none, Option.map_some, List.getElem?_toArray, List.getElem?_cons_zero, List.getElem?_cons_succ, Option.bind_some]
      | (refine wl Try.mx [(0,0),(1,0),(2,0),(3,0),(4,0),(7,0),(8,0),(9,0),(5,3),(6,3),(12,0),(10,3),(11,3),(13,3),(14,0),(15,3)] (by decide +kernel) fun K hK => ?_)
      | (refine wl Try.mx [(0,0),(1,0),(2,0),(4,0),(5,0),(6,0),(3,2),(7,2),(8,0),(9,0),(10,0),(11,0),(12,0),(14,0),(15,0),(16,0),(17,0),(18,0),(19,0),(13,2),(20,2),(21,0),(22,0)] (by decide +kernel) fun K hK => ?_)
      | (refine wl Try.mx [(0,0),(1,0),(2,0),(3,0),(4,0),(6,0),(7,0),(8,0),(9,0),(10,0),(5,2),(11,2),(12,0),(13,0),(14,0),(15,2),(16,0),(17,0)] (by decide +kernel) fun K hK => ?_)
      | (refine wl Try.mx [(0,0),(1,0),(2,0),(3,0),(4,0),(5,0),(6,0),(7,0),(8,0),(9,0),(10,0),(11,0),(12,0),(13,0),(15,0),(16,0),(17,0),(18,0),(19,0),(20,0),(21,0),(22,0),(23,0),(24,0),(25,0),(26,0),(14,2),(28,0),(27,2),(29,3),(30,0),(31,3)] (by decide +kernel) fun K hK => ?_)
      | (refine wl Try.mx [(0,0),(1,0),(2,0),(3,0),(4,0),(6,0),(7,0),(8,0),(9,0),(10,0),(5,2),(11,2),(12,0),(13,0),(14,0),(15,0),(16,0),(18,0),(19,0),(20,0),(17,2),(21,2),(22,0),(23,0),(24,0),(25,0),(26,2),(27,0),(28,0)] (by decide +kernel) fun K hK => ?_)
      | (refine callK (hdD3) ?_; rintro _ _ ⟨rfl, rfl⟩ _ _)
      | refine wb ?_ | refine wr ?_ | refine wk ?_ | refine we ?_ | refine ws ?_ | refine wq ?_
      | ((refine wc rfl (fun hc => ?_) (fun hc => ?_)) <;> (try simp at hc) <;> (try omega))
      | ((refine ib (fun hc => ?_) (fun hc => ?_)) <;> (try omega) <;> (try simp (disch := omega) only [if_pos, if_neg])))
      obtain ⟨th', hth'⟩ : ∃ th' : FTs, th' = updF th t (some (s, some Y1.2.1)) := ⟨_, rfl⟩
      refine ⟨picks.length - (j + 1), by omega, j + 1, th', rfl, by omega, by simp, Y1.2.2, nm, by simp [g0], by simp [g1], by simp [g7], by simp [g12], by simp [g13], by simp [g14], by simp [g15], x3, by rw [hth']; exact hI.put f2 f3 hF (fun q hq => by injection hq with hq; subst hq; exact ⟨hd, by rw [← hF.orecs]; exact hk2'⟩), ?_⟩
      have e : ∀ u, (th' u).isSome = (th u).isSome ∧ isRel (th' u) = isRel (th u) := fun u => by
        by_cases hu : u = t
        · subst hu; simp [hth', updF, hth, isRel]
        · simp [hth', updF, hu]
      have q5 := thrH.close (a := nm.a t) (b := nm.b t) (c := nm.c t) (d := nm.d t) (x := (s, some Y1.2.1)) (vo := vo) (vw := vw) (hT4.cast (by
        show _ = LockH (nm.a t) s * (pt (nm.b t) (bO s vo vw) * (IntsH .i64 vo s.orecs * (IntsH .u64 vw s.old * ((pt (nm.d t) (storesO 2 vo vw Y1.2.1) * RelH (nm.c t) ⟨s.orecs.drop Y1.2.1, s.old.drop Y1.2.1⟩) * (pt (ab + 3) OD * (pt pq OP * (pt (ab + 2) OC * (pt ab OA * (pt (ab + 1) OB * (MemH pb Y1.2.2 * (RefH mb Y1.2.2 * (ZZ * hfix A.get))))))))))))
        ac_rfl))
      refine q5.cast ?_
      have hin := fH_in th nm nm ht3 (s, some Y1.2.1) (fun u hu => ⟨rfl, rfl, rfl, rfl⟩)
      rw [← hth', ← hZZ] at hin
      unfold FoH
      rw [← hin, ← three_eq (aV th nm) (aV th' nm) (fun u => by simp [aV, (e u).1]), ← three_eq (bV th nm) (bV th' nm) (fun u => by simp [bV, (e u).1]), ← three_eq (cV th nm) (cV th' nm) (fun u => by simp [cV, (e u).2]), ← three_eq (dV th nm) (dV th' nm) (fun u => by simp [dV, (e u).2]), ← hOA, ← hOB, ← hOC, ← hOD, ← hOP]
      ac_rfl

end Go.Stx
