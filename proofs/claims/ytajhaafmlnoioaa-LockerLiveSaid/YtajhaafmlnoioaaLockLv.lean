/-
  The statement on locks that come to an end.
-/
import Derived.Test.YtajhaafmlnoioaaLockEx
import Derived.Test.YtajhaafmlnoioaaLockZ
namespace Go.Stx
open Go Go.Proofs
attribute [local irreducible] AWP LWalk ACall ARounds lops nops
set_option linter.unusedVariables false
set_option linter.unusedSimpArgs false

def slotsB (bn : Nat → Nat) : List Value := [.pointer (some ⟨bn 0, 0, none⟩), .pointer (some ⟨bn 1, 0, none⟩), .pointer (some ⟨bn 2, 0, none⟩)]
theorem slotsB_get (bn : Nat → Nat) {t : Nat} (ht : t < 3) : (slotsB bn)[t]? = some (.pointer (some ⟨bn t, 0, none⟩)) := by
  have : t = 0 ∨ t = 1 ∨ t = 2 := by omega
  rcases this with rfl | rfl | rfl <;> rfl
theorem slots_full {th : Ths} (bn : Nat → Nat) (h : ∀ t, t < 3 → th t ≠ none) : slots th bn = slotsB bn := by
  have key : ∀ t, t < 3 → slotV th bn t = .pointer (some ⟨bn t, 0, none⟩) := fun t ht => by
    cases e : th t with
    | none => exact absurd e (h t ht)
    | some s => simp [slotV, e]
  unfold slots slotsB
  rw [key 0 (by omega), key 1 (by omega), key 2 (by omega)]
def gones (th : Ths) : List Value := [.bool (th 0).isNone, .bool (th 1).isNone, .bool (th 2).isNone]
theorem gones_get (th : Ths) {t : Nat} (ht : t < 3) : (gones th)[t]? = some (.bool (th t).isNone) := by
  have : t = 0 ∨ t = 1 ∨ t = 2 := by omega
  rcases this with rfl | rfl | rfl <;> rfl
theorem gones_set (th : Ths) {t : Nat} (ht : t < 3) : (gones th).set t (.bool true) = gones (updT th t none) := by
  have : t = 0 ∨ t = 1 ∨ t = 2 := by omega
  rcases this with rfl | rfl | rfl <;> rfl
theorem gones_same (th : Ths) {t : Nat} (ht : t < 3) {s : LockS} (hs : th t = some s) (s' : LockS) : gones (updT th t (some s')) = gones th := by
  have : t = 0 ∨ t = 1 ∨ t = 2 := by omega
  rcases this with rfl | rfl | rfl <;> simp [gones, updT, hs]

/-- What the rounds keep. -/
def LvH (pb pq mb gb : Nat) (bn : Nat → Nat) (c : LCfg) : HP :=
  pt gb (.cells (gones c.th) true 1) * (pt (pq + 1) (.cells (slotsB bn) true 1) * (pt pq (.cells [.pointer (some ⟨pb, 0, none⟩), .pointer (some ⟨mb, 0, none⟩)] true 1) * (bstar (thH c.th bn) 3 * MemH pb c.M)))

set_option maxRecDepth 100000 in
set_option maxHeartbeats 4000000 in
theorem lockerLive_call (vl vp : Value) (ls : List (List Int)) (picks : List Int) (A : AW) (hl : IsRows A vl ls) (hp : IsInts A .i64 vp picks) :
    ACall Try.prog 6 [vl, vp] A (fun v A' => v = .bool true) := by
  refine acall_intro Try.func6 rfl (by kernel_rfl) fun hw => ?_
  obtain ⟨ol, cl, rfl, _⟩ := hl.form
  obtain ⟨op, cp, rfl, _⟩ := hp.form
  by_cases h60 : 60 < picks.length
  · have h60i : (60 : Int) < picks.length := by omega
    repeat' (first
    | (refine lwc fun R hR => ?_; simp [wrap_i64, wrap_u64, h60, h60i]; try simp (disch := omega) only [if_pos, if_neg, wrap_i64, wrap_u64])
    | (refine hR _ _ ?_; clear hR R) | (refine hK _ _ ?_; clear hK K) | refine lwn ?_ | refine lr ?_ | refine la ?_
    | refine wn fun K hK => ?_
    | simp only [nops, nop, lops, lop, slimG, List.map_cons, List.map_nil, List.filterMap_cons, List.filterMap_nil, Option.map_none, Option.map_some, List.getElem?_toArray, List.getElem?_cons_zero, List.getElem?_cons_succ, Option.bind_some]
    | (refine wl Try.mx [(0,0),(1,0),(2,0),(3,0),(7,0),(8,0),(4,2),(5,0),(6,0),(9,2)] (by decide +kernel) fun K hK => ?_)
    | (refine wl Try.mx [(0,0),(1,0),(2,0),(3,0),(4,0),(5,3)] (by decide +kernel) fun K hK => ?_)
    | refine wb ?_ | refine wr ?_ | refine wk ?_ | refine we ?_ | refine ws ?_ | refine wq ?_
    | ((refine wc rfl (fun hc => ?_) (fun hc => ?_)) <;> (try simp at hc) <;> (try omega))
    | ((refine ib (fun hc => ?_) (fun hc => ?_)) <;> (try omega) <;> (try simp (disch := omega) only [if_pos, if_neg])))
    refine callK (awake_call A hemp (Sat.emp A)) ?_
    rintro _ A1 ⟨rfl, _⟩ w1 _
    repeat' (first
    | (refine lwc fun R hR => ?_; simp [wrap_i64, wrap_u64, h60]; try simp (disch := omega) only [if_pos, if_neg, wrap_i64, wrap_u64])
    | (refine hR _ _ ?_; clear hR R) | (refine hK _ _ ?_; clear hK K) | refine lwn ?_ | refine lr ?_ | refine la ?_
    | refine wn fun K hK => ?_
    | simp only [nops, nop, lops, lop, slimG, List.map_cons, List.map_nil, List.filterMap_cons, List.filterMap_nil, Option.map_none, Option.map_some, List.getElem?_toArray, List.getElem?_cons_zero, List.getElem?_cons_succ, Option.bind_some]
    | (refine wl Try.mx [(0,0),(1,0),(2,0),(3,0),(7,0),(8,0),(4,2),(5,0),(6,0),(9,2)] (by decide +kernel) fun K hK => ?_)
    | (refine wl Try.mx [(0,0),(1,0),(2,0),(3,0),(4,0),(5,3)] (by decide +kernel) fun K hK => ?_)
    | refine wb ?_ | refine wr ?_ | refine wk ?_ | refine we ?_ | refine ws ?_ | refine wq ?_
    | ((refine wc rfl (fun hc => ?_) (fun hc => ?_)) <;> (try simp at hc) <;> (try omega))
    | ((refine ib (fun hc => ?_) (fun hc => ?_)) <;> (try omega) <;> (try simp (disch := omega) only [if_pos, if_neg])))
    simp
  have h60i : ¬ (60 : Int) < picks.length := by omega
  repeat' (first
  | (refine lwc fun R hR => ?_; simp [wrap_i64, wrap_u64, h60, h60i]; try simp (disch := omega) only [if_pos, if_neg, wrap_i64, wrap_u64])
  | (refine hR _ _ ?_; clear hR R) | (refine hK _ _ ?_; clear hK K) | refine lwn ?_ | refine lr ?_ | refine la ?_
  | refine wn fun K hK => ?_
  | simp only [nops, nop, lops, lop, slimG, List.map_cons, List.map_nil, List.filterMap_cons, List.filterMap_nil, Option.map_none, Option.map_some, List.getElem?_toArray, List.getElem?_cons_zero, List.getElem?_cons_succ, Option.bind_some]
  | (refine wl Try.mx [(0,0),(1,0),(2,0),(3,0),(7,0),(8,0),(4,2),(5,0),(6,0),(9,2)] (by decide +kernel) fun K hK => ?_)
  | (refine wl Try.mx [(0,0),(1,0),(2,0),(3,0),(4,0),(5,3)] (by decide +kernel) fun K hK => ?_)
  | (refine callK (config_call _) ?_; rintro _ _ ⟨rfl, rfl⟩ _ _)
  | refine wb ?_ | refine wr ?_ | refine wk ?_ | refine we ?_ | refine ws ?_ | refine wq ?_
  | ((refine wc rfl (fun hc => ?_) (fun hc => ?_)) <;> (try simp at hc) <;> (try omega))
  | ((refine ib (fun hc => ?_) (fun hc => ?_)) <;> (try omega) <;> (try simp (disch := omega) only [if_pos, if_neg])))
  have hS0 : Sat A (hfix A.get) := ⟨A.get, rfl, fun i o h => h⟩
  refine callK (start_cfg 3 A (hfix A.get) hw hS0 (by omega) (by omega)) ?_
  rintro v A1 ⟨pb, mb, rfl, hS1⟩ hw1 _
  repeat' (first
  | (refine lwc fun R hR => ?_; simp [wrap_i64, wrap_u64, AW.row_get, astore]; try simp (disch := omega) only [if_pos, if_neg, wrap_i64, wrap_u64])
  | (refine hR _ _ ?_; clear hR R) | (refine hK _ _ ?_; clear hK K) | refine lwn ?_ | refine lr ?_ | refine la ?_
  | refine wn fun K hK => ?_
  | simp only [nops, nop, lops, lop, slimG, List.map_cons, List.map_nil, List.filterMap_cons, List.filterMap_nil, Option.map_none, Option.map_some, List.getElem?_toArray, List.getElem?_cons_zero, List.getElem?_cons_succ, Option.bind_some]
  | (refine wl Try.mx [(0,0),(1,0),(2,0),(3,0),(7,0),(8,0),(4,2),(5,0),(6,0),(9,2)] (by decide +kernel) fun K hK => ?_)
  | (refine wl Try.mx [(0,0),(1,0),(2,0),(3,0),(4,0),(5,3)] (by decide +kernel) fun K hK => ?_)
  | refine wb ?_ | refine wr ?_ | refine wk ?_ | refine we ?_ | refine ws ?_ | refine wq ?_
  | ((refine wc rfl (fun hc => ?_) (fun hc => ?_)) <;> (try simp at hc) <;> (try omega))
  | ((refine ib (fun hc => ?_) (fun hc => ?_)) <;> (try omega) <;> (try simp (disch := omega) only [if_pos, if_neg])))
  obtain ⟨pq, hpq⟩ : ∃ pq, pq = A1.next := ⟨_, rfl⟩
  refine awp_loop (fun k fr A' => ∃ (j : Nat) (th : Ths), k = 3 - j ∧ j ≤ 3 ∧ fr 8 = .int .i64 j ∧ (∀ t, t < j → th t ≠ none) ∧ (∀ t, j ≤ t → th t = none) ∧ ExJ pb pq mb (pq + 1) A ls ol op ls.length cl picks.length cp th fr A') 3 ?_ ?_
  · refine ⟨0, fun _ => none, by simp, by simp, by simp, fun t ht => by omega, fun t _ => rfl, M0 3, fun _ => 0, by simp, by simp, by simp [hpq], by simp [hpq], ?_, M0_linv _, ?_⟩
    · exact ((hw1.alloc _).set _ (by simp)).alloc _
    · subst hpq
      have hSp := (hS1.alloc hw1 (.cells [.pointer none, .pointer none] true 1)).set (.cells [.pointer (some ⟨pb, 0, none⟩), .pointer (some ⟨mb, 0, none⟩)] true 1)
      have hwp := (hw1.alloc (.cells [.pointer none, .pointer none] true 1)).set (i := A1.next) (some (.cells [.pointer (some ⟨pb, 0, none⟩), .pointer (some ⟨mb, 0, none⟩)] true 1)) (by simp)
      have h3 := hSp.alloc hwp (.cells (slots (fun _ => none) (fun _ => 0)) true 1)
      simp only [AW.set_next, AW.alloc_next] at h3
      refine Sat.left (Q := RefH mb (M0 3)) (h3.cast ?_)
      have e : bstar (thH (fun _ => none) (fun _ => 0)) 3 = hemp := by simp [bstar, thH, hemp_mul]
      unfold ExH
      rw [e, hemp_mul]
      ac_rfl
  rintro k fr A2 ⟨t, th, rfl, hj, g8, hsm, hno, M, bn, g0, g1, g5, g7, hw2, hI, hS⟩
  have hk2 : Keeps A A2 := Keeps.of_fix (F := ExH pb pq mb (pq + 1) M th bn) (hS.cast (by ac_rfl))
  by_cases ht3 : t < 3
  · have hti : (t : Int) < 3 := by omega
    have ht1 : IntKind.i64.wrap ((t : Int) + 1) = ((t + 1 : Nat) : Int) := wrap_i64 (by omega) (by omega)
    have hth := hno t (Nat.le_refl _)
    have hsn := slots_len th bn
    have hS3 : Sat A2 (pt (pq + 1) (.cells (slots th bn) true 1) * (pt pq (.cells [.pointer (some ⟨pb, 0, none⟩), .pointer (some ⟨mb, 0, none⟩)] true 1) * (bstar (thH th bn) 3 * (MemH pb M * hfix A.get)))) := hS.cast (by unfold ExH; ac_rfl)
    repeat' (first
    | (refine lwc fun R hR => ?_; simp [wrap_i64, wrap_u64, g0, g1, g5, g7, g8, hti, AW.row_get]; try simp (disch := omega) only [if_pos, if_neg, wrap_i64, wrap_u64])
    | (refine hR _ _ ?_; clear hR R) | (refine hK _ _ ?_; clear hK K) | refine lwn ?_ | refine lr ?_ | refine la ?_
    | refine wn fun K hK => ?_
    | simp only [nops, nop, lops, lop, slimG, List.map_cons, List.map_nil, List.filterMap_cons, List.filterMap_nil, Option.map_none, Option.map_some, List.getElem?_toArray, List.getElem?_cons_zero, List.getElem?_cons_succ, Option.bind_some]
    | (refine wl Try.mx [(0,0),(1,0),(2,0),(3,0),(7,0),(8,0),(4,2),(5,0),(6,0),(9,2)] (by decide +kernel) fun K hK => ?_)
    | (refine wl Try.mx [(0,0),(1,0),(2,0),(3,0),(4,0),(5,3)] (by decide +kernel) fun K hK => ?_)
    | refine wb ?_ | refine wr ?_ | refine wk ?_ | refine we ?_ | refine ws ?_ | refine wq ?_
    | ((refine wc rfl (fun hc => ?_) (fun hc => ?_)) <;> (try simp at hc) <;> (try omega))
    | ((refine ib (fun hc => ?_) (fun hc => ?_)) <;> (try omega) <;> (try simp (disch := omega) only [if_pos, if_neg])))
    refine callK (wants_call _ ls t A2 (hl.keeps hk2) ht3) ?_
    rintro u B1 ⟨o1, l1⟩ x1 _
    obtain ⟨ou, cu, rfl, _⟩ := o1.is.form
    have hwl := wantsF_len ls t
    repeat' (first
    | (refine lwc fun R hR => ?_; simp [wrap_i64, wrap_u64, g0, g1, g5, g7, g8, hti, AW.row_get]; try simp (disch := omega) only [if_pos, if_neg, wrap_i64, wrap_u64])
    | (refine hR _ _ ?_; clear hR R) | (refine hK _ _ ?_; clear hK K) | refine lwn ?_ | refine lr ?_ | refine la ?_
    | refine wn fun K hK => ?_
    | simp only [nops, nop, lops, lop, slimG, List.map_cons, List.map_nil, List.filterMap_cons, List.filterMap_nil, Option.map_none, Option.map_some, List.getElem?_toArray, List.getElem?_cons_zero, List.getElem?_cons_succ, Option.bind_some]
    | (refine wl Try.mx [(0,0),(1,0),(2,0),(3,0),(7,0),(8,0),(4,2),(5,0),(6,0),(9,2)] (by decide +kernel) fun K hK => ?_)
    | (refine wl Try.mx [(0,0),(1,0),(2,0),(3,0),(4,0),(5,3)] (by decide +kernel) fun K hK => ?_)
    | refine wb ?_ | refine wr ?_ | refine wk ?_ | refine we ?_ | refine ws ?_ | refine wq ?_
    | ((refine wc rfl (fun hc => ?_) (fun hc => ?_)) <;> (try simp at hc) <;> (try omega))
    | ((refine ib (fun hc => ?_) (fun hc => ?_)) <;> (try omega) <;> (try simp (disch := omega) only [if_pos, if_neg])))
    refine callK (newLock_call t _ _ B1 _ o1.is (by omega) x1 (hS3.le hw2 l1)) ?_
    rintro v B2 ⟨b, rfl, hS4⟩ x2 _
    have hS5 : Sat B2 (pt (pq + 1) (.cells (slots th bn) true 1) * (LockH b ⟨t, lockL ls t, [], 0, false⟩ * (pt pq (.cells [.pointer (some ⟨pb, 0, none⟩), .pointer (some ⟨mb, 0, none⟩)] true 1) * (bstar (thH th bn) 3 * (MemH pb M * hfix A.get))))) := hS4.cast (by unfold lockL; ac_rfl)
    have hgb := hS5.get
    have hbd : t + 1 ≤ (slots th bn).length := by rw [hsn]; omega
    have hcs : ((slots th bn).set t (.pointer (some ⟨b, 0, none⟩)))[t]? = some (.pointer (some ⟨b, 0, none⟩)) := List.getElem?_set_self (by omega)
    repeat' (first
    | (refine lwc fun R hR => ?_; simp [wrap_i64, wrap_u64, g0, g1, g5, g7, g8, hgb, hbd, hcs, hti, ht1, AW.row_get, astore]; try simp (disch := omega) only [if_pos, if_neg, wrap_i64, wrap_u64])
    | (refine hR _ _ ?_; clear hR R) | (refine hK _ _ ?_; clear hK K) | refine lwn ?_ | refine lr ?_ | refine la ?_
    | refine wn fun K hK => ?_
    | simp only [nops, nop, lops, lop, slimG, List.map_cons, List.map_nil, List.filterMap_cons, List.filterMap_nil, Option.map_none, Option.map_some, List.getElem?_toArray, List.getElem?_cons_zero, List.getElem?_cons_succ, Option.bind_some]
    | (refine wl Try.mx [(0,0),(1,0),(2,0),(3,0),(7,0),(8,0),(4,2),(5,0),(6,0),(9,2)] (by decide +kernel) fun K hK => ?_)
    | (refine wl Try.mx [(0,0),(1,0),(2,0),(3,0),(4,0),(5,3)] (by decide +kernel) fun K hK => ?_)
    | refine wb ?_ | refine wr ?_ | refine wk ?_ | refine we ?_ | refine ws ?_ | refine wq ?_
    | ((refine wc rfl (fun hc => ?_) (fun hc => ?_)) <;> (try simp at hc) <;> (try omega))
    | ((refine ib (fun hc => ?_) (fun hc => ?_)) <;> (try omega) <;> (try simp (disch := omega) only [if_pos, if_neg])))
    refine ⟨3 - (t + 1), by omega, t + 1, updT th t (some ⟨t, lockL ls t, [], 0, false⟩), rfl, by omega, by simp, ?_, ?_, M, updN bn t b, by simp [g0], by simp [g1], by simp [g5], by simp [g7], x2.set _ (x2.lt hgb), linv_new hI ht3 hth, ?_⟩
    · intro u hu
      unfold updT
      split
      · simp
      · exact hsm u (by omega)
    · intro u hu
      unfold updT
      rw [if_neg (by omega)]
      exact hno u (by omega)
    · have e : (slots th bn).set t (.pointer (some ⟨b, 0, none⟩)) = slots (updT th t (some ⟨t, lockL ls t, [], 0, false⟩)) (updN bn t b) := by
        rw [← slots_upd th bn ht3 (some ⟨t, lockL ls t, [], 0, false⟩) b]; simp [slotV, updT, updN]
      have h6 := hS5.set (.cells ((slots th bn).set t (.pointer (some ⟨b, 0, none⟩))) true 1)
      refine h6.cast ?_
      unfold ExH
      rw [e, ← thH_in2 th bn ht3 _ b, ← thH_absent bn ht3 hth]
      ac_rfl
  have ht3' : t = 3 := by omega
  subst ht3'
  repeat' (first
  | (refine lwc fun R hR => ?_; simp [wrap_i64, wrap_u64, g0, g1, g5, g7, g8, AW.row_get]; try simp (disch := omega) only [if_pos, if_neg, wrap_i64, wrap_u64])
  | (refine hR _ _ ?_; clear hR R) | (refine hK _ _ ?_; clear hK K) | refine lwn ?_ | refine lr ?_ | refine la ?_
  | refine wn fun K hK => ?_
  | simp only [nops, nop, lops, lop, slimG, List.map_cons, List.map_nil, List.filterMap_cons, List.filterMap_nil, Option.map_none, Option.map_some, List.getElem?_toArray, List.getElem?_cons_zero, List.getElem?_cons_succ, Option.bind_some]
  | (refine wl Try.mx [(0,0),(1,0),(2,0),(3,0),(7,0),(8,0),(4,2),(5,0),(6,0),(9,2)] (by decide +kernel) fun K hK => ?_)
  | (refine wl Try.mx [(0,0),(1,0),(2,0),(3,0),(4,0),(5,3)] (by decide +kernel) fun K hK => ?_)
  | refine wb ?_ | refine wr ?_ | refine wk ?_ | refine we ?_ | refine ws ?_ | refine wq ?_
  | ((refine wc rfl (fun hc => ?_) (fun hc => ?_)) <;> (try simp at hc) <;> (try omega))
  | ((refine ib (fun hc => ?_) (fun hc => ?_)) <;> (try omega) <;> (try simp (disch := omega) only [if_pos, if_neg])))
  refine awp_loop (fun k fr A' => ∃ (j : Nat) (th : Ths), k = picks.length - j ∧ j ≤ picks.length ∧ fr 9 = .int .i64 j ∧ (∀ t, t < 3 → th t ≠ none) ∧ ExJ pb pq mb (pq + 1) A ls ol op ls.length cl picks.length cp th fr A') picks.length ?_ ?_
  · exact ⟨0, th, by simp, by simp, by simp, hsm, M, bn, by simp [g0], by simp [g1], by simp [g5], by simp [g7], hw2, hI, hS⟩
  clear hk2 hS hI g0 g1 g5 g7 g8 hw2 hsm hno
  rintro k fr A2 ⟨j, th, rfl, hj, g9, hsm, M, bn, g0, g1, g5, g7, hw2, hI, hS⟩
  have hk2 : Keeps A A2 := Keeps.of_fix (F := ExH pb pq mb (pq + 1) M th bn) (hS.cast (by ac_rfl))
  by_cases hlt : j < picks.length
  · have hlti : (j : Int) < picks.length := by omega
    have hj1 : IntKind.i64.wrap ((j : Int) + 1) = ((j + 1 : Nat) : Int) := wrap_i64 (by omega) (by omega)
    obtain ⟨pp, rowp, ownp, rfl, hgp, hcp⟩ := (hp.keeps hk2).atg hlt
    obtain ⟨t, ht⟩ : ∃ t : Nat, placeF picks[j] 3 = t := ⟨(placeF picks[j] 3).toNat, by have := placeF_range picks[j] 3 (by omega); omega⟩
    have ht3 : t < 3 := by have := placeF_range picks[j] 3 (by omega); omega
    have hti : (t : Int) < 3 := by omega
    obtain ⟨s, hth⟩ : ∃ s, th t = some s := Option.ne_none_iff_exists'.1 (hsm t ht3)
    obtain ⟨k1, k2, k3, k4, k5, k6⟩ := hI.ok t s hth
    have hLn := (lockL_ok ls t ht3).len
    have hS3 : Sat A2 (pt (pq + 1) (.cells (slots th bn) true 1) * (pt pq (.cells [.pointer (some ⟨pb, 0, none⟩), .pointer (some ⟨mb, 0, none⟩)] true 1) * (LockH (bn t) s * (MemH pb M * (bstar (updH (thH th bn) t hemp) 3 * hfix A.get))))) := hS.cast (by unfold ExH; rw [thH_out ht3 hth]; ac_rfl)
    have hga := hS3.get
    have hgq := hS3.right.get
    have hsl := slots_get th bn ht3
    have hsv : slotV th bn t = .pointer (some ⟨bn t, 0, none⟩) := by simp [slotV, hth]
    rw [hsv] at hsl
    repeat' (first
    | (refine lwc fun R hR => ?_; simp [wrap_i64, wrap_u64, g0, g1, g5, g7, g9, hga, hgq, hsl, hti, ht, hlti, hgp, hcp, AW.row_get]; try simp (disch := omega) only [if_pos, if_neg, wrap_i64, wrap_u64])
    | (refine hR _ _ ?_; clear hR R) | (refine hK _ _ ?_; clear hK K) | refine lwn ?_ | refine lr ?_ | refine la ?_
    | refine wn fun K hK => ?_
    | simp only [nops, nop, lops, lop, slimG, List.map_cons, List.map_nil, List.filterMap_cons, List.filterMap_nil, Option.map_none, Option.map_some, List.getElem?_toArray, List.getElem?_cons_zero, List.getElem?_cons_succ, Option.bind_some]
    | (refine wl Try.mx [(0,0),(1,0),(2,0),(3,0),(4,0),(5,3)] (by decide +kernel) fun K hK => ?_)
    | (refine callK (place_call _ 3 _ (by omega) (by omega)) ?_; rintro _ _ ⟨rfl, rfl⟩ _ _)
    | (refine wl Try.mx [(0, 0), (1, 0), (2, 0), (3, 0), (7, 0), (8, 0), (4, 2), (5, 0), (6, 0), (9, 3)] (by decide +kernel) fun K hK => ?_)
    | refine wb ?_ | refine wr ?_ | refine wk ?_ | refine we ?_ | refine ws ?_ | refine wq ?_
    | ((refine wc rfl (fun hc => ?_) (fun hc => ?_)) <;> (try simp at hc) <;> (try omega))
    | ((refine ib (fun hc => ?_) (fun hc => ?_)) <;> (try omega) <;> (try simp (disch := omega) only [if_pos, if_neg])))
    refine (lockStep_call (bn t) pb s M (by rw [k3]; exact k4) (by rw [k3]; show (lockL ls t).length < _; omega)).use hw2 hS3 (by ac_rfl : _ = (LockH (bn t) s * MemH pb M) * (pt (pq + 1) (.cells (slots th bn) true 1) * (pt pq (.cells [.pointer (some ⟨pb, 0, none⟩), .pointer (some ⟨mb, 0, none⟩)] true 1) * (bstar (updH (thH th bn) t hemp) 3 * hfix A.get)))) ?_
    intro v A3 hU hw3 _
    obtain ⟨rfl, hY⟩ := hU.unpost
    clear hU
    repeat' (first
    | (refine lwc fun R hR => ?_; simp [wrap_i64, wrap_u64, g0, g1, g5, g7, g9, hti, hj1, AW.row_get]; try simp (disch := omega) only [if_pos, if_neg, wrap_i64, wrap_u64])
    | (refine hR _ _ ?_; clear hR R) | (refine hK _ _ ?_; clear hK K) | refine lwn ?_ | refine lr ?_ | refine la ?_
    | refine wn fun K hK => ?_
    | simp only [nops, nop, lops, lop, slimG, List.map_cons, List.map_nil, List.filterMap_cons, List.filterMap_nil, Option.map_none, Option.map_some, List.getElem?_toArray, List.getElem?_cons_zero, List.getElem?_cons_succ, Option.bind_some]
    | (refine wl Try.mx [(0,0),(1,0),(2,0),(3,0),(7,0),(8,0),(4,2),(5,0),(6,0),(9,2)] (by decide +kernel) fun K hK => ?_)
    | (refine wl Try.mx [(0,0),(1,0),(2,0),(3,0),(4,0),(5,3)] (by decide +kernel) fun K hK => ?_)
    | refine wb ?_ | refine wr ?_ | refine wk ?_ | refine we ?_ | refine ws ?_ | refine wq ?_
    | ((refine wc rfl (fun hc => ?_) (fun hc => ?_)) <;> (try simp at hc) <;> (try omega))
    | ((refine ib (fun hc => ?_) (fun hc => ?_)) <;> (try omega) <;> (try simp (disch := omega) only [if_pos, if_neg])))
    refine ⟨picks.length - (j + 1), by omega, j + 1, updT th t (some (lockStep s M).2.1), rfl, by omega, by simp, ?_, (lockStep s M).2.2, bn, by simp [g0], by simp [g1], by simp [g5], by simp [g7], hw3, linv_step (lockL_ok ls) hI hth, ?_⟩
    · intro u hu
      unfold updT
      split
      · simp
      · exact hsm u hu
    · refine hY.cast ?_
      unfold ExH
      rw [slots_same th bn ht3 hth, ← thH_in th bn ht3]
      ac_rfl
  have hlti : ¬ (j : Int) < picks.length := by omega
  repeat' (first
  | (refine lwc fun R hR => ?_; simp [wrap_i64, wrap_u64, g0, g1, g5, g7, g9, hlti, AW.row_get]; try simp (disch := omega) only [if_pos, if_neg, wrap_i64, wrap_u64])
  | (refine hR _ _ ?_; clear hR R) | (refine hK _ _ ?_; clear hK K) | refine lwn ?_ | refine lr ?_ | refine la ?_
  | refine wn fun K hK => ?_
  | simp only [nops, nop, lops, lop, slimG, List.map_cons, List.map_nil, List.filterMap_cons, List.filterMap_nil, Option.map_none, Option.map_some, List.getElem?_toArray, List.getElem?_cons_zero, List.getElem?_cons_succ, Option.bind_some]
  | (refine wl Try.mx [(0,0),(1,0),(2,0),(3,0),(7,0),(8,0),(4,2),(5,0),(6,0),(9,2)] (by decide +kernel) fun K hK => ?_)
  | (refine wl Try.mx [(0,0),(1,0),(2,0),(3,0),(4,0),(5,3)] (by decide +kernel) fun K hK => ?_)
  | refine wb ?_ | refine wr ?_ | refine wk ?_ | refine we ?_ | refine ws ?_ | refine wq ?_
  | ((refine wc rfl (fun hc => ?_) (fun hc => ?_)) <;> (try simp at hc) <;> (try omega))
  | ((refine ib (fun hc => ?_) (fun hc => ?_)) <;> (try omega) <;> (try simp (disch := omega) only [if_pos, if_neg])))
  obtain ⟨gb, hgb⟩ : ∃ gb, gb = A2.next := ⟨_, rfl⟩
  obtain ⟨c0, hc0⟩ : ∃ c0 : LCfg, c0 = ⟨M, th⟩ := ⟨_, rfl⟩
  have hI0 : LInv (lockL ls) c0.M c0.th := by rw [hc0]; exact hI
  refine awp_loop (fun k fr A' => ∃ (r : Nat), k = 120 - r ∧ r ≤ 120 ∧ fr 11 = .int .i64 r ∧ fr 0 = .slice ol ls.length cl ∧ fr 5 = .pointer (some ⟨pq, 0, none⟩) ∧ fr 7 = .pointer (some ⟨pq + 1, 0, none⟩) ∧ fr 10 = .pointer (some ⟨gb, 0, none⟩) ∧ A'.Wf ∧
    Sat A' (LvH pb pq mb gb bn (itF (lockL ls) r c0) * hfix A.get)) 120 ?_ ?_
  · have eg : gones th = [.bool false, .bool false, .bool false] := by
      have key : ∀ t, t < 3 → (th t).isNone = false := fun t ht => by
        cases e : th t with
        | none => exact absurd e (hsm t ht)
        | some s => rfl
      unfold gones
      rw [key 0 (by omega), key 1 (by omega), key 2 (by omega)]
    refine ⟨0, by simp, by omega, by simp, by simp [g0], by simp [g5], by simp [g7], by simp [hgb], hw2.alloc _, ?_⟩
    have h := hS.alloc hw2 (.cells (gones th) true 1)
    rw [eg] at h
    refine h.cast ?_
    show _ = LvH pb pq mb gb bn c0 * hfix A.get
    unfold LvH ExH
    rw [hc0, slots_full bn hsm, hgb]
    simp only
    rw [eg]
    ac_rfl
  clear hk2 hS hI g0 g1 g5 g7 g9 hw2 hsm hlt hlti hj hc0
  rintro k fr A2 ⟨r, rfl, hr, g11, g0, g5, g7, g10, hw2, hS⟩
  obtain ⟨c, hcd⟩ : ∃ c, c = itF (lockL ls) r c0 := ⟨_, rfl⟩
  have hI : LInv (lockL ls) c.M c.th := by rw [hcd]; exact linv_it (lockL_ok ls) hI0 r
  rw [← hcd] at hS
  by_cases hr1 : r < 120
  · have hri : (r : Int) < 120 := by omega
    have hr1' : IntKind.i64.wrap ((r : Int) + 1) = ((r + 1 : Nat) : Int) := wrap_i64 (by omega) (by omega)
    repeat' (first
    | (refine lwc fun R hR => ?_; simp [wrap_i64, wrap_u64, g11, g0, g5, g7, g10, hri, AW.row_get]; try simp (disch := omega) only [if_pos, if_neg, wrap_i64, wrap_u64])
    | (refine hR _ _ ?_; clear hR R) | (refine hK _ _ ?_; clear hK K) | refine lwn ?_ | refine lr ?_ | refine la ?_
    | refine wn fun K hK => ?_
    | simp only [nops, nop, lops, lop, slimG, List.map_cons, List.map_nil, List.filterMap_cons, List.filterMap_nil, Option.map_none, Option.map_some, List.getElem?_toArray, List.getElem?_cons_zero, List.getElem?_cons_succ, Option.bind_some]
    | (refine wl Try.mx [(0,0),(1,0),(2,0),(3,0),(7,0),(8,0),(4,2),(5,0),(6,0),(9,2)] (by decide +kernel) fun K hK => ?_)
    | (refine wl Try.mx [(0,0),(1,0),(2,0),(3,0),(4,0),(5,3)] (by decide +kernel) fun K hK => ?_)
    | refine wb ?_ | refine wr ?_ | refine wk ?_ | refine we ?_ | refine ws ?_ | refine wq ?_
    | ((refine wc rfl (fun hc => ?_) (fun hc => ?_)) <;> (try simp at hc) <;> (try omega))
    | ((refine ib (fun hc => ?_) (fun hc => ?_)) <;> (try omega) <;> (try simp (disch := omega) only [if_pos, if_neg])))
    refine awp_loop (fun k fr A' => ∃ (t : Nat), k = 3 - t ∧ t ≤ 3 ∧ fr 12 = .int .i64 t ∧ fr 11 = .int .i64 r ∧ fr 0 = .slice ol ls.length cl ∧ fr 5 = .pointer (some ⟨pq, 0, none⟩) ∧ fr 7 = .pointer (some ⟨pq + 1, 0, none⟩) ∧ fr 10 = .pointer (some ⟨gb, 0, none⟩) ∧ A'.Wf ∧
      Sat A' (LvH pb pq mb gb bn (partF (lockL ls) t c) * hfix A.get)) 3 ?_ ?_
    · exact ⟨0, by simp, by omega, by simp, by simp [g11], by simp [g0], by simp [g5], by simp [g7], by simp [g10], hw2, hS⟩
    rintro k fr3 A3 ⟨t, rfl, ht, f12, f11, f0, f5, f7, f10, hw3, hS3⟩
    by_cases ht3 : t < 3
    case neg =>
      have ht3' : t = 3 := by omega
      subst ht3'
      repeat' (first
      | (refine lwc fun R hR => ?_; simp [wrap_i64, wrap_u64, f12, f11, f0, f5, f7, f10, hr1', AW.row_get]; try simp (disch := omega) only [if_pos, if_neg, wrap_i64, wrap_u64])
      | (refine hR _ _ ?_; clear hR R) | (refine hK _ _ ?_; clear hK K) | refine lwn ?_ | refine lr ?_ | refine la ?_
      | refine wn fun K hK => ?_
      | simp only [nops, nop, lops, lop, slimG, List.map_cons, List.map_nil, List.filterMap_cons, List.filterMap_nil, Option.map_none, Option.map_some, List.getElem?_toArray, List.getElem?_cons_zero, List.getElem?_cons_succ, Option.bind_some]
      | (refine wl Try.mx [(0,0),(1,0),(2,0),(3,0),(7,0),(8,0),(4,2),(5,0),(6,0),(9,2)] (by decide +kernel) fun K hK => ?_)
      | (refine wl Try.mx [(0,0),(1,0),(2,0),(3,0),(4,0),(5,3)] (by decide +kernel) fun K hK => ?_)
      | refine wb ?_ | refine wr ?_ | refine wk ?_ | refine we ?_ | refine ws ?_ | refine wq ?_
      | ((refine wc rfl (fun hc => ?_) (fun hc => ?_)) <;> (try simp at hc) <;> (try omega))
      | ((refine ib (fun hc => ?_) (fun hc => ?_)) <;> (try omega) <;> (try simp (disch := omega) only [if_pos, if_neg])))
      refine ⟨120 - (r + 1), by omega, r + 1, rfl, by omega, by simp, by simp [f0], by simp [f5], by simp [f7], by simp [f10], hw3, ?_⟩
      rw [hcd] at hS3
      exact hS3
    have hti : (t : Int) < 3 := by omega
    have ht1 : IntKind.i64.wrap ((t : Int) + 1) = ((t + 1 : Nat) : Int) := wrap_i64 (by omega) (by omega)
    have hnext : partF (lockL ls) (t + 1) c = pureT (lockL ls) t (partF (lockL ls) t c) := rfl
    have hId := linv_part (lockL_ok ls) hI t
    obtain ⟨d, hd⟩ : ∃ d, d = partF (lockL ls) t c := ⟨_, rfl⟩
    rw [← hd] at hS3 hnext hId
    have hk3 : Keeps A A3 := Keeps.of_fix (F := LvH pb pq mb gb bn d) (hS3.cast (by ac_rfl))
    have hS4 : Sat A3 (pt gb (.cells (gones d.th) true 1) * (pt (pq + 1) (.cells (slotsB bn) true 1) * (pt pq (.cells [.pointer (some ⟨pb, 0, none⟩), .pointer (some ⟨mb, 0, none⟩)] true 1) * (bstar (thH d.th bn) 3 * (MemH pb d.M * hfix A.get))))) := hS3.cast (by unfold LvH; ac_rfl)
    have hgg := hS4.get
    have hga := hS4.right.get
    have hgq := hS4.right.right.get
    have hgt := gones_get d.th ht3
    have hsl := slotsB_get bn ht3
    rcases hth : d.th t with _ | s
    · rw [hth] at hgt
      simp only [Option.isNone_none] at hgt
      repeat' (first
      | (refine lwc fun R hR => ?_; simp [wrap_i64, wrap_u64, f12, f11, f0, f5, f7, f10, hgg, hgt, hti, ht1, AW.row_get]; try simp (disch := omega) only [if_pos, if_neg, wrap_i64, wrap_u64])
      | (refine hR _ _ ?_; clear hR R) | (refine hK _ _ ?_; clear hK K) | refine lwn ?_ | refine lr ?_ | refine la ?_
      | refine wn fun K hK => ?_
      | simp only [nops, nop, lops, lop, slimG, List.map_cons, List.map_nil, List.filterMap_cons, List.filterMap_nil, Option.map_none, Option.map_some, List.getElem?_toArray, List.getElem?_cons_zero, List.getElem?_cons_succ, Option.bind_some]
      | (refine wl Try.mx [(0,0),(1,0),(2,0),(3,0),(7,0),(8,0),(4,2),(5,0),(6,0),(9,2)] (by decide +kernel) fun K hK => ?_)
      | (refine wl Try.mx [(0,0),(1,0),(2,0),(3,0),(4,0),(5,3)] (by decide +kernel) fun K hK => ?_)
      | refine wb ?_ | refine wr ?_ | refine wk ?_ | refine we ?_ | refine ws ?_ | refine wq ?_
      | ((refine wc rfl (fun hc => ?_) (fun hc => ?_)) <;> (try simp at hc) <;> (try omega))
      | ((refine ib (fun hc => ?_) (fun hc => ?_)) <;> (try omega) <;> (try simp (disch := omega) only [if_pos, if_neg])))
      refine ⟨3 - (t + 1), by omega, t + 1, rfl, by omega, by simp, by simp [f11], by simp [f0], by simp [f5], by simp [f7], by simp [f10], hw3, ?_⟩
      have e : pureT (lockL ls) t d = d := by unfold pureT; rw [hth]
      rw [hnext, e]
      exact hS3
    rw [hth] at hgt
    simp only [Option.isNone_some] at hgt
    obtain ⟨k1, k2, k3, k4, k5, k6⟩ := hId.ok t s hth
    have hLk := lockL_ok ls t ht3
    have hLn := hLk.len
    have hS5 : Sat A3 (LockH (bn t) s * (MemH pb d.M * (pt gb (.cells (gones d.th) true 1) * (pt (pq + 1) (.cells (slotsB bn) true 1) * (pt pq (.cells [.pointer (some ⟨pb, 0, none⟩), .pointer (some ⟨mb, 0, none⟩)] true 1) * (bstar (updH (thH d.th bn) t hemp) 3 * hfix A.get)))))) := hS4.cast (by rw [thH_out ht3 hth]; ac_rfl)
    cases hdn : s.done
    · repeat' (first
    | (refine lwc fun R hR => ?_; simp [wrap_i64, wrap_u64, f12, f11, f0, f5, f7, f10, hgg, hgt, hga, hgq, hsl, hti, ht1, hdn, AW.row_get]; try simp (disch := omega) only [if_pos, if_neg, wrap_i64, wrap_u64])
    | (refine hR _ _ ?_; clear hR R) | (refine hK _ _ ?_; clear hK K) | refine lwn ?_ | refine lr ?_ | refine la ?_
    | refine wn fun K hK => ?_
    | simp only [nops, nop, lops, lop, slimG, List.map_cons, List.map_nil, List.filterMap_cons, List.filterMap_nil, Option.map_none, Option.map_some, List.getElem?_toArray, List.getElem?_cons_zero, List.getElem?_cons_succ, Option.bind_some]
    | (refine wl Try.mx [(0,0),(1,0),(2,0),(3,0),(7,0),(8,0),(4,2),(5,0),(6,0),(9,2)] (by decide +kernel) fun K hK => ?_)
    | (refine wl Try.mx [(0,0),(1,0),(2,0),(3,0),(4,0),(5,3)] (by decide +kernel) fun K hK => ?_)
    | (refine callK (lockDone_call (bn t) s _ _ hS5) ?_; rintro _ _ ⟨rfl, rfl⟩ _ _)
    | refine wb ?_ | refine wr ?_ | refine wk ?_ | refine we ?_ | refine ws ?_ | refine wq ?_
    | ((refine wc rfl (fun hc => ?_) (fun hc => ?_)) <;> (try simp at hc) <;> (try omega))
    | ((refine ib (fun hc => ?_) (fun hc => ?_)) <;> (try omega) <;> (try simp (disch := omega) only [if_pos, if_neg])))
      refine (lockStep_call (bn t) pb s d.M (by rw [k3]; exact k4) (by rw [k3]; show (lockL ls t).length < _; omega)).use hw3 hS5 (by ac_rfl : _ = (LockH (bn t) s * MemH pb d.M) * (pt gb (.cells (gones d.th) true 1) * (pt (pq + 1) (.cells (slotsB bn) true 1) * (pt pq (.cells [.pointer (some ⟨pb, 0, none⟩), .pointer (some ⟨mb, 0, none⟩)] true 1) * (bstar (updH (thH d.th bn) t hemp) 3 * hfix A.get))))) ?_
      intro v A4 hU hw4 _
      obtain ⟨rfl, hY⟩ := hU.unpost
      clear hU
      repeat' (first
      | (refine lwc fun R hR => ?_; simp [wrap_i64, wrap_u64, f12, f11, f0, f5, f7, f10, hti, ht1, AW.row_get]; try simp (disch := omega) only [if_pos, if_neg, wrap_i64, wrap_u64])
      | (refine hR _ _ ?_; clear hR R) | (refine hK _ _ ?_; clear hK K) | refine lwn ?_ | refine lr ?_ | refine la ?_
      | refine wn fun K hK => ?_
      | simp only [nops, nop, lops, lop, slimG, List.map_cons, List.map_nil, List.filterMap_cons, List.filterMap_nil, Option.map_none, Option.map_some, List.getElem?_toArray, List.getElem?_cons_zero, List.getElem?_cons_succ, Option.bind_some]
      | (refine wl Try.mx [(0,0),(1,0),(2,0),(3,0),(7,0),(8,0),(4,2),(5,0),(6,0),(9,2)] (by decide +kernel) fun K hK => ?_)
      | (refine wl Try.mx [(0,0),(1,0),(2,0),(3,0),(4,0),(5,3)] (by decide +kernel) fun K hK => ?_)
      | refine wb ?_ | refine wr ?_ | refine wk ?_ | refine we ?_ | refine ws ?_ | refine wq ?_
      | ((refine wc rfl (fun hc => ?_) (fun hc => ?_)) <;> (try simp at hc) <;> (try omega))
      | ((refine ib (fun hc => ?_) (fun hc => ?_)) <;> (try omega) <;> (try simp (disch := omega) only [if_pos, if_neg])))
      refine ⟨3 - (t + 1), by omega, t + 1, rfl, by omega, by simp, by simp [f11], by simp [f0], by simp [f5], by simp [f7], by simp [f10], hw4, ?_⟩
      have e : pureT (lockL ls) t d = ⟨(lockStep s d.M).2.2, updT d.th t (some (lockStep s d.M).2.1)⟩ := by unfold pureT; rw [hth]; simp [hdn]
      rw [hnext, e]
      refine hY.cast ?_
      unfold LvH
      simp only
      rw [gones_same d.th ht3 hth, ← thH_in d.th bn ht3]
      ac_rfl
    · repeat' (first
    | (refine lwc fun R hR => ?_; simp [wrap_i64, wrap_u64, f12, f11, f0, f5, f7, f10, hgg, hgt, hga, hgq, hsl, hti, ht1, hdn, AW.row_get]; try simp (disch := omega) only [if_pos, if_neg, wrap_i64, wrap_u64])
    | (refine hR _ _ ?_; clear hR R) | (refine hK _ _ ?_; clear hK K) | refine lwn ?_ | refine lr ?_ | refine la ?_
    | refine wn fun K hK => ?_
    | simp only [nops, nop, lops, lop, slimG, List.map_cons, List.map_nil, List.filterMap_cons, List.filterMap_nil, Option.map_none, Option.map_some, List.getElem?_toArray, List.getElem?_cons_zero, List.getElem?_cons_succ, Option.bind_some]
    | (refine wl Try.mx [(0,0),(1,0),(2,0),(3,0),(7,0),(8,0),(4,2),(5,0),(6,0),(9,2)] (by decide +kernel) fun K hK => ?_)
    | (refine wl Try.mx [(0,0),(1,0),(2,0),(3,0),(4,0),(5,3)] (by decide +kernel) fun K hK => ?_)
    | (refine callK (lockDone_call (bn t) s _ _ hS5) ?_; rintro _ _ ⟨rfl, rfl⟩ _ _)
    | refine wb ?_ | refine wr ?_ | refine wk ?_ | refine we ?_ | refine ws ?_ | refine wq ?_
    | ((refine wc rfl (fun hc => ?_) (fun hc => ?_)) <;> (try simp at hc) <;> (try omega))
    | ((refine ib (fun hc => ?_) (fun hc => ?_)) <;> (try omega) <;> (try simp (disch := omega) only [if_pos, if_neg])))
      refine callK (wants_call _ ls t A3 (hl.keeps hk3) ht3) ?_
      rintro u B1 ⟨o1, l1⟩ x1 _
      have hwl := wantsF_len ls t
      repeat' (first
      | (refine lwc fun R hR => ?_; simp [wrap_i64, wrap_u64, f12, f11, f0, f5, f7, f10, hti, AW.row_get]; try simp (disch := omega) only [if_pos, if_neg, wrap_i64, wrap_u64])
      | (refine hR _ _ ?_; clear hR R) | (refine hK _ _ ?_; clear hK K) | refine lwn ?_ | refine lr ?_ | refine la ?_
      | refine wn fun K hK => ?_
      | simp only [nops, nop, lops, lop, slimG, List.map_cons, List.map_nil, List.filterMap_cons, List.filterMap_nil, Option.map_none, Option.map_some, List.getElem?_toArray, List.getElem?_cons_zero, List.getElem?_cons_succ, Option.bind_some]
      | (refine wl Try.mx [(0,0),(1,0),(2,0),(3,0),(7,0),(8,0),(4,2),(5,0),(6,0),(9,2)] (by decide +kernel) fun K hK => ?_)
      | (refine wl Try.mx [(0,0),(1,0),(2,0),(3,0),(4,0),(5,3)] (by decide +kernel) fun K hK => ?_)
      | refine wb ?_ | refine wr ?_ | refine wk ?_ | refine we ?_ | refine ws ?_ | refine wq ?_
      | ((refine wc rfl (fun hc => ?_) (fun hc => ?_)) <;> (try simp at hc) <;> (try omega))
      | ((refine ib (fun hc => ?_) (fun hc => ?_)) <;> (try omega) <;> (try simp (disch := omega) only [if_pos, if_neg])))
      refine callK (sorted_call _ _ B1 o1.is (by omega)) ?_
      rintro u2 B2 ⟨o2, l2⟩ x2 _
      have l12 := l1.trans l2
      have hga2 := l12.keep hw3 hga
      obtain ⟨oo, co, rfl, _⟩ := o2.is.form
      repeat' (first
      | (refine lwc fun R hR => ?_; simp [wrap_i64, wrap_u64, f12, f11, f0, f5, f7, f10, hga2, hsl, hti, AW.row_get]; try simp (disch := omega) only [if_pos, if_neg, wrap_i64, wrap_u64])
      | (refine hR _ _ ?_; clear hR R) | (refine hK _ _ ?_; clear hK K) | refine lwn ?_ | refine lr ?_ | refine la ?_
      | refine wn fun K hK => ?_
      | simp only [nops, nop, lops, lop, slimG, List.map_cons, List.map_nil, List.filterMap_cons, List.filterMap_nil, Option.map_none, Option.map_some, List.getElem?_toArray, List.getElem?_cons_zero, List.getElem?_cons_succ, Option.bind_some]
      | (refine wl Try.mx [(0,0),(1,0),(2,0),(3,0),(7,0),(8,0),(4,2),(5,0),(6,0),(9,2)] (by decide +kernel) fun K hK => ?_)
      | (refine wl Try.mx [(0,0),(1,0),(2,0),(3,0),(4,0),(5,3)] (by decide +kernel) fun K hK => ?_)
      | refine wb ?_ | refine wr ?_ | refine wk ?_ | refine we ?_ | refine ws ?_ | refine wq ?_
      | ((refine wc rfl (fun hc => ?_) (fun hc => ?_)) <;> (try simp at hc) <;> (try omega))
      | ((refine ib (fun hc => ?_) (fun hc => ?_)) <;> (try omega) <;> (try simp (disch := omega) only [if_pos, if_neg])))
      refine callK (lockOld_call (bn t) s B2 _ (hS5.le hw3 l12) (by omega)) ?_
      rintro u3 B3 ⟨o3, l3⟩ x3 _
      obtain ⟨ow', cw', rfl, _⟩ := o3.is.form
      repeat' (first
      | (refine lwc fun R hR => ?_; simp [wrap_i64, wrap_u64, f12, f11, f0, f5, f7, f10, hti, AW.row_get]; try simp (disch := omega) only [if_pos, if_neg, wrap_i64, wrap_u64])
      | (refine hR _ _ ?_; clear hR R) | (refine hK _ _ ?_; clear hK K) | refine lwn ?_ | refine lr ?_ | refine la ?_
      | refine wn fun K hK => ?_
      | simp only [nops, nop, lops, lop, slimG, List.map_cons, List.map_nil, List.filterMap_cons, List.filterMap_nil, Option.map_none, Option.map_some, List.getElem?_toArray, List.getElem?_cons_zero, List.getElem?_cons_succ, Option.bind_some]
      | (refine wl Try.mx [(0,0),(1,0),(2,0),(3,0),(7,0),(8,0),(4,2),(5,0),(6,0),(9,2)] (by decide +kernel) fun K hK => ?_)
      | (refine wl Try.mx [(0,0),(1,0),(2,0),(3,0),(4,0),(5,3)] (by decide +kernel) fun K hK => ?_)
      | refine wb ?_ | refine wr ?_ | refine wk ?_ | refine we ?_ | refine ws ?_ | refine wq ?_
      | ((refine wc rfl (fun hc => ?_) (fun hc => ?_)) <;> (try simp at hc) <;> (try omega))
      | ((refine ib (fun hc => ?_) (fun hc => ?_)) <;> (try omega) <;> (try simp (disch := omega) only [if_pos, if_neg])))
      have hlen : s.old.length = (lockL ls t).length := by
        have h9 : s.old.length = s.orecs.length := by simpa [LockS.done] using hdn
        rw [k3] at h9
        exact h9
      have l13 := l12.trans l3
      refine callK (newRelease_call _ _ (lockL ls t) s.old B3 _ (o2.is.le l3 x2) o3.is hlen.symm (by omega) x3 (hS5.le hw3 l13)) ?_
      rintro v B4 ⟨br, rfl, hS6⟩ x4 _
      repeat' (first
      | (refine lwc fun R hR => ?_; simp [wrap_i64, wrap_u64, f12, f11, f0, f5, f7, f10, hti, AW.row_get]; try simp (disch := omega) only [if_pos, if_neg, wrap_i64, wrap_u64])
      | (refine hR _ _ ?_; clear hR R) | (refine hK _ _ ?_; clear hK K) | refine lwn ?_ | refine lr ?_ | refine la ?_
      | refine wn fun K hK => ?_
      | simp only [nops, nop, lops, lop, slimG, List.map_cons, List.map_nil, List.filterMap_cons, List.filterMap_nil, Option.map_none, Option.map_some, List.getElem?_toArray, List.getElem?_cons_zero, List.getElem?_cons_succ, Option.bind_some]
      | (refine wl Try.mx [(0,0),(1,0),(2,0),(3,0),(7,0),(8,0),(4,2),(5,0),(6,0),(9,2)] (by decide +kernel) fun K hK => ?_)
      | (refine wl Try.mx [(0,0),(1,0),(2,0),(3,0),(4,0),(5,3)] (by decide +kernel) fun K hK => ?_)
      | refine wb ?_ | refine wr ?_ | refine wk ?_ | refine we ?_ | refine ws ?_ | refine wq ?_
      | ((refine wc rfl (fun hc => ?_) (fun hc => ?_)) <;> (try simp at hc) <;> (try omega))
      | ((refine ib (fun hc => ?_) (fun hc => ?_)) <;> (try omega) <;> (try simp (disch := omega) only [if_pos, if_neg])))
      refine awp_loop (fun k fr' A' => ∃ i : Nat, k = (lockL ls t).length - i ∧ i ≤ (lockL ls t).length ∧ fr' 15 = .int .i64 i ∧ fr' 13 = .slice oo (lockL ls t).length co ∧ fr' 14 = .pointer (some ⟨br, 0, none⟩) ∧ fr' 12 = .int .i64 t ∧ fr' 11 = .int .i64 r ∧ fr' 0 = .slice ol ls.length cl ∧
        fr' 5 = .pointer (some ⟨pq, 0, none⟩) ∧ fr' 7 = .pointer (some ⟨pq + 1, 0, none⟩) ∧ fr' 10 = .pointer (some ⟨gb, 0, none⟩) ∧ A'.Wf ∧
        Sat A' (RelH br ⟨(lockL ls t).drop i, s.old.drop i⟩ * (MemH pb (relM (lockL ls t) d.M i) * (pt gb (.cells (gones d.th) true 1) * (pt (pq + 1) (.cells (slotsB bn) true 1) * (pt pq (.cells [.pointer (some ⟨pb, 0, none⟩), .pointer (some ⟨mb, 0, none⟩)] true 1) * (bstar (updH (thH d.th bn) t hemp) 3 * hfix A.get))))))) (lockL ls t).length ?_ ?_
      · refine ⟨0, by simp, by simp, by simp, by simp [lockL], by simp, by simp [f12], by simp [f11], by simp [f0], by simp [f5], by simp [f7], by simp [f10], x4, ?_⟩
        have h7 : Sat B4 (LockH (bn t) s * (RelH br ⟨lockL ls t, s.old⟩ * (MemH pb d.M * (pt gb (.cells (gones d.th) true 1) * (pt (pq + 1) (.cells (slotsB bn) true 1) * (pt pq (.cells [.pointer (some ⟨pb, 0, none⟩), .pointer (some ⟨mb, 0, none⟩)] true 1) * (bstar (updH (thH d.th bn) t hemp) 3 * hfix A.get))))))) := hS6.cast (by ac_rfl)
        exact h7.right
      rintro k fr4 B5 ⟨i, rfl, hi, d15, d13, d14, d12, d11, d0, d5, d7, d10, x5, hS7⟩
      by_cases hlt2 : i < (lockL ls t).length
      · have hlt2i : (i : Int) < (lockL ls t).length := by omega
        have hgq5 := (hS7.cast (by ac_rfl) : Sat B5 (pt pq (.cells [.pointer (some ⟨pb, 0, none⟩), .pointer (some ⟨mb, 0, none⟩)] true 1) * (RelH br ⟨(lockL ls t).drop i, s.old.drop i⟩ * (MemH pb (relM (lockL ls t) d.M i) * (pt gb (.cells (gones d.th) true 1) * (pt (pq + 1) (.cells (slotsB bn) true 1) * (bstar (updH (thH d.th bn) t hemp) 3 * hfix A.get))))))).get
        repeat' (first
        | (refine lwc fun R hR => ?_; simp [wrap_i64, wrap_u64, d15, d13, d14, d12, d11, d0, d5, d7, d10, hgq5, hlt2, hlt2i, AW.row_get]; try simp (disch := omega) only [if_pos, if_neg, wrap_i64, wrap_u64])
        | (refine hR _ _ ?_; clear hR R) | (refine hK _ _ ?_; clear hK K) | refine lwn ?_ | refine lr ?_ | refine la ?_
        | refine wn fun K hK => ?_
        | simp only [nops, nop, lops, lop, slimG, List.map_cons, List.map_nil, List.filterMap_cons, List.filterMap_nil, Option.map_none, Option.map_some, List.getElem?_toArray, List.getElem?_cons_zero, List.getElem?_cons_succ, Option.bind_some]
        | (refine wl Try.mx [(0,0),(1,0),(2,0),(3,0),(7,0),(8,0),(4,2),(5,0),(6,0),(9,2)] (by decide +kernel) fun K hK => ?_)
        | (refine wl Try.mx [(0,0),(1,0),(2,0),(3,0),(4,0),(5,3)] (by decide +kernel) fun K hK => ?_)
        | refine wb ?_ | refine wr ?_ | refine wk ?_ | refine we ?_ | refine ws ?_ | refine wq ?_
        | ((refine wc rfl (fun hc => ?_) (fun hc => ?_)) <;> (try simp at hc) <;> (try omega))
        | ((refine ib (fun hc => ?_) (fun hc => ?_)) <;> (try omega) <;> (try simp (disch := omega) only [if_pos, if_neg])))
        refine (relStep_call br pb _ _ (by simp; omega)).use x5 hS7 (by ac_rfl : _ = (RelH br ⟨(lockL ls t).drop i, s.old.drop i⟩ * MemH pb (relM (lockL ls t) d.M i)) * (pt gb (.cells (gones d.th) true 1) * (pt (pq + 1) (.cells (slotsB bn) true 1) * (pt pq (.cells [.pointer (some ⟨pb, 0, none⟩), .pointer (some ⟨mb, 0, none⟩)] true 1) * (bstar (updH (thH d.th bn) t hemp) 3 * hfix A.get))))) ?_
        intro v B6 hU x6 _
        obtain ⟨rfl, hY⟩ := hU.unpost
        clear hU
        have hrun := relStep_run hId.w6 hLk k5 hlen.symm hlt2
        rw [hrun] at hY
        have hi1 : IntKind.i64.wrap ((i : Int) + 1) = ((i + 1 : Nat) : Int) := wrap_i64 (by omega) (by omega)
        repeat' (first
        | (refine lwc fun R hR => ?_; simp [wrap_i64, wrap_u64, d15, d13, d14, d12, d11, d0, d5, d7, d10, hi1, AW.row_get]; try simp (disch := omega) only [if_pos, if_neg, wrap_i64, wrap_u64])
        | (refine hR _ _ ?_; clear hR R) | (refine hK _ _ ?_; clear hK K) | refine lwn ?_ | refine lr ?_ | refine la ?_
        | refine wn fun K hK => ?_
        | simp only [nops, nop, lops, lop, slimG, List.map_cons, List.map_nil, List.filterMap_cons, List.filterMap_nil, Option.map_none, Option.map_some, List.getElem?_toArray, List.getElem?_cons_zero, List.getElem?_cons_succ, Option.bind_some]
        | (refine wl Try.mx [(0,0),(1,0),(2,0),(3,0),(7,0),(8,0),(4,2),(5,0),(6,0),(9,2)] (by decide +kernel) fun K hK => ?_)
        | (refine wl Try.mx [(0,0),(1,0),(2,0),(3,0),(4,0),(5,3)] (by decide +kernel) fun K hK => ?_)
        | refine wb ?_ | refine wr ?_ | refine wk ?_ | refine we ?_ | refine ws ?_ | refine wq ?_
        | ((refine wc rfl (fun hc => ?_) (fun hc => ?_)) <;> (try simp at hc) <;> (try omega))
        | ((refine ib (fun hc => ?_) (fun hc => ?_)) <;> (try omega) <;> (try simp (disch := omega) only [if_pos, if_neg])))
        exact ⟨(lockL ls t).length - (i + 1), by omega, i + 1, rfl, by omega, by simp, by simp [d13], by simp [d14], by simp [d12], by simp [d11], by simp [d0], by simp [d5], by simp [d7], by simp [d10], x6, hY.cast (by ac_rfl)⟩
      · have hlt2i : ¬ (i : Int) < (lockL ls t).length := by omega
        have hin : i = (lockL ls t).length := by omega
        have hS8 : Sat B5 (pt gb (.cells (gones d.th) true 1) * (MemH pb (relM (lockL ls t) d.M i) * (pt (pq + 1) (.cells (slotsB bn) true 1) * (pt pq (.cells [.pointer (some ⟨pb, 0, none⟩), .pointer (some ⟨mb, 0, none⟩)] true 1) * (bstar (updH (thH d.th bn) t hemp) 3 * hfix A.get))))) := hS7.right.cast (by ac_rfl)
        have hgg5 := hS8.get
        have hbd : t + 1 ≤ (gones d.th).length := by show t + 1 ≤ 3; omega
        repeat' (first
        | (refine lwc fun R hR => ?_; simp [wrap_i64, wrap_u64, d15, d13, d14, d12, d11, d0, d5, d7, d10, hgg5, hbd, hlt2, hlt2i, hti, ht1, AW.row_get, astore]; try simp (disch := omega) only [if_pos, if_neg, wrap_i64, wrap_u64])
        | (refine hR _ _ ?_; clear hR R) | (refine hK _ _ ?_; clear hK K) | refine lwn ?_ | refine lr ?_ | refine la ?_
        | refine wn fun K hK => ?_
        | simp only [nops, nop, lops, lop, slimG, List.map_cons, List.map_nil, List.filterMap_cons, List.filterMap_nil, Option.map_none, Option.map_some, List.getElem?_toArray, List.getElem?_cons_zero, List.getElem?_cons_succ, Option.bind_some]
        | (refine wl Try.mx [(0,0),(1,0),(2,0),(3,0),(7,0),(8,0),(4,2),(5,0),(6,0),(9,2)] (by decide +kernel) fun K hK => ?_)
        | (refine wl Try.mx [(0,0),(1,0),(2,0),(3,0),(4,0),(5,3)] (by decide +kernel) fun K hK => ?_)
        | refine wb ?_ | refine wr ?_ | refine wk ?_ | refine we ?_ | refine ws ?_ | refine wq ?_
        | ((refine wc rfl (fun hc => ?_) (fun hc => ?_)) <;> (try simp at hc) <;> (try omega))
        | ((refine ib (fun hc => ?_) (fun hc => ?_)) <;> (try omega) <;> (try simp (disch := omega) only [if_pos, if_neg])))
        refine ⟨3 - (t + 1), by omega, t + 1, rfl, by omega, by simp, by simp [d11], by simp [d0], by simp [d5], by simp [d7], by simp [d10], x5.set _ (x5.lt hgg5), ?_⟩
        have e : pureT (lockL ls) t d = ⟨relM (lockL ls t) d.M (lockL ls t).length, updT d.th t none⟩ := by unfold pureT; rw [hth]; simp [hdn]
        rw [hnext, e]
        refine (hS8.set (.cells ((gones d.th).set t (.bool true)) true 1)).cast ?_
        unfold LvH
        simp only
        rw [gones_set d.th ht3, ← thH_off d.th bn ht3, hin]
        ac_rfl
  have hr120 : r = 120 := by omega
  subst hr120
  obtain ⟨hgone, hzero⟩ := all_gone (lockL_ok ls) hI0
  rw [← hcd] at hgone hzero
  have h16 := hI.w6.l1
  have hS4 : Sat A2 (pt gb (.cells (gones c.th) true 1) * (MemH pb c.M * (pt (pq + 1) (.cells (slotsB bn) true 1) * (pt pq (.cells [.pointer (some ⟨pb, 0, none⟩), .pointer (some ⟨mb, 0, none⟩)] true 1) * (bstar (thH c.th bn) 3 * hfix A.get))))) := hS.cast (by unfold LvH; ac_rfl)
  have hgg := hS4.get
  have hgq := hS4.right.right.right.get
  have hgo : gones c.th = [.bool true, .bool true, .bool true] := by
    unfold gones
    rw [hgone 0 (by omega), hgone 1 (by omega), hgone 2 (by omega)]; rfl
  rw [hgo] at hgg
  repeat' (first
  | (refine lwc fun R hR => ?_; simp [wrap_i64, wrap_u64, g11, g0, g5, g7, g10, hgq, AW.row_get]; try simp (disch := omega) only [if_pos, if_neg, wrap_i64, wrap_u64])
  | (refine hR _ _ ?_; clear hR R) | (refine hK _ _ ?_; clear hK K) | refine lwn ?_ | refine lr ?_ | refine la ?_
  | refine wn fun K hK => ?_
  | simp only [nops, nop, lops, lop, slimG, List.map_cons, List.map_nil, List.filterMap_cons, List.filterMap_nil, Option.map_none, Option.map_some, List.getElem?_toArray, List.getElem?_cons_zero, List.getElem?_cons_succ, Option.bind_some]
  | (refine wl Try.mx [(0,0),(1,0),(2,0),(3,0),(7,0),(8,0),(4,2),(5,0),(6,0),(9,2)] (by decide +kernel) fun K hK => ?_)
  | (refine wl Try.mx [(0,0),(1,0),(2,0),(3,0),(4,0),(5,3)] (by decide +kernel) fun K hK => ?_)
  | refine wb ?_ | refine wr ?_ | refine wk ?_ | refine we ?_ | refine ws ?_ | refine wq ?_
  | ((refine wc rfl (fun hc => ?_) (fun hc => ?_)) <;> (try simp at hc) <;> (try omega))
  | ((refine ib (fun hc => ?_) (fun hc => ?_)) <;> (try omega) <;> (try simp (disch := omega) only [if_pos, if_neg])))
  refine callK (image_call pb c.M A2 _ hS4.right hI.w6.len (by rw [hI.w6.l2]; decide) (by rw [hI.w6.l3]; decide) (by rw [hI.w6.l4]; decide)) ?_
  rintro v A3 ⟨⟨v0, v1, v5, v6, v7, rfl, i0, i1, i5, i6, i7⟩, l3⟩ hw3 _
  obtain ⟨o1, c1, rfl, _⟩ := i1.form
  rw [h16] at i1
  have hgg3 := l3.keep hw2 hgg
  repeat' (first
  | (refine lwc fun R hR => ?_; simp [wrap_i64, wrap_u64, g0, g5, g7, g10, h16, AW.row_get]; try simp (disch := omega) only [if_pos, if_neg, wrap_i64, wrap_u64])
  | (refine hR _ _ ?_; clear hR R) | (refine hK _ _ ?_; clear hK K) | refine lwn ?_ | refine lr ?_ | refine la ?_
  | refine wn fun K hK => ?_
  | simp only [nops, nop, lops, lop, slimG, List.map_cons, List.map_nil, List.filterMap_cons, List.filterMap_nil, Option.map_none, Option.map_some, List.getElem?_toArray, List.getElem?_cons_zero, List.getElem?_cons_succ, Option.bind_some]
  | (refine wl Try.mx [(0,0),(1,0),(2,0),(3,0),(7,0),(8,0),(4,2),(5,0),(6,0),(9,2)] (by decide +kernel) fun K hK => ?_)
  | (refine wl Try.mx [(0,0),(1,0),(2,0),(3,0),(4,0),(5,3)] (by decide +kernel) fun K hK => ?_)
  | refine wb ?_ | refine wr ?_ | refine wk ?_ | refine we ?_ | refine ws ?_ | refine wq ?_
  | ((refine wc rfl (fun hc => ?_) (fun hc => ?_)) <;> (try simp at hc) <;> (try omega))
  | ((refine ib (fun hc => ?_) (fun hc => ?_)) <;> (try omega) <;> (try simp (disch := omega) only [if_pos, if_neg])))
  refine awp_loop (fun k fr' A' => A3 = A' ∧ ∃ q : Nat, k = 6 - q ∧ q ≤ 6 ∧ fr' 17 = .int .i64 q ∧ fr' 16 = .slice o1 6 c1 ∧ fr' 10 = .pointer (some ⟨gb, 0, none⟩)) 6 ?_ ?_
  · exact ⟨rfl, 0, by simp, by simp, by simp, by simp [h16], by simp [g10]⟩
  rintro k fr6 _ ⟨rfl, q, rfl, hq, d17, d16, d10⟩
  by_cases hq6 : q < 6
  · have hqi : (q : Int) < 6 := by omega
    have hq1 : IntKind.i64.wrap ((q : Int) + 1) = ((q + 1 : Nat) : Int) := wrap_i64 (by omega) (by omega)
    obtain ⟨p1, r1, w1, e1', g1', c1'⟩ := i1.atg (i := q) (by omega)
    subst e1'
    have hMx : (c.M 1)[q] = 0 := by rw [← hzero q hq6]; unfold ow; rw [List.getD_eq_getElem?_getD, List.getElem?_eq_getElem (by omega)]; rfl
    rw [hMx] at c1'
    repeat' (first
    | (refine lwc fun R hR => ?_; simp [wrap_i64, wrap_u64, d17, d16, d10, hqi, hq1, g1', c1', AW.row_get]; try simp (disch := omega) only [if_pos, if_neg, wrap_i64, wrap_u64])
    | (refine hR _ _ ?_; clear hR R) | (refine hK _ _ ?_; clear hK K) | refine lwn ?_ | refine lr ?_ | refine la ?_
    | refine wn fun K hK => ?_
    | simp only [nops, nop, lops, lop, slimG, List.map_cons, List.map_nil, List.filterMap_cons, List.filterMap_nil, Option.map_none, Option.map_some, List.getElem?_toArray, List.getElem?_cons_zero, List.getElem?_cons_succ, Option.bind_some]
    | (refine wl Try.mx [(0,0),(1,0),(2,0),(3,0),(7,0),(8,0),(4,2),(5,0),(6,0),(9,2)] (by decide +kernel) fun K hK => ?_)
    | (refine wl Try.mx [(0,0),(1,0),(2,0),(3,0),(4,0),(5,3)] (by decide +kernel) fun K hK => ?_)
    | refine wb ?_ | refine wr ?_ | refine wk ?_ | refine we ?_ | refine ws ?_ | refine wq ?_
    | ((refine wc rfl (fun hc => ?_) (fun hc => ?_)) <;> (try simp at hc) <;> (try omega))
    | ((refine ib (fun hc => ?_) (fun hc => ?_)) <;> (try omega) <;> (try simp (disch := omega) only [if_pos, if_neg])))
    exact ⟨6 - (q + 1), by omega, rfl, q + 1, rfl, by omega, by simp, by simp [d16], by simp [d10]⟩
  · have hqi : ¬ (q : Int) < 6 := by omega
    repeat' (first
    | (refine lwc fun R hR => ?_; simp [wrap_i64, wrap_u64, d17, d16, d10, hqi, hgg3, AW.row_get]; try simp (disch := omega) only [if_pos, if_neg, wrap_i64, wrap_u64])
    | (refine hR _ _ ?_; clear hR R) | (refine hK _ _ ?_; clear hK K) | refine lwn ?_ | refine lr ?_ | refine la ?_
    | refine wn fun K hK => ?_
    | simp only [nops, nop, lops, lop, slimG, List.map_cons, List.map_nil, List.filterMap_cons, List.filterMap_nil, Option.map_none, Option.map_some, List.getElem?_toArray, List.getElem?_cons_zero, List.getElem?_cons_succ, Option.bind_some]
    | (refine wl Try.mx [(0,0),(1,0),(2,0),(3,0),(7,0),(8,0),(4,2),(5,0),(6,0),(9,2)] (by decide +kernel) fun K hK => ?_)
    | (refine wl Try.mx [(0,0),(1,0),(2,0),(3,0),(4,0),(5,3)] (by decide +kernel) fun K hK => ?_)
    | refine wb ?_ | refine wr ?_ | refine wk ?_ | refine we ?_ | refine ws ?_ | refine wq ?_
    | ((refine wc rfl (fun hc => ?_) (fun hc => ?_)) <;> (try simp at hc) <;> (try omega))
    | ((refine ib (fun hc => ?_) (fun hc => ?_)) <;> (try omega) <;> (try simp (disch := omega) only [if_pos, if_neg])))
    refine callK (awake_call A3 hemp (Sat.emp A3)) ?_
    rintro _ A4 ⟨rfl, _⟩ w4 _
    repeat' (first
    | (refine lwc fun R hR => ?_; simp [wrap_i64, wrap_u64, h60]; try simp (disch := omega) only [if_pos, if_neg, wrap_i64, wrap_u64])
    | (refine hR _ _ ?_; clear hR R) | (refine hK _ _ ?_; clear hK K) | refine lwn ?_ | refine lr ?_ | refine la ?_
    | refine wn fun K hK => ?_
    | simp only [nops, nop, lops, lop, slimG, List.map_cons, List.map_nil, List.filterMap_cons, List.filterMap_nil, Option.map_none, Option.map_some, List.getElem?_toArray, List.getElem?_cons_zero, List.getElem?_cons_succ, Option.bind_some]
    | (refine wl Try.mx [(0,0),(1,0),(2,0),(3,0),(7,0),(8,0),(4,2),(5,0),(6,0),(9,2)] (by decide +kernel) fun K hK => ?_)
    | (refine wl Try.mx [(0,0),(1,0),(2,0),(3,0),(4,0),(5,3)] (by decide +kernel) fun K hK => ?_)
    | refine wb ?_ | refine wr ?_ | refine wk ?_ | refine we ?_ | refine ws ?_ | refine wq ?_
    | ((refine wc rfl (fun hc => ?_) (fun hc => ?_)) <;> (try simp at hc) <;> (try omega))
    | ((refine ib (fun hc => ?_) (fun hc => ?_)) <;> (try omega) <;> (try simp (disch := omega) only [if_pos, if_neg])))
    simp

end Go.Stx
