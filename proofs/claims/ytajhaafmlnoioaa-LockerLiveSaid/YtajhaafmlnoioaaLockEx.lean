/-
  The statement on locks that exclude one another.
-/
import Derived.Test.YtajhaafmlnoioaaLockY
import Derived.Test.YtajhaafmlnoioaaAwake15
import Derived.Test.YtajhaafmlnoioaaRelC
namespace Go.Stx
open Go Go.Proofs
attribute [local irreducible] AWP LWalk ACall ARounds lops nops
set_option linter.unusedVariables false
set_option linter.unusedSimpArgs false

/-- What holds when a round begins. -/
def ExJ (pb pq mb ab : Nat) (A : AW) (ls : List (List Int)) (ol op : Option Addr) (nl cl np cp : Nat) (th : Ths) (fr : Fr) (A' : AW) : Prop :=
  ∃ M bn, fr 0 = .slice ol nl cl ∧ fr 1 = .slice op np cp ∧ fr 5 = .pointer (some ⟨pq, 0, none⟩) ∧ fr 7 = .pointer (some ⟨ab, 0, none⟩) ∧ A'.Wf ∧ LInv (lockL ls) M th ∧ Sat A' (ExH pb pq mb ab M th bn * hfix A.get)

set_option maxRecDepth 100000 in
set_option maxHeartbeats 4000000 in
theorem lockerExcludes_call (vl vp : Value) (ls : List (List Int)) (picks : List Int) (A : AW) (hl : IsRows A vl ls) (hp : IsInts A .i64 vp picks) :
    ACall Try.prog 5 [vl, vp] A (fun v A' => v = .bool true) := by
  refine acall_intro Try.func5 rfl (by kernel_rfl) fun hw => ?_
  obtain ⟨ol, cl, rfl, _⟩ := hl.form
  obtain ⟨op, cp, rfl, _⟩ := hp.form
  by_cases h80 : 80 < picks.length
  · have h80i : (80 : Int) < picks.length := by omega
    repeat' (first
    | (refine lwc fun R hR => ?_; simp [wrap_i64, wrap_u64, h80, h80i]; try simp (disch := omega) only [if_pos, if_neg, wrap_i64, wrap_u64])
    | (refine hR _ _ ?_; clear hR R) | (refine hK _ _ ?_; clear hK K) | refine lwn ?_ | refine lr ?_ | refine la ?_
    | refine wn fun K hK => ?_
    | simp only [nops, nop, lops, lop, slimG, List.map_cons, List.map_nil, List.filterMap_cons, List.filterMap_nil, Option.map_none, Option.map_some, List.getElem?_toArray, List.getElem?_cons_zero, List.getElem?_cons_succ, Option.bind_some]
    | (refine wl Try.mx [(0,0),(1,0),(4,0),(5,0),(6,0),(2,2),(3,2),(7,2),(8,0),(9,0)] (by decide +kernel) fun K hK => ?_)
    | (refine wl Try.mx [(0,0),(1,0),(2,0),(3,0),(4,0),(5,3)] (by decide +kernel) fun K hK => ?_)
    | (refine wl Try.mx [(0,0),(1,0),(2,0),(3,0),(4,0),(5,0),(6,0),(7,0),(8,0),(9,0),(10,0),(11,0),(12,0),(13,0),(14,0),(15,0),(16,0),(17,0),(18,0),(19,0),(20,0),(21,0),(22,0),(23,0),(24,0),(25,0),(26,0),(27,0),(28,0),(29,0),(30,0),(31,0),(32,0),(33,0),(34,0),(36,0),(35,2),(37,0),(38,0),(39,0),(40,0),(41,0),(42,0),(43,0),(44,0),(45,0),(46,0),(48,0),(49,0),(50,0),(51,0),(47,2),(52,2),(53,0),(54,0)] (by decide +kernel) fun K hK => ?_)
    | refine wb ?_ | refine wr ?_ | refine wk ?_ | refine we ?_ | refine ws ?_ | refine wq ?_
    | ((refine wc rfl (fun hc => ?_) (fun hc => ?_)) <;> (try simp at hc) <;> (try omega))
    | ((refine ib (fun hc => ?_) (fun hc => ?_)) <;> (try omega) <;> (try simp (disch := omega) only [if_pos, if_neg])))
    refine callK (awake_call A hemp (Sat.emp A)) ?_
    rintro _ A1 ⟨rfl, _⟩ w1 _
    repeat' (first
    | (refine lwc fun R hR => ?_; simp [wrap_i64, wrap_u64, h80]; try simp (disch := omega) only [if_pos, if_neg, wrap_i64, wrap_u64])
    | (refine hR _ _ ?_; clear hR R) | (refine hK _ _ ?_; clear hK K) | refine lwn ?_ | refine lr ?_ | refine la ?_
    | refine wn fun K hK => ?_
    | simp only [nops, nop, lops, lop, slimG, List.map_cons, List.map_nil, List.filterMap_cons, List.filterMap_nil, Option.map_none, Option.map_some, List.getElem?_toArray, List.getElem?_cons_zero, List.getElem?_cons_succ, Option.bind_some]
    | (refine wl Try.mx [(0,0),(1,0),(4,0),(5,0),(6,0),(2,2),(3,2),(7,2),(8,0),(9,0)] (by decide +kernel) fun K hK => ?_)
    | (refine wl Try.mx [(0,0),(1,0),(2,0),(3,0),(4,0),(5,3)] (by decide +kernel) fun K hK => ?_)
    | (refine wl Try.mx [(0,0),(1,0),(2,0),(3,0),(4,0),(5,0),(6,0),(7,0),(8,0),(9,0),(10,0),(11,0),(12,0),(13,0),(14,0),(15,0),(16,0),(17,0),(18,0),(19,0),(20,0),(21,0),(22,0),(23,0),(24,0),(25,0),(26,0),(27,0),(28,0),(29,0),(30,0),(31,0),(32,0),(33,0),(34,0),(36,0),(35,2),(37,0),(38,0),(39,0),(40,0),(41,0),(42,0),(43,0),(44,0),(45,0),(46,0),(48,0),(49,0),(50,0),(51,0),(47,2),(52,2),(53,0),(54,0)] (by decide +kernel) fun K hK => ?_)
    | refine wb ?_ | refine wr ?_ | refine wk ?_ | refine we ?_ | refine ws ?_ | refine wq ?_
    | ((refine wc rfl (fun hc => ?_) (fun hc => ?_)) <;> (try simp at hc) <;> (try omega))
    | ((refine ib (fun hc => ?_) (fun hc => ?_)) <;> (try omega) <;> (try simp (disch := omega) only [if_pos, if_neg])))
    simp
  have h80i : ¬ (80 : Int) < picks.length := by omega
  repeat' (first
  | (refine lwc fun R hR => ?_; simp [wrap_i64, wrap_u64, h80, h80i]; try simp (disch := omega) only [if_pos, if_neg, wrap_i64, wrap_u64])
  | (refine hR _ _ ?_; clear hR R) | (refine hK _ _ ?_; clear hK K) | refine lwn ?_ | refine lr ?_ | refine la ?_
  | refine wn fun K hK => ?_
  | simp only [nops, nop, lops, lop, slimG, List.map_cons, List.map_nil, List.filterMap_cons, List.filterMap_nil, Option.map_none, Option.map_some, List.getElem?_toArray, List.getElem?_cons_zero, List.getElem?_cons_succ, Option.bind_some]
  | (refine wl Try.mx [(0,0),(1,0),(4,0),(5,0),(6,0),(2,2),(3,2),(7,2),(8,0),(9,0)] (by decide +kernel) fun K hK => ?_)
  | (refine wl Try.mx [(0,0),(1,0),(2,0),(3,0),(4,0),(5,3)] (by decide +kernel) fun K hK => ?_)
  | (refine wl Try.mx [(0,0),(1,0),(2,0),(3,0),(4,0),(5,0),(6,0),(7,0),(8,0),(9,0),(10,0),(11,0),(12,0),(13,0),(14,0),(15,0),(16,0),(17,0),(18,0),(19,0),(20,0),(21,0),(22,0),(23,0),(24,0),(25,0),(26,0),(27,0),(28,0),(29,0),(30,0),(31,0),(32,0),(33,0),(34,0),(36,0),(35,2),(37,0),(38,0),(39,0),(40,0),(41,0),(42,0),(43,0),(44,0),(45,0),(46,0),(48,0),(49,0),(50,0),(51,0),(47,2),(52,2),(53,0),(54,0)] (by decide +kernel) fun K hK => ?_)
  | (refine callK (config_call _) ?_; rintro _ _ ⟨rfl, rfl⟩ _ _)
  | refine wb ?_ | refine wr ?_ | refine wk ?_ | refine we ?_ | refine ws ?_ | refine wq ?_
  | ((refine wc rfl (fun hc => ?_) (fun hc => ?_)) <;> (try simp at hc) <;> (try omega))
  | ((refine ib (fun hc => ?_) (fun hc => ?_)) <;> (try omega) <;> (try simp (disch := omega) only [if_pos, if_neg])))
  have hS0 : Sat A (hfix A.get) := ⟨A.get, rfl, fun i o h => h⟩
  refine callK (start_cfg 3 A (hfix A.get) hw hS0 (by omega) (by omega)) ?_
  rintro v A1 ⟨pb, mb, rfl, hS1⟩ hw1 _
  repeat' (first
  | (refine lwc fun R hR => ?_; simp [wrap_i64, wrap_u64, AW.row_get, astore]; try simp (disch := omega) only [if_pos, if_neg, wrap_i64, wrap_u64])
  | (refine hR _ _ ?_; clear hR R) | (refine hK _ _ ?_; clear hK K) | refine lwn ?_ | refine lr ?_ | refine la ?_
  | refine wn fun K hK => ?_
  | simp only [nops, nop, lops, lop, slimG, List.map_cons, List.map_nil, List.filterMap_cons, List.filterMap_nil, Option.map_none, Option.map_some, List.getElem?_toArray, List.getElem?_cons_zero, List.getElem?_cons_succ, Option.bind_some]
  | (refine wl Try.mx [(0,0),(1,0),(4,0),(5,0),(6,0),(2,2),(3,2),(7,2),(8,0),(9,0)] (by decide +kernel) fun K hK => ?_)
  | (refine wl Try.mx [(0,0),(1,0),(2,0),(3,0),(4,0),(5,3)] (by decide +kernel) fun K hK => ?_)
  | (refine wl Try.mx [(0,0),(1,0),(2,0),(3,0),(4,0),(5,0),(6,0),(7,0),(8,0),(9,0),(10,0),(11,0),(12,0),(13,0),(14,0),(15,0),(16,0),(17,0),(18,0),(19,0),(20,0),(21,0),(22,0),(23,0),(24,0),(25,0),(26,0),(27,0),(28,0),(29,0),(30,0),(31,0),(32,0),(33,0),(34,0),(36,0),(35,2),(37,0),(38,0),(39,0),(40,0),(41,0),(42,0),(43,0),(44,0),(45,0),(46,0),(48,0),(49,0),(50,0),(51,0),(47,2),(52,2),(53,0),(54,0)] (by decide +kernel) fun K hK => ?_)
  | refine wb ?_ | refine wr ?_ | refine wk ?_ | refine we ?_ | refine ws ?_ | refine wq ?_
  | ((refine wc rfl (fun hc => ?_) (fun hc => ?_)) <;> (try simp at hc) <;> (try omega))
  | ((refine ib (fun hc => ?_) (fun hc => ?_)) <;> (try omega) <;> (try simp (disch := omega) only [if_pos, if_neg])))
  obtain ⟨pq, hpq⟩ : ∃ pq, pq = A1.next := ⟨_, rfl⟩
  refine awp_loop (fun k fr A' => ∃ (j : Nat) (th : Ths), k = picks.length - j ∧ j ≤ picks.length ∧ fr 8 = .int .i64 j ∧ ExJ pb pq mb (pq + 1) A ls ol op ls.length cl picks.length cp th fr A') picks.length ?_ ?_
  · refine ⟨0, fun _ => none, by simp, by simp, by simp, M0 3, fun _ => 0, by simp, by simp, by simp [hpq], by simp [hpq], ?_, M0_linv _, ?_⟩
    · exact ((hw1.alloc _).set _ (by simp)).alloc _
    · subst hpq
      have hSp := (hS1.alloc hw1 (.cells [.pointer none, .pointer none] true 1)).set (.cells [.pointer (some ⟨pb, 0, none⟩), .pointer (some ⟨mb, 0, none⟩)] true 1)
      have hwp := (hw1.alloc (.cells [.pointer none, .pointer none] true 1)).set (i := A1.next) (some (.cells [.pointer (some ⟨pb, 0, none⟩), .pointer (some ⟨mb, 0, none⟩)] true 1)) (by simp)
      have h3 := hSp.alloc hwp (.cells (slots (fun _ => none) (fun _ => 0)) true 1)
      simp only [AW.set_next, AW.alloc_next] at h3
      refine Sat.left (Q := RefH mb (M0 3)) (h3.cast ?_)
      have e : bstar (thH (fun _ => none) (fun _ => 0)) 3 = hemp := by simp [bstar, thH, hemp_mul]
      unfold ExH
      rw [e, hemp_mul]
      ac_rfl
  rintro k fr A2 ⟨j, th, rfl, hj, g8, M, bn, g0, g1, g5, g7, hw2, hI, hS⟩
  by_cases hlt : j < picks.length
  case neg =>
    have hlti : ¬ (j : Int) < picks.length := by omega
    repeat' (first
    | (refine lwc fun R hR => ?_; simp [wrap_i64, wrap_u64, g0, g1, g5, g7, g8, hlt, hlti]; try simp (disch := omega) only [if_pos, if_neg, wrap_i64, wrap_u64])
    | (refine hR _ _ ?_; clear hR R) | (refine hK _ _ ?_; clear hK K) | refine lwn ?_ | refine lr ?_ | refine la ?_
    | refine wn fun K hK => ?_
    | simp only [nops, nop, lops, lop, slimG, List.map_cons, List.map_nil, List.filterMap_cons, List.filterMap_nil, Option.map_none, Option.map_some, List.getElem?_toArray, List.getElem?_cons_zero, List.getElem?_cons_succ, Option.bind_some]
    | (refine wl Try.mx [(0,0),(1,0),(4,0),(5,0),(6,0),(2,2),(3,2),(7,2),(8,0),(9,0)] (by decide +kernel) fun K hK => ?_)
    | (refine wl Try.mx [(0,0),(1,0),(2,0),(3,0),(4,0),(5,3)] (by decide +kernel) fun K hK => ?_)
    | (refine wl Try.mx [(0,0),(1,0),(2,0),(3,0),(4,0),(5,0),(6,0),(7,0),(8,0),(9,0),(10,0),(11,0),(12,0),(13,0),(14,0),(15,0),(16,0),(17,0),(18,0),(19,0),(20,0),(21,0),(22,0),(23,0),(24,0),(25,0),(26,0),(27,0),(28,0),(29,0),(30,0),(31,0),(32,0),(33,0),(34,0),(36,0),(35,2),(37,0),(38,0),(39,0),(40,0),(41,0),(42,0),(43,0),(44,0),(45,0),(46,0),(48,0),(49,0),(50,0),(51,0),(47,2),(52,2),(53,0),(54,0)] (by decide +kernel) fun K hK => ?_)
    | refine wb ?_ | refine wr ?_ | refine wk ?_ | refine we ?_ | refine ws ?_ | refine wq ?_
    | ((refine wc rfl (fun hc => ?_) (fun hc => ?_)) <;> (try simp at hc) <;> (try omega))
    | ((refine ib (fun hc => ?_) (fun hc => ?_)) <;> (try omega) <;> (try simp (disch := omega) only [if_pos, if_neg])))
    refine callK (awake_call A2 hemp (Sat.emp A2)) ?_
    rintro _ A3 ⟨rfl, _⟩ w3 _
    repeat' (first
    | (refine lwc fun R hR => ?_; simp [wrap_i64, wrap_u64, h80]; try simp (disch := omega) only [if_pos, if_neg, wrap_i64, wrap_u64])
    | (refine hR _ _ ?_; clear hR R) | (refine hK _ _ ?_; clear hK K) | refine lwn ?_ | refine lr ?_ | refine la ?_
    | refine wn fun K hK => ?_
    | simp only [nops, nop, lops, lop, slimG, List.map_cons, List.map_nil, List.filterMap_cons, List.filterMap_nil, Option.map_none, Option.map_some, List.getElem?_toArray, List.getElem?_cons_zero, List.getElem?_cons_succ, Option.bind_some]
    | (refine wl Try.mx [(0,0),(1,0),(4,0),(5,0),(6,0),(2,2),(3,2),(7,2),(8,0),(9,0)] (by decide +kernel) fun K hK => ?_)
    | (refine wl Try.mx [(0,0),(1,0),(2,0),(3,0),(4,0),(5,3)] (by decide +kernel) fun K hK => ?_)
    | (refine wl Try.mx [(0,0),(1,0),(2,0),(3,0),(4,0),(5,0),(6,0),(7,0),(8,0),(9,0),(10,0),(11,0),(12,0),(13,0),(14,0),(15,0),(16,0),(17,0),(18,0),(19,0),(20,0),(21,0),(22,0),(23,0),(24,0),(25,0),(26,0),(27,0),(28,0),(29,0),(30,0),(31,0),(32,0),(33,0),(34,0),(36,0),(35,2),(37,0),(38,0),(39,0),(40,0),(41,0),(42,0),(43,0),(44,0),(45,0),(46,0),(48,0),(49,0),(50,0),(51,0),(47,2),(52,2),(53,0),(54,0)] (by decide +kernel) fun K hK => ?_)
    | refine wb ?_ | refine wr ?_ | refine wk ?_ | refine we ?_ | refine ws ?_ | refine wq ?_
    | ((refine wc rfl (fun hc => ?_) (fun hc => ?_)) <;> (try simp at hc) <;> (try omega))
    | ((refine ib (fun hc => ?_) (fun hc => ?_)) <;> (try omega) <;> (try simp (disch := omega) only [if_pos, if_neg])))
    simp
  have hlti : (j : Int) < picks.length := by omega
  have hk2 : Keeps A A2 := Keeps.of_fix (F := ExH pb pq mb (pq + 1) M th bn) (hS.cast (by ac_rfl))
  obtain ⟨pp, rowp, ownp, rfl, hgp, hcp⟩ := (hp.keeps hk2).atg hlt
  repeat' (first
  | (refine lwc fun R hR => ?_; simp [wrap_i64, wrap_u64, g0, g1, g5, g7, g8, hlt, hlti, hgp, hcp, AW.row_get]; try simp (disch := omega) only [if_pos, if_neg, wrap_i64, wrap_u64])
  | (refine hR _ _ ?_; clear hR R) | (refine hK _ _ ?_; clear hK K) | refine lwn ?_ | refine lr ?_ | refine la ?_
  | refine wn fun K hK => ?_
  | simp only [nops, nop, lops, lop, slimG, List.map_cons, List.map_nil, List.filterMap_cons, List.filterMap_nil, Option.map_none, Option.map_some, List.getElem?_toArray, List.getElem?_cons_zero, List.getElem?_cons_succ, Option.bind_some]
  | (refine wl Try.mx [(0,0),(1,0),(4,0),(5,0),(6,0),(2,2),(3,2),(7,2),(8,0),(9,0)] (by decide +kernel) fun K hK => ?_)
  | (refine wl Try.mx [(0,0),(1,0),(2,0),(3,0),(4,0),(5,3)] (by decide +kernel) fun K hK => ?_)
  | (refine wl Try.mx [(0,0),(1,0),(2,0),(3,0),(4,0),(5,0),(6,0),(7,0),(8,0),(9,0),(10,0),(11,0),(12,0),(13,0),(14,0),(15,0),(16,0),(17,0),(18,0),(19,0),(20,0),(21,0),(22,0),(23,0),(24,0),(25,0),(26,0),(27,0),(28,0),(29,0),(30,0),(31,0),(32,0),(33,0),(34,0),(36,0),(35,2),(37,0),(38,0),(39,0),(40,0),(41,0),(42,0),(43,0),(44,0),(45,0),(46,0),(48,0),(49,0),(50,0),(51,0),(47,2),(52,2),(53,0),(54,0)] (by decide +kernel) fun K hK => ?_)
  | refine wb ?_ | refine wr ?_ | refine wk ?_ | refine we ?_ | refine ws ?_ | refine wq ?_
  | ((refine wc rfl (fun hc => ?_) (fun hc => ?_)) <;> (try simp at hc) <;> (try omega))
  | ((refine ib (fun hc => ?_) (fun hc => ?_)) <;> (try omega) <;> (try simp (disch := omega) only [if_pos, if_neg])))
  obtain ⟨t, ht⟩ : ∃ t : Nat, placeF picks[j] 3 = t := ⟨(placeF picks[j] 3).toNat, by have := placeF_range picks[j] 3 (by omega); omega⟩
  have ht3 : t < 3 := by have := placeF_range picks[j] 3 (by omega); omega
  have hti : (t : Int) < 3 := by omega
  refine callK (place_call _ 3 _ (by omega) (by omega)) ?_
  rintro _ _ ⟨rfl, rfl⟩ _ _
  repeat' (first
  | (refine lwc fun R hR => ?_; simp [wrap_i64, wrap_u64, ht]; try simp (disch := omega) only [if_pos, if_neg, wrap_i64, wrap_u64])
  | (refine hR _ _ ?_; clear hR R) | refine lwn ?_ | refine lr ?_ | refine la ?_
  | simp only [nops, nop, lops, lop, slimG, List.map_cons, List.map_nil, List.filterMap_cons, List.filterMap_nil, Option.map_none, Option.map_some, List.getElem?_toArray, List.getElem?_cons_zero, List.getElem?_cons_succ, Option.bind_some]
  | ((refine ib (fun hc => ?_) (fun hc => ?_)) <;> (try omega) <;> (try simp (disch := omega) only [if_pos, if_neg])))
  refine hK _ _ ?_
  clear hK
  refine wq ?_
  refine awp_join (fun fr' A3 => ∃ th s, th t = some s ∧ fr' 9 = .int .i64 t ∧ fr' 8 = .int .i64 j ∧ ExJ pb pq mb (pq + 1) A ls ol (some pp) ls.length cl picks.length cp th fr' A3) ?_ ?_
  · have hS3 : Sat A2 (pt (pq + 1) (.cells (slots th bn) true 1) * (pt pq (.cells [.pointer (some ⟨pb, 0, none⟩), .pointer (some ⟨mb, 0, none⟩)] true 1) * (bstar (thH th bn) 3 * (MemH pb M * hfix A.get)))) := hS.cast (by unfold ExH; ac_rfl)
    have hga := hS3.get
    have hsl := slots_get th bn ht3
    have hsn := slots_len th bn
    rcases hth : th t with _ | s
    · have hsv : slotV th bn t = .pointer none := by simp [slotV, hth]
      rw [hsv] at hsl
      repeat' (first
      | (refine lwc fun R hR => ?_; simp [wrap_i64, wrap_u64, g0, g1, g5, g7, g8, hga, hsl, hti, AW.row_get]; try simp (disch := omega) only [if_pos, if_neg, wrap_i64, wrap_u64])
      | (refine hR _ _ ?_; clear hR R) | (refine hK _ _ ?_; clear hK K) | refine lwn ?_ | refine lr ?_ | refine la ?_
      | refine wn fun K hK => ?_
      | simp only [nops, nop, lops, lop, slimG, List.map_cons, List.map_nil, List.filterMap_cons, List.filterMap_nil, Option.map_none, Option.map_some, List.getElem?_toArray, List.getElem?_cons_zero, List.getElem?_cons_succ, Option.bind_some]
      | (refine wl Try.mx [(0,0),(1,0),(4,0),(5,0),(6,0),(2,2),(3,2),(7,2),(8,0),(9,0)] (by decide +kernel) fun K hK => ?_)
      | (refine wl Try.mx [(0,0),(1,0),(2,0),(3,0),(4,0),(5,3)] (by decide +kernel) fun K hK => ?_)
      | (refine wl Try.mx [(0,0),(1,0),(2,0),(3,0),(4,0),(5,0),(6,0),(7,0),(8,0),(9,0),(10,0),(11,0),(12,0),(13,0),(14,0),(15,0),(16,0),(17,0),(18,0),(19,0),(20,0),(21,0),(22,0),(23,0),(24,0),(25,0),(26,0),(27,0),(28,0),(29,0),(30,0),(31,0),(32,0),(33,0),(34,0),(36,0),(35,2),(37,0),(38,0),(39,0),(40,0),(41,0),(42,0),(43,0),(44,0),(45,0),(46,0),(48,0),(49,0),(50,0),(51,0),(47,2),(52,2),(53,0),(54,0)] (by decide +kernel) fun K hK => ?_)
      | refine wb ?_ | refine wr ?_ | refine wk ?_ | refine we ?_ | refine ws ?_ | refine wq ?_
      | ((refine wc rfl (fun hc => ?_) (fun hc => ?_)) <;> (try simp at hc) <;> (try omega))
      | ((refine ib (fun hc => ?_) (fun hc => ?_)) <;> (try omega) <;> (try simp (disch := omega) only [if_pos, if_neg])))
      refine callK (wants_call _ ls t A2 (hl.keeps hk2) ht3) ?_
      rintro u B1 ⟨o1, l1⟩ x1 _
      obtain ⟨ou, cu, rfl, _⟩ := o1.is.form
      have hwl := wantsF_len ls t
      repeat' (first
      | (refine lwc fun R hR => ?_; simp [wrap_i64, wrap_u64, g0, g1, g5, g7, g8, hti, AW.row_get]; try simp (disch := omega) only [if_pos, if_neg, wrap_i64, wrap_u64])
      | (refine hR _ _ ?_; clear hR R) | (refine hK _ _ ?_; clear hK K) | refine lwn ?_ | refine lr ?_ | refine la ?_
      | refine wn fun K hK => ?_
      | simp only [nops, nop, lops, lop, slimG, List.map_cons, List.map_nil, List.filterMap_cons, List.filterMap_nil, Option.map_none, Option.map_some, List.getElem?_toArray, List.getElem?_cons_zero, List.getElem?_cons_succ, Option.bind_some]
      | (refine wl Try.mx [(0,0),(1,0),(4,0),(5,0),(6,0),(2,2),(3,2),(7,2),(8,0),(9,0)] (by decide +kernel) fun K hK => ?_)
      | (refine wl Try.mx [(0,0),(1,0),(2,0),(3,0),(4,0),(5,3)] (by decide +kernel) fun K hK => ?_)
      | (refine wl Try.mx [(0,0),(1,0),(2,0),(3,0),(4,0),(5,0),(6,0),(7,0),(8,0),(9,0),(10,0),(11,0),(12,0),(13,0),(14,0),(15,0),(16,0),(17,0),(18,0),(19,0),(20,0),(21,0),(22,0),(23,0),(24,0),(25,0),(26,0),(27,0),(28,0),(29,0),(30,0),(31,0),(32,0),(33,0),(34,0),(36,0),(35,2),(37,0),(38,0),(39,0),(40,0),(41,0),(42,0),(43,0),(44,0),(45,0),(46,0),(48,0),(49,0),(50,0),(51,0),(47,2),(52,2),(53,0),(54,0)] (by decide +kernel) fun K hK => ?_)
      | refine wb ?_ | refine wr ?_ | refine wk ?_ | refine we ?_ | refine ws ?_ | refine wq ?_
      | ((refine wc rfl (fun hc => ?_) (fun hc => ?_)) <;> (try simp at hc) <;> (try omega))
      | ((refine ib (fun hc => ?_) (fun hc => ?_)) <;> (try omega) <;> (try simp (disch := omega) only [if_pos, if_neg])))
      refine callK (newLock_call t _ _ B1 _ o1.is (by omega) x1 (hS3.le hw2 l1)) ?_
      rintro v B2 ⟨b, rfl, hS4⟩ x2 _
      have hS5 : Sat B2 (pt (pq + 1) (.cells (slots th bn) true 1) * (LockH b ⟨t, lockL ls t, [], 0, false⟩ * (pt pq (.cells [.pointer (some ⟨pb, 0, none⟩), .pointer (some ⟨mb, 0, none⟩)] true 1) * (bstar (thH th bn) 3 * (MemH pb M * hfix A.get))))) := hS4.cast (by unfold lockL; ac_rfl)
      have hgb := hS5.get
      repeat' (first
      | (refine lwc fun R hR => ?_; simp [wrap_i64, wrap_u64, g0, g1, g5, g7, g8, hgb, hsn, ht3, hti, AW.row_get, astore]; try simp (disch := omega) only [if_pos, if_neg, wrap_i64, wrap_u64])
      | (refine hR _ _ ?_; clear hR R) | (refine hK _ _ ?_; clear hK K) | refine lwn ?_ | refine lr ?_ | refine la ?_
      | refine wn fun K hK => ?_
      | simp only [nops, nop, lops, lop, slimG, List.map_cons, List.map_nil, List.filterMap_cons, List.filterMap_nil, Option.map_none, Option.map_some, List.getElem?_toArray, List.getElem?_cons_zero, List.getElem?_cons_succ, Option.bind_some]
      | (refine wl Try.mx [(0,0),(1,0),(4,0),(5,0),(6,0),(2,2),(3,2),(7,2),(8,0),(9,0)] (by decide +kernel) fun K hK => ?_)
      | (refine wl Try.mx [(0,0),(1,0),(2,0),(3,0),(4,0),(5,3)] (by decide +kernel) fun K hK => ?_)
      | (refine wl Try.mx [(0,0),(1,0),(2,0),(3,0),(4,0),(5,0),(6,0),(7,0),(8,0),(9,0),(10,0),(11,0),(12,0),(13,0),(14,0),(15,0),(16,0),(17,0),(18,0),(19,0),(20,0),(21,0),(22,0),(23,0),(24,0),(25,0),(26,0),(27,0),(28,0),(29,0),(30,0),(31,0),(32,0),(33,0),(34,0),(36,0),(35,2),(37,0),(38,0),(39,0),(40,0),(41,0),(42,0),(43,0),(44,0),(45,0),(46,0),(48,0),(49,0),(50,0),(51,0),(47,2),(52,2),(53,0),(54,0)] (by decide +kernel) fun K hK => ?_)
      | refine wb ?_ | refine wr ?_ | refine wk ?_ | refine we ?_ | refine ws ?_ | refine wq ?_
      | ((refine wc rfl (fun hc => ?_) (fun hc => ?_)) <;> (try simp at hc) <;> (try omega))
      | ((refine ib (fun hc => ?_) (fun hc => ?_)) <;> (try omega) <;> (try simp (disch := omega) only [if_pos, if_neg])))
      refine ⟨updT th t (some ⟨t, lockL ls t, [], 0, false⟩), _, by simp [updT]; rfl, by simp, by simp [g8], M, updN bn t b, by simp [g0], by simp [g1], by simp [g5], by simp [g7], x2.set _ (x2.lt hgb), linv_new hI ht3 hth, ?_⟩
      have e : (slots th bn).set t (.pointer (some ⟨b, 0, none⟩)) = slots (updT th t (some ⟨t, lockL ls t, [], 0, false⟩)) (updN bn t b) := by
        rw [← slots_upd th bn ht3 (some ⟨t, lockL ls t, [], 0, false⟩) b]; simp [slotV, updT, updN]
      have h6 := hS5.set (.cells ((slots th bn).set t (.pointer (some ⟨b, 0, none⟩))) true 1)
      refine h6.cast ?_
      unfold ExH
      rw [e, ← thH_in2 th bn ht3 _ b, ← thH_absent bn ht3 hth]
      ac_rfl
    · have hsv : slotV th bn t = .pointer (some ⟨bn t, 0, none⟩) := by simp [slotV, hth]
      rw [hsv] at hsl
      repeat' (first
      | (refine lwc fun R hR => ?_; simp [wrap_i64, wrap_u64, g0, g1, g5, g7, g8, hga, hsl, hti, AW.row_get]; try simp (disch := omega) only [if_pos, if_neg, wrap_i64, wrap_u64])
      | (refine hR _ _ ?_; clear hR R) | (refine hK _ _ ?_; clear hK K) | refine lwn ?_ | refine lr ?_ | refine la ?_
      | refine wn fun K hK => ?_
      | simp only [nops, nop, lops, lop, slimG, List.map_cons, List.map_nil, List.filterMap_cons, List.filterMap_nil, Option.map_none, Option.map_some, List.getElem?_toArray, List.getElem?_cons_zero, List.getElem?_cons_succ, Option.bind_some]
      | (refine wl Try.mx [(0,0),(1,0),(4,0),(5,0),(6,0),(2,2),(3,2),(7,2),(8,0),(9,0)] (by decide +kernel) fun K hK => ?_)
      | (refine wl Try.mx [(0,0),(1,0),(2,0),(3,0),(4,0),(5,3)] (by decide +kernel) fun K hK => ?_)
      | (refine wl Try.mx [(0,0),(1,0),(2,0),(3,0),(4,0),(5,0),(6,0),(7,0),(8,0),(9,0),(10,0),(11,0),(12,0),(13,0),(14,0),(15,0),(16,0),(17,0),(18,0),(19,0),(20,0),(21,0),(22,0),(23,0),(24,0),(25,0),(26,0),(27,0),(28,0),(29,0),(30,0),(31,0),(32,0),(33,0),(34,0),(36,0),(35,2),(37,0),(38,0),(39,0),(40,0),(41,0),(42,0),(43,0),(44,0),(45,0),(46,0),(48,0),(49,0),(50,0),(51,0),(47,2),(52,2),(53,0),(54,0)] (by decide +kernel) fun K hK => ?_)
      | refine wb ?_ | refine wr ?_ | refine wk ?_ | refine we ?_ | refine ws ?_ | refine wq ?_
      | ((refine wc rfl (fun hc => ?_) (fun hc => ?_)) <;> (try simp at hc) <;> (try omega))
      | ((refine ib (fun hc => ?_) (fun hc => ?_)) <;> (try omega) <;> (try simp (disch := omega) only [if_pos, if_neg])))
      refine ⟨th, s, hth, by simp, by simp [g8], M, bn, by simp [g0], by simp [g1], by simp [g5], by simp [g7], hw2, hI, hS⟩
  clear hgp hcp hS hI g0 g1 g5 g7 g8 hk2 hw2
  rintro fr A2 ⟨th, s, hth, g9, g8, M, bn, g0, g1, g5, g7, hw2, hI, hS⟩
  have hk2 : Keeps A A2 := Keeps.of_fix (F := ExH pb pq mb (pq + 1) M th bn) (hS.cast (by ac_rfl))
  obtain ⟨k1, k2, k3, k4, k5, k6⟩ := hI.ok t s hth
  have hLk := lockL_ok ls t ht3
  have hLn := hLk.len
  have hS3 : Sat A2 (pt (pq + 1) (.cells (slots th bn) true 1) * (pt pq (.cells [.pointer (some ⟨pb, 0, none⟩), .pointer (some ⟨mb, 0, none⟩)] true 1) * (LockH (bn t) s * (MemH pb M * (bstar (updH (thH th bn) t hemp) 3 * hfix A.get))))) := hS.cast (by unfold ExH; rw [thH_out ht3 hth]; ac_rfl)
  have hga := hS3.get
  have hgq := hS3.right.get
  have hsl := slots_get th bn ht3
  have hsn := slots_len th bn
  have hsv : slotV th bn t = .pointer (some ⟨bn t, 0, none⟩) := by simp [slotV, hth]
  rw [hsv] at hsl
  have hSl : Sat A2 (LockH (bn t) s * (pt (pq + 1) (.cells (slots th bn) true 1) * (pt pq (.cells [.pointer (some ⟨pb, 0, none⟩), .pointer (some ⟨mb, 0, none⟩)] true 1) * (MemH pb M * (bstar (updH (thH th bn) t hemp) 3 * hfix A.get))))) := hS3.cast (by ac_rfl)
  repeat' (first
  | (refine lwc fun R hR => ?_; simp [wrap_i64, wrap_u64, g0, g1, g5, g7, g8, g9, hga, hsl, hti, AW.row_get]; try simp (disch := omega) only [if_pos, if_neg, wrap_i64, wrap_u64])
  | (refine hR _ _ ?_; clear hR R) | (refine hK _ _ ?_; clear hK K) | refine lwn ?_ | refine lr ?_ | refine la ?_
  | refine wn fun K hK => ?_
  | simp only [nops, nop, lops, lop, slimG, List.map_cons, List.map_nil, List.filterMap_cons, List.filterMap_nil, Option.map_none, Option.map_some, List.getElem?_toArray, List.getElem?_cons_zero, List.getElem?_cons_succ, Option.bind_some]
  | (refine wl Try.mx [(0,0),(1,0),(4,0),(5,0),(6,0),(2,2),(3,2),(7,2),(8,0),(9,0)] (by decide +kernel) fun K hK => ?_)
  | (refine wl Try.mx [(0,0),(1,0),(2,0),(3,0),(4,0),(5,3)] (by decide +kernel) fun K hK => ?_)
  | (refine wl Try.mx [(0,0),(1,0),(2,0),(3,0),(4,0),(5,0),(6,0),(7,0),(8,0),(9,0),(10,0),(11,0),(12,0),(13,0),(14,0),(15,0),(16,0),(17,0),(18,0),(19,0),(20,0),(21,0),(22,0),(23,0),(24,0),(25,0),(26,0),(27,0),(28,0),(29,0),(30,0),(31,0),(32,0),(33,0),(34,0),(36,0),(35,2),(37,0),(38,0),(39,0),(40,0),(41,0),(42,0),(43,0),(44,0),(45,0),(46,0),(48,0),(49,0),(50,0),(51,0),(47,2),(52,2),(53,0),(54,0)] (by decide +kernel) fun K hK => ?_)
  | refine wb ?_ | refine wr ?_ | refine wk ?_ | refine we ?_ | refine ws ?_ | refine wq ?_
  | ((refine wc rfl (fun hc => ?_) (fun hc => ?_)) <;> (try simp at hc) <;> (try omega))
  | ((refine ib (fun hc => ?_) (fun hc => ?_)) <;> (try omega) <;> (try simp (disch := omega) only [if_pos, if_neg])))
  refine callK (lockDone_call (bn t) s _ _ hSl) ?_
  rintro _ _ ⟨rfl, rfl⟩ _ _
  repeat' (first
  | (refine lwc fun R hR => ?_; simp [wrap_i64, wrap_u64]; try simp (disch := omega) only [if_pos, if_neg, wrap_i64, wrap_u64])
  | (refine hR _ _ ?_; clear hR R) | refine lwn ?_ | refine lr ?_ | refine la ?_
  | simp only [nops, nop, lops, lop, slimG, List.map_cons, List.map_nil, List.filterMap_cons, List.filterMap_nil, Option.map_none, Option.map_some, List.getElem?_toArray, List.getElem?_cons_zero, List.getElem?_cons_succ, Option.bind_some]
  | ((refine ib (fun hc => ?_) (fun hc => ?_)) <;> (try omega) <;> (try simp (disch := omega) only [if_pos, if_neg])))
  refine hK _ _ ?_
  clear hK
  refine awp_join (fun fr' A3 => ∃ th, fr' 8 = .int .i64 j ∧ ExJ pb pq mb (pq + 1) A ls ol (some pp) ls.length cl picks.length cp th fr' A3) ?_ ?_
  · cases hd : s.done
    · repeat' (first
    | (refine lwc fun R hR => ?_; simp [wrap_i64, wrap_u64, g0, g1, g5, g7, g8, g9, hga, hsl, hti, hgq, AW.row_get]; try simp (disch := omega) only [if_pos, if_neg, wrap_i64, wrap_u64])
    | (refine hR _ _ ?_; clear hR R) | (refine hK _ _ ?_; clear hK K) | refine lwn ?_ | refine lr ?_ | refine la ?_
    | refine wn fun K hK => ?_
    | simp only [nops, nop, lops, lop, slimG, List.map_cons, List.map_nil, List.filterMap_cons, List.filterMap_nil, Option.map_none, Option.map_some, List.getElem?_toArray, List.getElem?_cons_zero, List.getElem?_cons_succ, Option.bind_some]
    | (refine wl Try.mx [(0,0),(1,0),(4,0),(5,0),(6,0),(2,2),(3,2),(7,2),(8,0),(9,0)] (by decide +kernel) fun K hK => ?_)
    | (refine wl Try.mx [(0,0),(1,0),(2,0),(3,0),(4,0),(5,3)] (by decide +kernel) fun K hK => ?_)
    | (refine wl Try.mx [(0,0),(1,0),(2,0),(3,0),(4,0),(5,0),(6,0),(7,0),(8,0),(9,0),(10,0),(11,0),(12,0),(13,0),(14,0),(15,0),(16,0),(17,0),(18,0),(19,0),(20,0),(21,0),(22,0),(23,0),(24,0),(25,0),(26,0),(27,0),(28,0),(29,0),(30,0),(31,0),(32,0),(33,0),(34,0),(36,0),(35,2),(37,0),(38,0),(39,0),(40,0),(41,0),(42,0),(43,0),(44,0),(45,0),(46,0),(48,0),(49,0),(50,0),(51,0),(47,2),(52,2),(53,0),(54,0)] (by decide +kernel) fun K hK => ?_)
    | refine wb ?_ | refine wr ?_ | refine wk ?_ | refine we ?_ | refine ws ?_ | refine wq ?_
    | ((refine wc rfl (fun hc => ?_) (fun hc => ?_)) <;> (try simp at hc) <;> (try omega))
    | ((refine ib (fun hc => ?_) (fun hc => ?_)) <;> (try omega) <;> (try simp (disch := omega) only [if_pos, if_neg])))
      refine (lockStep_call (bn t) pb s M (by rw [k3]; exact k4) (by rw [k3]; show (lockL ls t).length < _; omega)).use hw2 hS3 (by ac_rfl : _ = (LockH (bn t) s * MemH pb M) * (pt (pq + 1) (.cells (slots th bn) true 1) * (pt pq (.cells [.pointer (some ⟨pb, 0, none⟩), .pointer (some ⟨mb, 0, none⟩)] true 1) * (bstar (updH (thH th bn) t hemp) 3 * hfix A.get)))) ?_
      intro v A3 hU hw3 _
      obtain ⟨rfl, hY⟩ := hU.unpost
      clear hU
      repeat' (first
      | (refine lwc fun R hR => ?_; simp [wrap_i64, wrap_u64, g0, g1, g5, g7, g8, g9, hti, AW.row_get]; try simp (disch := omega) only [if_pos, if_neg, wrap_i64, wrap_u64])
      | (refine hR _ _ ?_; clear hR R) | (refine hK _ _ ?_; clear hK K) | refine lwn ?_ | refine lr ?_ | refine la ?_
      | refine wn fun K hK => ?_
      | simp only [nops, nop, lops, lop, slimG, List.map_cons, List.map_nil, List.filterMap_cons, List.filterMap_nil, Option.map_none, Option.map_some, List.getElem?_toArray, List.getElem?_cons_zero, List.getElem?_cons_succ, Option.bind_some]
      | (refine wl Try.mx [(0,0),(1,0),(4,0),(5,0),(6,0),(2,2),(3,2),(7,2),(8,0),(9,0)] (by decide +kernel) fun K hK => ?_)
      | (refine wl Try.mx [(0,0),(1,0),(2,0),(3,0),(4,0),(5,3)] (by decide +kernel) fun K hK => ?_)
      | (refine wl Try.mx [(0,0),(1,0),(2,0),(3,0),(4,0),(5,0),(6,0),(7,0),(8,0),(9,0),(10,0),(11,0),(12,0),(13,0),(14,0),(15,0),(16,0),(17,0),(18,0),(19,0),(20,0),(21,0),(22,0),(23,0),(24,0),(25,0),(26,0),(27,0),(28,0),(29,0),(30,0),(31,0),(32,0),(33,0),(34,0),(36,0),(35,2),(37,0),(38,0),(39,0),(40,0),(41,0),(42,0),(43,0),(44,0),(45,0),(46,0),(48,0),(49,0),(50,0),(51,0),(47,2),(52,2),(53,0),(54,0)] (by decide +kernel) fun K hK => ?_)
      | refine wb ?_ | refine wr ?_ | refine wk ?_ | refine we ?_ | refine ws ?_ | refine wq ?_
      | ((refine wc rfl (fun hc => ?_) (fun hc => ?_)) <;> (try simp at hc) <;> (try omega))
      | ((refine ib (fun hc => ?_) (fun hc => ?_)) <;> (try omega) <;> (try simp (disch := omega) only [if_pos, if_neg])))
      refine ⟨updT th t (some (lockStep s M).2.1), by simp [g8], (lockStep s M).2.2, bn, by simp [g0], by simp [g1], by simp [g5], by simp [g7], hw3, linv_step (lockL_ok ls) hI hth, ?_⟩
      refine hY.cast ?_
      unfold ExH
      rw [slots_same th bn ht3 hth, ← thH_in th bn ht3]
      ac_rfl
    · repeat' (first
    | (refine lwc fun R hR => ?_; simp [wrap_i64, wrap_u64, g0, g1, g5, g7, g8, g9, hga, hsl, hti, hgq, AW.row_get]; try simp (disch := omega) only [if_pos, if_neg, wrap_i64, wrap_u64])
    | (refine hR _ _ ?_; clear hR R) | (refine hK _ _ ?_; clear hK K) | refine lwn ?_ | refine lr ?_ | refine la ?_
    | refine wn fun K hK => ?_
    | simp only [nops, nop, lops, lop, slimG, List.map_cons, List.map_nil, List.filterMap_cons, List.filterMap_nil, Option.map_none, Option.map_some, List.getElem?_toArray, List.getElem?_cons_zero, List.getElem?_cons_succ, Option.bind_some]
    | (refine wl Try.mx [(0,0),(1,0),(4,0),(5,0),(6,0),(2,2),(3,2),(7,2),(8,0),(9,0)] (by decide +kernel) fun K hK => ?_)
    | (refine wl Try.mx [(0,0),(1,0),(2,0),(3,0),(4,0),(5,3)] (by decide +kernel) fun K hK => ?_)
    | (refine wl Try.mx [(0,0),(1,0),(2,0),(3,0),(4,0),(5,0),(6,0),(7,0),(8,0),(9,0),(10,0),(11,0),(12,0),(13,0),(14,0),(15,0),(16,0),(17,0),(18,0),(19,0),(20,0),(21,0),(22,0),(23,0),(24,0),(25,0),(26,0),(27,0),(28,0),(29,0),(30,0),(31,0),(32,0),(33,0),(34,0),(36,0),(35,2),(37,0),(38,0),(39,0),(40,0),(41,0),(42,0),(43,0),(44,0),(45,0),(46,0),(48,0),(49,0),(50,0),(51,0),(47,2),(52,2),(53,0),(54,0)] (by decide +kernel) fun K hK => ?_)
    | refine wb ?_ | refine wr ?_ | refine wk ?_ | refine we ?_ | refine ws ?_ | refine wq ?_
    | ((refine wc rfl (fun hc => ?_) (fun hc => ?_)) <;> (try simp at hc) <;> (try omega))
    | ((refine ib (fun hc => ?_) (fun hc => ?_)) <;> (try omega) <;> (try simp (disch := omega) only [if_pos, if_neg])))
      refine callK (wants_call _ ls t A2 (hl.keeps hk2) ht3) ?_
      rintro u B1 ⟨o1, l1⟩ x1 _
      refine ⟨l1, ?_⟩
      have hwl := wantsF_len ls t
      repeat' (first
      | (refine lwc fun R hR => ?_; simp [wrap_i64, wrap_u64, g0, g1, g5, g7, g8, hti, AW.row_get]; try simp (disch := omega) only [if_pos, if_neg, wrap_i64, wrap_u64])
      | (refine hR _ _ ?_; clear hR R) | (refine hK _ _ ?_; clear hK K) | refine lwn ?_ | refine lr ?_ | refine la ?_
      | refine wn fun K hK => ?_
      | simp only [nops, nop, lops, lop, slimG, List.map_cons, List.map_nil, List.filterMap_cons, List.filterMap_nil, Option.map_none, Option.map_some, List.getElem?_toArray, List.getElem?_cons_zero, List.getElem?_cons_succ, Option.bind_some]
      | (refine wl Try.mx [(0,0),(1,0),(4,0),(5,0),(6,0),(2,2),(3,2),(7,2),(8,0),(9,0)] (by decide +kernel) fun K hK => ?_)
      | (refine wl Try.mx [(0,0),(1,0),(2,0),(3,0),(4,0),(5,3)] (by decide +kernel) fun K hK => ?_)
      | (refine wl Try.mx [(0,0),(1,0),(2,0),(3,0),(4,0),(5,0),(6,0),(7,0),(8,0),(9,0),(10,0),(11,0),(12,0),(13,0),(14,0),(15,0),(16,0),(17,0),(18,0),(19,0),(20,0),(21,0),(22,0),(23,0),(24,0),(25,0),(26,0),(27,0),(28,0),(29,0),(30,0),(31,0),(32,0),(33,0),(34,0),(36,0),(35,2),(37,0),(38,0),(39,0),(40,0),(41,0),(42,0),(43,0),(44,0),(45,0),(46,0),(48,0),(49,0),(50,0),(51,0),(47,2),(52,2),(53,0),(54,0)] (by decide +kernel) fun K hK => ?_)
      | refine wb ?_ | refine wr ?_ | refine wk ?_ | refine we ?_ | refine ws ?_ | refine wq ?_
      | ((refine wc rfl (fun hc => ?_) (fun hc => ?_)) <;> (try simp at hc) <;> (try omega))
      | ((refine ib (fun hc => ?_) (fun hc => ?_)) <;> (try omega) <;> (try simp (disch := omega) only [if_pos, if_neg])))
      refine callK (sorted_call _ _ B1 o1.is (by omega)) ?_
      rintro u2 B2 ⟨o2, l2⟩ x2 _
      refine ⟨l2, ?_⟩
      have l12 := l1.trans l2
      have hga2 := l12.keep hw2 hga
      repeat' (first
      | (refine lwc fun R hR => ?_; simp [wrap_i64, wrap_u64, g0, g1, g5, g7, g8, g9, hga2, hsl, hti, AW.row_get]; try simp (disch := omega) only [if_pos, if_neg, wrap_i64, wrap_u64])
      | (refine hR _ _ ?_; clear hR R) | (refine hK _ _ ?_; clear hK K) | refine lwn ?_ | refine lr ?_ | refine la ?_
      | refine wn fun K hK => ?_
      | simp only [nops, nop, lops, lop, slimG, List.map_cons, List.map_nil, List.filterMap_cons, List.filterMap_nil, Option.map_none, Option.map_some, List.getElem?_toArray, List.getElem?_cons_zero, List.getElem?_cons_succ, Option.bind_some]
      | (refine wl Try.mx [(0,0),(1,0),(4,0),(5,0),(6,0),(2,2),(3,2),(7,2),(8,0),(9,0)] (by decide +kernel) fun K hK => ?_)
      | (refine wl Try.mx [(0,0),(1,0),(2,0),(3,0),(4,0),(5,3)] (by decide +kernel) fun K hK => ?_)
      | (refine wl Try.mx [(0,0),(1,0),(2,0),(3,0),(4,0),(5,0),(6,0),(7,0),(8,0),(9,0),(10,0),(11,0),(12,0),(13,0),(14,0),(15,0),(16,0),(17,0),(18,0),(19,0),(20,0),(21,0),(22,0),(23,0),(24,0),(25,0),(26,0),(27,0),(28,0),(29,0),(30,0),(31,0),(32,0),(33,0),(34,0),(36,0),(35,2),(37,0),(38,0),(39,0),(40,0),(41,0),(42,0),(43,0),(44,0),(45,0),(46,0),(48,0),(49,0),(50,0),(51,0),(47,2),(52,2),(53,0),(54,0)] (by decide +kernel) fun K hK => ?_)
      | refine wb ?_ | refine wr ?_ | refine wk ?_ | refine we ?_ | refine ws ?_ | refine wq ?_
      | ((refine wc rfl (fun hc => ?_) (fun hc => ?_)) <;> (try simp at hc) <;> (try omega))
      | ((refine ib (fun hc => ?_) (fun hc => ?_)) <;> (try omega) <;> (try simp (disch := omega) only [if_pos, if_neg])))
      refine callK (lockOld_call (bn t) s B2 _ (hSl.le hw2 l12) (by omega)) ?_
      rintro u3 B3 ⟨o3, l3⟩ x3 _
      refine ⟨l3, ?_⟩
      obtain ⟨oo, co, rfl, _⟩ := o2.is.form
      obtain ⟨ow', cw', rfl, _⟩ := o3.is.form
      repeat' (first
      | (refine lwc fun R hR => ?_; simp [wrap_i64, wrap_u64, g0, g1, g5, g7, g8, g9, hti, AW.row_get]; try simp (disch := omega) only [if_pos, if_neg, wrap_i64, wrap_u64])
      | (refine hR _ _ ?_; clear hR R) | (refine hK _ _ ?_; clear hK K) | refine lwn ?_ | refine lr ?_ | refine la ?_
      | refine wn fun K hK => ?_
      | simp only [nops, nop, lops, lop, slimG, List.map_cons, List.map_nil, List.filterMap_cons, List.filterMap_nil, Option.map_none, Option.map_some, List.getElem?_toArray, List.getElem?_cons_zero, List.getElem?_cons_succ, Option.bind_some]
      | (refine wl Try.mx [(0,0),(1,0),(4,0),(5,0),(6,0),(2,2),(3,2),(7,2),(8,0),(9,0)] (by decide +kernel) fun K hK => ?_)
      | (refine wl Try.mx [(0,0),(1,0),(2,0),(3,0),(4,0),(5,3)] (by decide +kernel) fun K hK => ?_)
      | (refine wl Try.mx [(0,0),(1,0),(2,0),(3,0),(4,0),(5,0),(6,0),(7,0),(8,0),(9,0),(10,0),(11,0),(12,0),(13,0),(14,0),(15,0),(16,0),(17,0),(18,0),(19,0),(20,0),(21,0),(22,0),(23,0),(24,0),(25,0),(26,0),(27,0),(28,0),(29,0),(30,0),(31,0),(32,0),(33,0),(34,0),(36,0),(35,2),(37,0),(38,0),(39,0),(40,0),(41,0),(42,0),(43,0),(44,0),(45,0),(46,0),(48,0),(49,0),(50,0),(51,0),(47,2),(52,2),(53,0),(54,0)] (by decide +kernel) fun K hK => ?_)
      | refine wb ?_ | refine wr ?_ | refine wk ?_ | refine we ?_ | refine ws ?_ | refine wq ?_
      | ((refine wc rfl (fun hc => ?_) (fun hc => ?_)) <;> (try simp at hc) <;> (try omega))
      | ((refine ib (fun hc => ?_) (fun hc => ?_)) <;> (try omega) <;> (try simp (disch := omega) only [if_pos, if_neg])))
      have hlen : s.old.length = (lockL ls t).length := by
        have h9 : s.old.length = s.orecs.length := by simpa [LockS.done] using hd
        rw [k3] at h9
        exact h9
      have l13 := l12.trans l3
      refine callK (newRelease_call _ _ (lockL ls t) s.old B3 _ (o2.is.le l3 x2) o3.is hlen.symm (by omega) x3 (hS3.le hw2 l13)) ?_
      rintro v B4 ⟨br, rfl, hS4⟩ x4 _
      repeat' (first
      | (refine lwc fun R hR => ?_; simp [wrap_i64, wrap_u64, g0, g1, g5, g7, g8, g9, hti, AW.row_get]; try simp (disch := omega) only [if_pos, if_neg, wrap_i64, wrap_u64])
      | (refine hR _ _ ?_; clear hR R) | (refine hK _ _ ?_; clear hK K) | refine lwn ?_ | refine lr ?_ | refine la ?_
      | refine wn fun K hK => ?_
      | simp only [nops, nop, lops, lop, slimG, List.map_cons, List.map_nil, List.filterMap_cons, List.filterMap_nil, Option.map_none, Option.map_some, List.getElem?_toArray, List.getElem?_cons_zero, List.getElem?_cons_succ, Option.bind_some]
      | (refine wl Try.mx [(0,0),(1,0),(4,0),(5,0),(6,0),(2,2),(3,2),(7,2),(8,0),(9,0)] (by decide +kernel) fun K hK => ?_)
      | (refine wl Try.mx [(0,0),(1,0),(2,0),(3,0),(4,0),(5,3)] (by decide +kernel) fun K hK => ?_)
      | (refine wl Try.mx [(0,0),(1,0),(2,0),(3,0),(4,0),(5,0),(6,0),(7,0),(8,0),(9,0),(10,0),(11,0),(12,0),(13,0),(14,0),(15,0),(16,0),(17,0),(18,0),(19,0),(20,0),(21,0),(22,0),(23,0),(24,0),(25,0),(26,0),(27,0),(28,0),(29,0),(30,0),(31,0),(32,0),(33,0),(34,0),(36,0),(35,2),(37,0),(38,0),(39,0),(40,0),(41,0),(42,0),(43,0),(44,0),(45,0),(46,0),(48,0),(49,0),(50,0),(51,0),(47,2),(52,2),(53,0),(54,0)] (by decide +kernel) fun K hK => ?_)
      | refine wb ?_ | refine wr ?_ | refine wk ?_ | refine we ?_ | refine ws ?_ | refine wq ?_
      | ((refine wc rfl (fun hc => ?_) (fun hc => ?_)) <;> (try simp at hc) <;> (try omega))
      | ((refine ib (fun hc => ?_) (fun hc => ?_)) <;> (try omega) <;> (try simp (disch := omega) only [if_pos, if_neg])))
      refine awp_loop (fun k fr' A' => ∃ i : Nat, k = (lockL ls t).length - i ∧ i ≤ (lockL ls t).length ∧ fr' 13 = .int .i64 i ∧ fr' 10 = .slice oo (lockL ls t).length co ∧ fr' 12 = .pointer (some ⟨br, 0, none⟩) ∧ fr' 0 = .slice ol ls.length cl ∧ fr' 1 = .slice (some pp) picks.length cp ∧
        fr' 5 = .pointer (some ⟨pq, 0, none⟩) ∧ fr' 7 = .pointer (some ⟨pq + 1, 0, none⟩) ∧ fr' 8 = .int .i64 j ∧ fr' 9 = .int .i64 t ∧ A'.Wf ∧
        Sat A' (RelH br ⟨(lockL ls t).drop i, s.old.drop i⟩ * (MemH pb (relM (lockL ls t) M i) * (pt (pq + 1) (.cells (slots th bn) true 1) * (pt pq (.cells [.pointer (some ⟨pb, 0, none⟩), .pointer (some ⟨mb, 0, none⟩)] true 1) * (bstar (updH (thH th bn) t hemp) 3 * hfix A.get)))))) (lockL ls t).length ?_ ?_
      · refine ⟨0, by simp, by simp, by simp, by simp [lockL], by simp, by simp [g0], by simp [g1], by simp [g5], by simp [g7], by simp [g8], by simp [g9], x4, ?_⟩
        have h7 : Sat B4 (LockH (bn t) s * (RelH br ⟨lockL ls t, s.old⟩ * (MemH pb M * (pt (pq + 1) (.cells (slots th bn) true 1) * (pt pq (.cells [.pointer (some ⟨pb, 0, none⟩), .pointer (some ⟨mb, 0, none⟩)] true 1) * (bstar (updH (thH th bn) t hemp) 3 * hfix A.get)))))) := hS4.cast (by ac_rfl)
        exact h7.right
      rintro k fr4 B5 ⟨i, rfl, hi, f13, f10, f12, f0, f1, f5, f7, f8, f9, x5, hS5⟩
      by_cases hlt2 : i < (lockL ls t).length
      · have hlt2i : (i : Int) < (lockL ls t).length := by omega
        have hgq5 := (hS5.cast (by ac_rfl) : Sat B5 (pt pq (.cells [.pointer (some ⟨pb, 0, none⟩), .pointer (some ⟨mb, 0, none⟩)] true 1) * (RelH br ⟨(lockL ls t).drop i, s.old.drop i⟩ * (MemH pb (relM (lockL ls t) M i) * (pt (pq + 1) (.cells (slots th bn) true 1) * (bstar (updH (thH th bn) t hemp) 3 * hfix A.get)))))).get
        repeat' (first
        | (refine lwc fun R hR => ?_; simp [wrap_i64, wrap_u64, f13, f10, f12, f0, f1, f5, f7, f8, f9, hgq5, hlt2, hlt2i, AW.row_get]; try simp (disch := omega) only [if_pos, if_neg, wrap_i64, wrap_u64])
        | (refine hR _ _ ?_; clear hR R) | (refine hK _ _ ?_; clear hK K) | refine lwn ?_ | refine lr ?_ | refine la ?_
        | refine wn fun K hK => ?_
        | simp only [nops, nop, lops, lop, slimG, List.map_cons, List.map_nil, List.filterMap_cons, List.filterMap_nil, Option.map_none, Option.map_some, List.getElem?_toArray, List.getElem?_cons_zero, List.getElem?_cons_succ, Option.bind_some]
        | (refine wl Try.mx [(0,0),(1,0),(4,0),(5,0),(6,0),(2,2),(3,2),(7,2),(8,0),(9,0)] (by decide +kernel) fun K hK => ?_)
        | (refine wl Try.mx [(0,0),(1,0),(2,0),(3,0),(4,0),(5,3)] (by decide +kernel) fun K hK => ?_)
        | (refine wl Try.mx [(0,0),(1,0),(2,0),(3,0),(4,0),(5,0),(6,0),(7,0),(8,0),(9,0),(10,0),(11,0),(12,0),(13,0),(14,0),(15,0),(16,0),(17,0),(18,0),(19,0),(20,0),(21,0),(22,0),(23,0),(24,0),(25,0),(26,0),(27,0),(28,0),(29,0),(30,0),(31,0),(32,0),(33,0),(34,0),(36,0),(35,2),(37,0),(38,0),(39,0),(40,0),(41,0),(42,0),(43,0),(44,0),(45,0),(46,0),(48,0),(49,0),(50,0),(51,0),(47,2),(52,2),(53,0),(54,0)] (by decide +kernel) fun K hK => ?_)
        | refine wb ?_ | refine wr ?_ | refine wk ?_ | refine we ?_ | refine ws ?_ | refine wq ?_
        | ((refine wc rfl (fun hc => ?_) (fun hc => ?_)) <;> (try simp at hc) <;> (try omega))
        | ((refine ib (fun hc => ?_) (fun hc => ?_)) <;> (try omega) <;> (try simp (disch := omega) only [if_pos, if_neg])))
        refine (relStep_call br pb _ _ (by simp; omega)).use x5 hS5 (by ac_rfl : _ = (RelH br ⟨(lockL ls t).drop i, s.old.drop i⟩ * MemH pb (relM (lockL ls t) M i)) * (pt (pq + 1) (.cells (slots th bn) true 1) * (pt pq (.cells [.pointer (some ⟨pb, 0, none⟩), .pointer (some ⟨mb, 0, none⟩)] true 1) * (bstar (updH (thH th bn) t hemp) 3 * hfix A.get)))) ?_
        intro v B6 hU x6 _
        obtain ⟨rfl, hY⟩ := hU.unpost
        clear hU
        have hrun := relStep_run hI.w6 hLk k5 hlen.symm hlt2
        rw [hrun] at hY
        have hi1 : IntKind.i64.wrap ((i : Int) + 1) = ((i + 1 : Nat) : Int) := wrap_i64 (by omega) (by omega)
        repeat' (first
        | (refine lwc fun R hR => ?_; simp [wrap_i64, wrap_u64, f13, f10, f12, f0, f1, f5, f7, f8, f9, hi1, AW.row_get]; try simp (disch := omega) only [if_pos, if_neg, wrap_i64, wrap_u64])
        | (refine hR _ _ ?_; clear hR R) | (refine hK _ _ ?_; clear hK K) | refine lwn ?_ | refine lr ?_ | refine la ?_
        | refine wn fun K hK => ?_
        | simp only [nops, nop, lops, lop, slimG, List.map_cons, List.map_nil, List.filterMap_cons, List.filterMap_nil, Option.map_none, Option.map_some, List.getElem?_toArray, List.getElem?_cons_zero, List.getElem?_cons_succ, Option.bind_some]
        | (refine wl Try.mx [(0,0),(1,0),(4,0),(5,0),(6,0),(2,2),(3,2),(7,2),(8,0),(9,0)] (by decide +kernel) fun K hK => ?_)
        | (refine wl Try.mx [(0,0),(1,0),(2,0),(3,0),(4,0),(5,3)] (by decide +kernel) fun K hK => ?_)
        | (refine wl Try.mx [(0,0),(1,0),(2,0),(3,0),(4,0),(5,0),(6,0),(7,0),(8,0),(9,0),(10,0),(11,0),(12,0),(13,0),(14,0),(15,0),(16,0),(17,0),(18,0),(19,0),(20,0),(21,0),(22,0),(23,0),(24,0),(25,0),(26,0),(27,0),(28,0),(29,0),(30,0),(31,0),(32,0),(33,0),(34,0),(36,0),(35,2),(37,0),(38,0),(39,0),(40,0),(41,0),(42,0),(43,0),(44,0),(45,0),(46,0),(48,0),(49,0),(50,0),(51,0),(47,2),(52,2),(53,0),(54,0)] (by decide +kernel) fun K hK => ?_)
        | refine wb ?_ | refine wr ?_ | refine wk ?_ | refine we ?_ | refine ws ?_ | refine wq ?_
        | ((refine wc rfl (fun hc => ?_) (fun hc => ?_)) <;> (try simp at hc) <;> (try omega))
        | ((refine ib (fun hc => ?_) (fun hc => ?_)) <;> (try omega) <;> (try simp (disch := omega) only [if_pos, if_neg])))
        refine ⟨(lockL ls t).length - (i + 1), by omega, i + 1, rfl, by omega, by simp, by simp [f10], by simp [f12], by simp [f0], by simp [f1], by simp [f5], by simp [f7], by simp [f8], by simp [f9], x6, hY.cast (by ac_rfl)⟩
      · have hlt2i : ¬ (i : Int) < (lockL ls t).length := by omega
        have hin : i = (lockL ls t).length := by omega
        have hS6 : Sat B5 (pt (pq + 1) (.cells (slots th bn) true 1) * (MemH pb (relM (lockL ls t) M i) * (pt pq (.cells [.pointer (some ⟨pb, 0, none⟩), .pointer (some ⟨mb, 0, none⟩)] true 1) * (bstar (updH (thH th bn) t hemp) 3 * hfix A.get)))) := hS5.right.cast (by ac_rfl)
        have hga5 := hS6.get
        repeat' (first
        | (refine lwc fun R hR => ?_; simp [wrap_i64, wrap_u64, f13, f10, f12, f0, f1, f5, f7, f8, f9, hga5, hsn, hlt2, hlt2i, ht3, hti, AW.row_get, astore]; try simp (disch := omega) only [if_pos, if_neg, wrap_i64, wrap_u64])
        | (refine hR _ _ ?_; clear hR R) | (refine hK _ _ ?_; clear hK K) | refine lwn ?_ | refine lr ?_ | refine la ?_
        | refine wn fun K hK => ?_
        | simp only [nops, nop, lops, lop, slimG, List.map_cons, List.map_nil, List.filterMap_cons, List.filterMap_nil, Option.map_none, Option.map_some, List.getElem?_toArray, List.getElem?_cons_zero, List.getElem?_cons_succ, Option.bind_some]
        | (refine wl Try.mx [(0,0),(1,0),(4,0),(5,0),(6,0),(2,2),(3,2),(7,2),(8,0),(9,0)] (by decide +kernel) fun K hK => ?_)
        | (refine wl Try.mx [(0,0),(1,0),(2,0),(3,0),(4,0),(5,3)] (by decide +kernel) fun K hK => ?_)
        | (refine wl Try.mx [(0,0),(1,0),(2,0),(3,0),(4,0),(5,0),(6,0),(7,0),(8,0),(9,0),(10,0),(11,0),(12,0),(13,0),(14,0),(15,0),(16,0),(17,0),(18,0),(19,0),(20,0),(21,0),(22,0),(23,0),(24,0),(25,0),(26,0),(27,0),(28,0),(29,0),(30,0),(31,0),(32,0),(33,0),(34,0),(36,0),(35,2),(37,0),(38,0),(39,0),(40,0),(41,0),(42,0),(43,0),(44,0),(45,0),(46,0),(48,0),(49,0),(50,0),(51,0),(47,2),(52,2),(53,0),(54,0)] (by decide +kernel) fun K hK => ?_)
        | refine wb ?_ | refine wr ?_ | refine wk ?_ | refine we ?_ | refine ws ?_ | refine wq ?_
        | ((refine wc rfl (fun hc => ?_) (fun hc => ?_)) <;> (try simp at hc) <;> (try omega))
        | ((refine ib (fun hc => ?_) (fun hc => ?_)) <;> (try omega) <;> (try simp (disch := omega) only [if_pos, if_neg])))
        refine ⟨updT th t none, by simp [f8], relM (lockL ls t) M i, bn, by simp [f0], by simp [f1], by simp [f5], by simp [f7], x5.set _ (x5.lt hga5), by rw [hin]; exact linv_release (lockL_ok ls) hI hth hd, ?_⟩
        have e : (slots th bn).set t (.pointer none) = slots (updT th t none) bn := by
          have := slots_upd th bn ht3 none (bn t)
          have e2 : updN bn t (bn t) = bn := by funext u; simp only [updN]; split <;> simp_all
          rw [e2] at this
          rw [← this]; simp [slotV, updT]
        refine (hS6.set (.cells ((slots th bn).set t (.pointer none)) true 1)).cast ?_
        unfold ExH
        rw [e, ← thH_off th bn ht3]
        ac_rfl
  clear hS hI g0 g1 g5 g7 g8 g9 hk2 hw2 hth k1 k2 k3 k4 k5 k6 hS3 hSl hga hgq hsl hsn hsv
  rintro fr A2 ⟨th, g8, M, bn, g0, g1, g5, g7, hw2, hI, hS⟩
  have hS3 : Sat A2 (pt (pq + 1) (.cells (slots th bn) true 1) * (pt pq (.cells [.pointer (some ⟨pb, 0, none⟩), .pointer (some ⟨mb, 0, none⟩)] true 1) * (MemH pb M * (bstar (thH th bn) 3 * hfix A.get)))) := hS.cast (by unfold ExH; ac_rfl)
  have hga := hS3.get
  have hgq := hS3.right.get
  have h16 := hI.w6.l1
  have hSm : Sat A2 (MemH pb M * (pt (pq + 1) (.cells (slots th bn) true 1) * (pt pq (.cells [.pointer (some ⟨pb, 0, none⟩), .pointer (some ⟨mb, 0, none⟩)] true 1) * (bstar (thH th bn) 3 * hfix A.get)))) := hS3.cast (by ac_rfl)
  repeat' (first
  | (refine lwc fun R hR => ?_; simp [wrap_i64, wrap_u64, g0, g1, g5, g7, g8, hgq, AW.row_get]; try simp (disch := omega) only [if_pos, if_neg, wrap_i64, wrap_u64])
  | (refine hR _ _ ?_; clear hR R) | (refine hK _ _ ?_; clear hK K) | refine lwn ?_ | refine lr ?_ | refine la ?_
  | refine wn fun K hK => ?_
  | simp only [nops, nop, lops, lop, slimG, List.map_cons, List.map_nil, List.filterMap_cons, List.filterMap_nil, Option.map_none, Option.map_some, List.getElem?_toArray, List.getElem?_cons_zero, List.getElem?_cons_succ, Option.bind_some]
  | (refine wl Try.mx [(0,0),(1,0),(4,0),(5,0),(6,0),(2,2),(3,2),(7,2),(8,0),(9,0)] (by decide +kernel) fun K hK => ?_)
  | (refine wl Try.mx [(0,0),(1,0),(2,0),(3,0),(4,0),(5,3)] (by decide +kernel) fun K hK => ?_)
  | (refine wl Try.mx [(0,0),(1,0),(2,0),(3,0),(4,0),(5,0),(6,0),(7,0),(8,0),(9,0),(10,0),(11,0),(12,0),(13,0),(14,0),(15,0),(16,0),(17,0),(18,0),(19,0),(20,0),(21,0),(22,0),(23,0),(24,0),(25,0),(26,0),(27,0),(28,0),(29,0),(30,0),(31,0),(32,0),(33,0),(34,0),(36,0),(35,2),(37,0),(38,0),(39,0),(40,0),(41,0),(42,0),(43,0),(44,0),(45,0),(46,0),(48,0),(49,0),(50,0),(51,0),(47,2),(52,2),(53,0),(54,0)] (by decide +kernel) fun K hK => ?_)
  | refine wb ?_ | refine wr ?_ | refine wk ?_ | refine we ?_ | refine ws ?_ | refine wq ?_
  | ((refine wc rfl (fun hc => ?_) (fun hc => ?_)) <;> (try simp at hc) <;> (try omega))
  | ((refine ib (fun hc => ?_) (fun hc => ?_)) <;> (try omega) <;> (try simp (disch := omega) only [if_pos, if_neg])))
  refine callK (image_call pb M A2 _ hSm hI.w6.len (by rw [hI.w6.l2]; decide) (by rw [hI.w6.l3]; decide) (by rw [hI.w6.l4]; decide)) ?_
  rintro v A3 ⟨⟨v0, v1, v5, v6, v7, rfl, i0, i1, i5, i6, i7⟩, l3⟩ hw3 _
  obtain ⟨o1, c1, rfl, _⟩ := i1.form
  rw [h16] at i1
  obtain ⟨hb, hhb⟩ : ∃ hb, hb = A3.next := ⟨_, rfl⟩
  repeat' (first
  | (refine lwc fun R hR => ?_; simp [wrap_i64, wrap_u64, g0, g1, g5, g7, g8, h16, AW.row_get, astore]; try simp (disch := omega) only [if_pos, if_neg, wrap_i64, wrap_u64])
  | (refine hR _ _ ?_; clear hR R) | (refine hK _ _ ?_; clear hK K) | refine lwn ?_ | refine lr ?_ | refine la ?_
  | refine wn fun K hK => ?_
  | simp only [nops, nop, lops, lop, slimG, List.map_cons, List.map_nil, List.filterMap_cons, List.filterMap_nil, Option.map_none, Option.map_some, List.getElem?_toArray, List.getElem?_cons_zero, List.getElem?_cons_succ, Option.bind_some]
  | (refine wl Try.mx [(0,0),(1,0),(4,0),(5,0),(6,0),(2,2),(3,2),(7,2),(8,0),(9,0)] (by decide +kernel) fun K hK => ?_)
  | (refine wl Try.mx [(0,0),(1,0),(2,0),(3,0),(4,0),(5,3)] (by decide +kernel) fun K hK => ?_)
  | (refine wl Try.mx [(0,0),(1,0),(2,0),(3,0),(4,0),(5,0),(6,0),(7,0),(8,0),(9,0),(10,0),(11,0),(12,0),(13,0),(14,0),(15,0),(16,0),(17,0),(18,0),(19,0),(20,0),(21,0),(22,0),(23,0),(24,0),(25,0),(26,0),(27,0),(28,0),(29,0),(30,0),(31,0),(32,0),(33,0),(34,0),(36,0),(35,2),(37,0),(38,0),(39,0),(40,0),(41,0),(42,0),(43,0),(44,0),(45,0),(46,0),(48,0),(49,0),(50,0),(51,0),(47,2),(52,2),(53,0),(54,0)] (by decide +kernel) fun K hK => ?_)
  | refine wb ?_ | refine wr ?_ | refine wk ?_ | refine we ?_ | refine ws ?_ | refine wq ?_
  | ((refine wc rfl (fun hc => ?_) (fun hc => ?_)) <;> (try simp at hc) <;> (try omega))
  | ((refine ib (fun hc => ?_) (fun hc => ?_)) <;> (try omega) <;> (try simp (disch := omega) only [if_pos, if_neg])))
  refine awp_rounds 7 ?_
  repeat' (first
  | (refine lwc fun R hR => ?_; simp [wrap_i64, wrap_u64, g0, g1, g5, g7, g8, h16, AW.row_get, astore]; try simp (disch := omega) only [if_pos, if_neg, wrap_i64, wrap_u64])
  | (refine hR _ _ ?_; clear hR R) | (refine hK _ _ ?_; clear hK K) | refine lwn ?_ | refine lr ?_ | refine la ?_
  | refine wn fun K hK => ?_
  | simp only [nops, nop, lops, lop, slimG, List.map_cons, List.map_nil, List.filterMap_cons, List.filterMap_nil, Option.map_none, Option.map_some, List.getElem?_toArray, List.getElem?_cons_zero, List.getElem?_cons_succ, Option.bind_some]
  | (refine wl Try.mx [(0,0),(1,0),(4,0),(5,0),(6,0),(2,2),(3,2),(7,2),(8,0),(9,0)] (by decide +kernel) fun K hK => ?_)
  | (refine wl Try.mx [(0,0),(1,0),(2,0),(3,0),(4,0),(5,3)] (by decide +kernel) fun K hK => ?_)
  | (refine wl Try.mx [(0,0),(1,0),(2,0),(3,0),(4,0),(5,0),(6,0),(7,0),(8,0),(9,0),(10,0),(11,0),(12,0),(13,0),(14,0),(15,0),(16,0),(17,0),(18,0),(19,0),(20,0),(21,0),(22,0),(23,0),(24,0),(25,0),(26,0),(27,0),(28,0),(29,0),(30,0),(31,0),(32,0),(33,0),(34,0),(36,0),(35,2),(37,0),(38,0),(39,0),(40,0),(41,0),(42,0),(43,0),(44,0),(45,0),(46,0),(48,0),(49,0),(50,0),(51,0),(47,2),(52,2),(53,0),(54,0)] (by decide +kernel) fun K hK => ?_)
  | refine wb ?_ | refine wr ?_ | refine wk ?_ | refine we ?_ | refine ws ?_ | refine wq ?_
  | ((refine wc rfl (fun hc => ?_) (fun hc => ?_)) <;> (try simp at hc) <;> (try omega))
  | ((refine ib (fun hc => ?_) (fun hc => ?_)) <;> (try omega) <;> (try simp (disch := omega) only [if_pos, if_neg])))
  refine awp_gen (fun A4 => A4.Wf ∧ Sat A4 (pt hb (.cells ([-1, -1, -1, -1, -1, -1].map (Value.int .i64)) true 1) * hfix A3.get)) ?_ ?_
  · have hF : Sat A3 (hfix A3.get) := ⟨A3.get, rfl, fun i o h => h⟩
    subst hhb
    refine ⟨by repeat' (first | exact hw3 | refine AW.Wf.alloc ?_ _ | refine AW.Wf.set ?_ _ (by simp)), ?_⟩
    exact ((((((hF.alloc hw3 _).set _).set _).set _).set _).set _).set _
  rintro A4 ⟨hw4, hS4⟩
  refine awp_loop (fun k fr' A' => ∃ (u : Nat) (h : List Int), k = 3 - u ∧ u ≤ 3 ∧ fr' 17 = .int .i64 u ∧ fr' 14 = .slice o1 6 c1 ∧ fr' 15 = .pointer (some ⟨hb, 0, none⟩) ∧ fr' 0 = .slice ol ls.length cl ∧ fr' 1 = .slice (some pp) picks.length cp ∧
    fr' 5 = .pointer (some ⟨pq, 0, none⟩) ∧ fr' 7 = .pointer (some ⟨pq + 1, 0, none⟩) ∧ fr' 8 = .int .i64 j ∧ A'.Wf ∧ HJ (lockL ls) th u 0 h ∧ Sat A' (pt hb (.cells (h.map (Value.int .i64)) true 1) * hfix A3.get)) 3 ?_ ?_
  · exact ⟨0, [-1, -1, -1, -1, -1, -1], rfl, by omega, by simp, by simp, by simp [hhb], by simp [g0], by simp [g1], by simp [g5], by simp [g7], by simp [g8], hw4, HJ.init _ _, hS4⟩
  have hk2 : Keeps A A2 := Keeps.of_fix (F := ExH pb pq mb (pq + 1) M th bn) (hS.cast (by ac_rfl))
  rintro k fr5 A5 ⟨u, h, rfl, hu, f17, f14, f15, f0, f1, f5, f7, f8, hw5, hH, hS5⟩
  have hk5 : Keeps A3 A5 := Keeps.of_fix (F := pt hb (.cells (h.map (Value.int .i64)) true 1)) (hS5.cast (by ac_rfl))
  have hga5 := hk5 _ _ (l3.keep hw2 hga)
  by_cases hu3 : u < 3
  · have hui : (u : Int) < 3 := by omega
    have hsl := slots_get th bn hu3
    have hu1 : IntKind.i64.wrap ((u : Int) + 1) = ((u + 1 : Nat) : Int) := wrap_i64 (by omega) (by omega)
    rcases hth : th u with _ | s
    · have hsv : slotV th bn u = .pointer none := by simp [slotV, hth]
      rw [hsv] at hsl
      repeat' (first
      | (refine lwc fun R hR => ?_; simp [wrap_i64, wrap_u64, f17, f14, f15, f0, f1, f5, f7, f8, hga5, hsl, hui, hu1, AW.row_get]; try simp (disch := omega) only [if_pos, if_neg, wrap_i64, wrap_u64])
      | (refine hR _ _ ?_; clear hR R) | (refine hK _ _ ?_; clear hK K) | refine lwn ?_ | refine lr ?_ | refine la ?_
      | refine wn fun K hK => ?_
      | simp only [nops, nop, lops, lop, slimG, List.map_cons, List.map_nil, List.filterMap_cons, List.filterMap_nil, Option.map_none, Option.map_some, List.getElem?_toArray, List.getElem?_cons_zero, List.getElem?_cons_succ, Option.bind_some]
      | (refine wl Try.mx [(0,0),(1,0),(4,0),(5,0),(6,0),(2,2),(3,2),(7,2),(8,0),(9,0)] (by decide +kernel) fun K hK => ?_)
      | (refine wl Try.mx [(0,0),(1,0),(2,0),(3,0),(4,0),(5,3)] (by decide +kernel) fun K hK => ?_)
      | (refine wl Try.mx [(0,0),(1,0),(2,0),(3,0),(4,0),(5,0),(6,0),(7,0),(8,0),(9,0),(10,0),(11,0),(12,0),(13,0),(14,0),(15,0),(16,0),(17,0),(18,0),(19,0),(20,0),(21,0),(22,0),(23,0),(24,0),(25,0),(26,0),(27,0),(28,0),(29,0),(30,0),(31,0),(32,0),(33,0),(34,0),(36,0),(35,2),(37,0),(38,0),(39,0),(40,0),(41,0),(42,0),(43,0),(44,0),(45,0),(46,0),(48,0),(49,0),(50,0),(51,0),(47,2),(52,2),(53,0),(54,0)] (by decide +kernel) fun K hK => ?_)
      | refine wb ?_ | refine wr ?_ | refine wk ?_ | refine we ?_ | refine ws ?_ | refine wq ?_
      | ((refine wc rfl (fun hc => ?_) (fun hc => ?_)) <;> (try simp at hc) <;> (try omega))
      | ((refine ib (fun hc => ?_) (fun hc => ?_)) <;> (try omega) <;> (try simp (disch := omega) only [if_pos, if_neg])))
      exact ⟨3 - (u + 1), by omega, u + 1, h, rfl, by omega, by simp, by simp [f14], by simp [f15], by simp [f0], by simp [f1], by simp [f5], by simp [f7], by simp [f8], hw5, hH.next (fun s hs => by rw [hth] at hs; cases hs), hS5⟩
    have hsv : slotV th bn u = .pointer (some ⟨bn u, 0, none⟩) := by simp [slotV, hth]
    rw [hsv] at hsl
    obtain ⟨k1, k2, k3, k4, k5, k6⟩ := hI.ok u s hth
    have hLk := lockL_ok ls u hu3
    have hLn := hLk.len
    have hSl5 : Sat A5 (LockH (bn u) s * (pt (pq + 1) (.cells (slots th bn) true 1) * (pt pq (.cells [.pointer (some ⟨pb, 0, none⟩), .pointer (some ⟨mb, 0, none⟩)] true 1) * (MemH pb M * (bstar (updH (thH th bn) u hemp) 3 * hfix A.get))))) :=
      ((hS3.le hw2 l3).of_eq hk5).cast (by rw [thH_out hu3 hth]; ac_rfl)
    repeat' (first
    | (refine lwc fun R hR => ?_; simp [wrap_i64, wrap_u64, f17, f14, f15, f0, f1, f5, f7, f8, hga5, hsl, hui, AW.row_get]; try simp (disch := omega) only [if_pos, if_neg, wrap_i64, wrap_u64])
    | (refine hR _ _ ?_; clear hR R) | (refine hK _ _ ?_; clear hK K) | refine lwn ?_ | refine lr ?_ | refine la ?_
    | refine wn fun K hK => ?_
    | simp only [nops, nop, lops, lop, slimG, List.map_cons, List.map_nil, List.filterMap_cons, List.filterMap_nil, Option.map_none, Option.map_some, List.getElem?_toArray, List.getElem?_cons_zero, List.getElem?_cons_succ, Option.bind_some]
    | (refine wl Try.mx [(0,0),(1,0),(4,0),(5,0),(6,0),(2,2),(3,2),(7,2),(8,0),(9,0)] (by decide +kernel) fun K hK => ?_)
    | (refine wl Try.mx [(0,0),(1,0),(2,0),(3,0),(4,0),(5,3)] (by decide +kernel) fun K hK => ?_)
    | (refine wl Try.mx [(0,0),(1,0),(2,0),(3,0),(4,0),(5,0),(6,0),(7,0),(8,0),(9,0),(10,0),(11,0),(12,0),(13,0),(14,0),(15,0),(16,0),(17,0),(18,0),(19,0),(20,0),(21,0),(22,0),(23,0),(24,0),(25,0),(26,0),(27,0),(28,0),(29,0),(30,0),(31,0),(32,0),(33,0),(34,0),(36,0),(35,2),(37,0),(38,0),(39,0),(40,0),(41,0),(42,0),(43,0),(44,0),(45,0),(46,0),(48,0),(49,0),(50,0),(51,0),(47,2),(52,2),(53,0),(54,0)] (by decide +kernel) fun K hK => ?_)
    | refine wb ?_ | refine wr ?_ | refine wk ?_ | refine we ?_ | refine ws ?_ | refine wq ?_
    | ((refine wc rfl (fun hc => ?_) (fun hc => ?_)) <;> (try simp at hc) <;> (try omega))
    | ((refine ib (fun hc => ?_) (fun hc => ?_)) <;> (try omega) <;> (try simp (disch := omega) only [if_pos, if_neg])))
    refine callK (wants_call _ ls u A5 (hl.keeps fun i o hi => hk5 _ _ (l3.keep hw2 (hk2 _ _ hi))) hu3) ?_
    rintro u1 B1 ⟨e1, m1⟩ x1 _
    refine ⟨m1, ?_⟩
    have hwl := wantsF_len ls u
    repeat' (first
    | (refine lwc fun R hR => ?_; simp [wrap_i64, wrap_u64, f17, f14, f15, f0, f1, f5, f7, f8, hui, AW.row_get]; try simp (disch := omega) only [if_pos, if_neg, wrap_i64, wrap_u64])
    | (refine hR _ _ ?_; clear hR R) | (refine hK _ _ ?_; clear hK K) | refine lwn ?_ | refine lr ?_ | refine la ?_
    | refine wn fun K hK => ?_
    | simp only [nops, nop, lops, lop, slimG, List.map_cons, List.map_nil, List.filterMap_cons, List.filterMap_nil, Option.map_none, Option.map_some, List.getElem?_toArray, List.getElem?_cons_zero, List.getElem?_cons_succ, Option.bind_some]
    | (refine wl Try.mx [(0,0),(1,0),(4,0),(5,0),(6,0),(2,2),(3,2),(7,2),(8,0),(9,0)] (by decide +kernel) fun K hK => ?_)
    | (refine wl Try.mx [(0,0),(1,0),(2,0),(3,0),(4,0),(5,3)] (by decide +kernel) fun K hK => ?_)
    | (refine wl Try.mx [(0,0),(1,0),(2,0),(3,0),(4,0),(5,0),(6,0),(7,0),(8,0),(9,0),(10,0),(11,0),(12,0),(13,0),(14,0),(15,0),(16,0),(17,0),(18,0),(19,0),(20,0),(21,0),(22,0),(23,0),(24,0),(25,0),(26,0),(27,0),(28,0),(29,0),(30,0),(31,0),(32,0),(33,0),(34,0),(36,0),(35,2),(37,0),(38,0),(39,0),(40,0),(41,0),(42,0),(43,0),(44,0),(45,0),(46,0),(48,0),(49,0),(50,0),(51,0),(47,2),(52,2),(53,0),(54,0)] (by decide +kernel) fun K hK => ?_)
    | refine wb ?_ | refine wr ?_ | refine wk ?_ | refine we ?_ | refine ws ?_ | refine wq ?_
    | ((refine wc rfl (fun hc => ?_) (fun hc => ?_)) <;> (try simp at hc) <;> (try omega))
    | ((refine ib (fun hc => ?_) (fun hc => ?_)) <;> (try omega) <;> (try simp (disch := omega) only [if_pos, if_neg])))
    refine callK (sorted_call _ _ B1 e1.is (by omega)) ?_
    rintro u2 B2 ⟨e2, m2⟩ x2 _
    refine ⟨m2, ?_⟩
    have m12 := m1.trans m2
    have hga2 := m12.keep hw5 hga5
    repeat' (first
    | (refine lwc fun R hR => ?_; simp [wrap_i64, wrap_u64, f17, f14, f15, f0, f1, f5, f7, f8, hga2, hsl, hui, AW.row_get]; try simp (disch := omega) only [if_pos, if_neg, wrap_i64, wrap_u64])
    | (refine hR _ _ ?_; clear hR R) | (refine hK _ _ ?_; clear hK K) | refine lwn ?_ | refine lr ?_ | refine la ?_
    | refine wn fun K hK => ?_
    | simp only [nops, nop, lops, lop, slimG, List.map_cons, List.map_nil, List.filterMap_cons, List.filterMap_nil, Option.map_none, Option.map_some, List.getElem?_toArray, List.getElem?_cons_zero, List.getElem?_cons_succ, Option.bind_some]
    | (refine wl Try.mx [(0,0),(1,0),(4,0),(5,0),(6,0),(2,2),(3,2),(7,2),(8,0),(9,0)] (by decide +kernel) fun K hK => ?_)
    | (refine wl Try.mx [(0,0),(1,0),(2,0),(3,0),(4,0),(5,3)] (by decide +kernel) fun K hK => ?_)
    | (refine wl Try.mx [(0,0),(1,0),(2,0),(3,0),(4,0),(5,0),(6,0),(7,0),(8,0),(9,0),(10,0),(11,0),(12,0),(13,0),(14,0),(15,0),(16,0),(17,0),(18,0),(19,0),(20,0),(21,0),(22,0),(23,0),(24,0),(25,0),(26,0),(27,0),(28,0),(29,0),(30,0),(31,0),(32,0),(33,0),(34,0),(36,0),(35,2),(37,0),(38,0),(39,0),(40,0),(41,0),(42,0),(43,0),(44,0),(45,0),(46,0),(48,0),(49,0),(50,0),(51,0),(47,2),(52,2),(53,0),(54,0)] (by decide +kernel) fun K hK => ?_)
    | refine wb ?_ | refine wr ?_ | refine wk ?_ | refine we ?_ | refine ws ?_ | refine wq ?_
    | ((refine wc rfl (fun hc => ?_) (fun hc => ?_)) <;> (try simp at hc) <;> (try omega))
    | ((refine ib (fun hc => ?_) (fun hc => ?_)) <;> (try omega) <;> (try simp (disch := omega) only [if_pos, if_neg])))
    refine callK (lockOld_call (bn u) s B2 _ (hSl5.le hw5 m12) (by omega)) ?_
    rintro u3 B3 ⟨e3, m3⟩ x3 _
    refine ⟨m3, ?_⟩
    have hS6 := IntsH.of_own (IntsH.of_own (hS5.le hw5 m1) x1 m2 e2) x2 m3 e3
    obtain ⟨oo, co, rfl, _⟩ := e2.is.form
    obtain ⟨ow', cw', rfl, _⟩ := e3.is.form
    repeat' (first
    | (refine lwc fun R hR => ?_; simp [wrap_i64, wrap_u64, f17, f14, f15, f0, f1, f5, f7, f8, hui, AW.row_get]; try simp (disch := omega) only [if_pos, if_neg, wrap_i64, wrap_u64])
    | (refine hR _ _ ?_; clear hR R) | (refine hK _ _ ?_; clear hK K) | refine lwn ?_ | refine lr ?_ | refine la ?_
    | refine wn fun K hK => ?_
    | simp only [nops, nop, lops, lop, slimG, List.map_cons, List.map_nil, List.filterMap_cons, List.filterMap_nil, Option.map_none, Option.map_some, List.getElem?_toArray, List.getElem?_cons_zero, List.getElem?_cons_succ, Option.bind_some]
    | (refine wl Try.mx [(0,0),(1,0),(4,0),(5,0),(6,0),(2,2),(3,2),(7,2),(8,0),(9,0)] (by decide +kernel) fun K hK => ?_)
    | (refine wl Try.mx [(0,0),(1,0),(2,0),(3,0),(4,0),(5,3)] (by decide +kernel) fun K hK => ?_)
    | (refine wl Try.mx [(0,0),(1,0),(2,0),(3,0),(4,0),(5,0),(6,0),(7,0),(8,0),(9,0),(10,0),(11,0),(12,0),(13,0),(14,0),(15,0),(16,0),(17,0),(18,0),(19,0),(20,0),(21,0),(22,0),(23,0),(24,0),(25,0),(26,0),(27,0),(28,0),(29,0),(30,0),(31,0),(32,0),(33,0),(34,0),(36,0),(35,2),(37,0),(38,0),(39,0),(40,0),(41,0),(42,0),(43,0),(44,0),(45,0),(46,0),(48,0),(49,0),(50,0),(51,0),(47,2),(52,2),(53,0),(54,0)] (by decide +kernel) fun K hK => ?_)
    | refine wb ?_ | refine wr ?_ | refine wk ?_ | refine we ?_ | refine ws ?_ | refine wq ?_
    | ((refine wc rfl (fun hc => ?_) (fun hc => ?_)) <;> (try simp at hc) <;> (try omega))
    | ((refine ib (fun hc => ?_) (fun hc => ?_)) <;> (try omega) <;> (try simp (disch := omega) only [if_pos, if_neg])))
    refine awp_loop (fun k fr' A' => ∃ (q : Nat) (h : List Int), k = s.old.length - q ∧ q ≤ s.old.length ∧ fr' 20 = .int .i64 q ∧ fr' 18 = .slice oo (lockL ls u).length co ∧ fr' 19 = .slice ow' s.old.length cw' ∧ fr' 17 = .int .i64 u ∧ fr' 14 = .slice o1 6 c1 ∧ fr' 15 = .pointer (some ⟨hb, 0, none⟩) ∧ fr' 0 = .slice ol ls.length cl ∧ fr' 1 = .slice (some pp) picks.length cp ∧
      fr' 5 = .pointer (some ⟨pq, 0, none⟩) ∧ fr' 7 = .pointer (some ⟨pq + 1, 0, none⟩) ∧ fr' 8 = .int .i64 j ∧ A'.Wf ∧ HJ (lockL ls) th u q h ∧
      Sat A' (IntsH .u64 (.slice ow' s.old.length cw') s.old * (IntsH .i64 (.slice oo (lockL ls u).length co) (lockL ls u) * (pt hb (.cells (h.map (Value.int .i64)) true 1) * hfix A3.get)))) s.old.length ?_ ?_
    · exact ⟨0, h, by simp, by simp, by simp, by simp [lockL], by simp, by simp [f17], by simp [f14], by simp [f15], by simp [f0], by simp [f1], by simp [f5], by simp [f7], by simp [f8], x3, hH, hS6⟩
    rintro k fr6 A6 ⟨q, h, rfl, hq, d20, d18, d19, d17, d14, d15, d0, d1, d5, d7, d8, hw6, hH, hS6⟩
    by_cases hlt : q < s.old.length
    case neg =>
      have hlti : ¬ (q : Int) < s.old.length := by omega
      repeat' (first
      | (refine lwc fun R hR => ?_; simp [wrap_i64, wrap_u64, d20, d18, d19, d17, d14, d15, d0, d1, d5, d7, d8, hlt, hlti, hu1, AW.row_get]; try simp (disch := omega) only [if_pos, if_neg, wrap_i64, wrap_u64])
      | (refine hR _ _ ?_; clear hR R) | (refine hK _ _ ?_; clear hK K) | refine lwn ?_ | refine lr ?_ | refine la ?_
      | refine wn fun K hK => ?_
      | simp only [nops, nop, lops, lop, slimG, List.map_cons, List.map_nil, List.filterMap_cons, List.filterMap_nil, Option.map_none, Option.map_some, List.getElem?_toArray, List.getElem?_cons_zero, List.getElem?_cons_succ, Option.bind_some]
      | (refine wl Try.mx [(0,0),(1,0),(4,0),(5,0),(6,0),(2,2),(3,2),(7,2),(8,0),(9,0)] (by decide +kernel) fun K hK => ?_)
      | (refine wl Try.mx [(0,0),(1,0),(2,0),(3,0),(4,0),(5,3)] (by decide +kernel) fun K hK => ?_)
      | (refine wl Try.mx [(0,0),(1,0),(2,0),(3,0),(4,0),(5,0),(6,0),(7,0),(8,0),(9,0),(10,0),(11,0),(12,0),(13,0),(14,0),(15,0),(16,0),(17,0),(18,0),(19,0),(20,0),(21,0),(22,0),(23,0),(24,0),(25,0),(26,0),(27,0),(28,0),(29,0),(30,0),(31,0),(32,0),(33,0),(34,0),(36,0),(35,2),(37,0),(38,0),(39,0),(40,0),(41,0),(42,0),(43,0),(44,0),(45,0),(46,0),(48,0),(49,0),(50,0),(51,0),(47,2),(52,2),(53,0),(54,0)] (by decide +kernel) fun K hK => ?_)
      | refine wb ?_ | refine wr ?_ | refine wk ?_ | refine we ?_ | refine ws ?_ | refine wq ?_
      | ((refine wc rfl (fun hc => ?_) (fun hc => ?_)) <;> (try simp at hc) <;> (try omega))
      | ((refine ib (fun hc => ?_) (fun hc => ?_)) <;> (try omega) <;> (try simp (disch := omega) only [if_pos, if_neg])))
      exact ⟨3 - (u + 1), by omega, u + 1, h, rfl, by omega, by simp, by simp [d14], by simp [d15], by simp [d0], by simp [d1], by simp [d5], by simp [d7], by simp [d8], hw6, hH.next (fun s' hs => by rw [hth] at hs; injection hs with hs; subst hs; omega), hS6.right.right⟩
    have hlti : (q : Int) < s.old.length := by omega
    have hq1 : IntKind.i64.wrap ((q : Int) + 1) = ((q + 1 : Nat) : Int) := wrap_i64 (by omega) (by omega)
    have hqL : q < (lockL ls u).length := by omega
    have hqLi : (q : Int) < (lockL ls u).length := by omega
    have hqLn : ¬ ((lockL ls u).length : Int) ≤ q := by omega
    have hk6 : Keeps A3 A6 := Keeps.of_fix (F := IntsH .u64 (.slice ow' s.old.length cw') s.old * (IntsH .i64 (.slice oo (lockL ls u).length co) (lockL ls u) * pt hb (.cells (h.map (Value.int .i64)) true 1))) (hS6.cast (by ac_rfl))
    have hrx := hLk.at hqL
    obtain ⟨x, hx⟩ : ∃ x : Nat, orec (lockL ls u) q = x := ⟨(orec (lockL ls u) q).toNat, by omega⟩
    have hx6 : x < 6 := by omega
    have hxi : (x : Int) < 6 := by omega
    have hxn : ¬ (6 : Int) ≤ x := by omega
    have hx0 : ¬ (x : Int) < 0 := by omega
    have hxf : h.getD x 0 = -1 := by have := hH.fresh (lockL_ok ls) hI hth hlt; rwa [hx, Int.toNat_natCast] at this
    have hxo : ow M x = u + 1 := by have := hI.held u s q hth hlt; rwa [hx, Int.toNat_natCast] at this
    obtain ⟨p18, r18, w18, e18, g18, c18⟩ := (IntsH.is hS6.right).atg hqL
    subst e18
    rw [← orec_eq hqL, hx] at c18
    obtain ⟨p19, r19, w19, e19, g19, c19⟩ := (IntsH.is hS6).atg hlt
    subst e19
    rw [k5 _ (List.getElem_mem hlt)] at c19
    obtain ⟨p1, r1, w1, e1', g1', c1'⟩ := (i1.keeps hk6).atg (i := x) (by omega)
    subst e1'
    have hMx : (M 1)[x] = (u : Int) + 1 := by rw [← hxo]; unfold ow; rw [List.getD_eq_getElem?_getD, List.getElem?_eq_getElem (by omega)]; rfl
    rw [hMx] at c1'
    have hgh := hS6.right.right.get
    obtain ⟨rh, hrh⟩ : ∃ rh, rh = h.map (Value.int .i64) := ⟨_, rfl⟩
    have chd : rh[x]? = some (.int .i64 (-1)) := by
      rw [hrh, List.getElem?_map, ← hxf, List.getD_eq_getElem?_getD, List.getElem?_eq_getElem (by rw [hH.len]; omega)]; rfl
    have hbd : x + 1 ≤ rh.length := by rw [hrh, List.length_map, hH.len]; omega
    rw [← hrh] at hgh
    have hhu : holderF ((u : Int) + 1) = u := holderF_word u hu3 rfl
    have hvu : versionF ((u : Int) + 1) = 0 := versionF_word u hu3 rfl
    have hv0 := versionF_zero
    repeat' (first
    | (refine lwc fun R hR => ?_; simp [wrap_i64, wrap_u64, d20, d18, d19, d17, d14, d15, d0, d1, d5, d7, d8, hlti, hq1, hqL, hqLi, hqLn, hxi, hxn, hx0, hx6, g18, c18, g19, c19, g1', c1', hgh, chd, hbd, hhu, hvu, hv0, AW.row_get, astore]; try simp (disch := omega) only [if_pos, if_neg, wrap_i64, wrap_u64])
    | (refine hR _ _ ?_; clear hR R) | (refine hK _ _ ?_; clear hK K) | refine lwn ?_ | refine lr ?_ | refine la ?_
    | refine wn fun K hK => ?_
    | simp only [nops, nop, lops, lop, slimG, List.map_cons, List.map_nil, List.filterMap_cons, List.filterMap_nil, Option.map_none, Option.map_some, List.getElem?_toArray, List.getElem?_cons_zero, List.getElem?_cons_succ, Option.bind_some]
    | (refine wl Try.mx [(0,0),(1,0),(4,0),(5,0),(6,0),(2,2),(3,2),(7,2),(8,0),(9,0)] (by decide +kernel) fun K hK => ?_)
    | (refine wl Try.mx [(0,0),(1,0),(2,0),(3,0),(4,0),(5,3)] (by decide +kernel) fun K hK => ?_)
    | (refine wl Try.mx [(0,0),(1,0),(2,0),(3,0),(4,0),(5,0),(6,0),(7,0),(8,0),(9,0),(10,0),(11,0),(12,0),(13,0),(14,0),(15,0),(16,0),(17,0),(18,0),(19,0),(20,0),(21,0),(22,0),(23,0),(24,0),(25,0),(26,0),(27,0),(28,0),(29,0),(30,0),(31,0),(32,0),(33,0),(34,0),(36,0),(35,2),(37,0),(38,0),(39,0),(40,0),(41,0),(42,0),(43,0),(44,0),(45,0),(46,0),(48,0),(49,0),(50,0),(51,0),(47,2),(52,2),(53,0),(54,0)] (by decide +kernel) fun K hK => ?_)
    | (refine callK (rholder_call _ _) ?_; rintro _ _ ⟨rfl, rfl⟩ _ _)
    | (refine callK (rversion_call _ _) ?_; rintro _ _ ⟨rfl, rfl⟩ _ _)
    | refine wb ?_ | refine wr ?_ | refine wk ?_ | refine we ?_ | refine ws ?_ | refine wq ?_
    | ((refine wc rfl (fun hc => ?_) (fun hc => ?_)) <;> (try simp at hc) <;> (try omega))
    | ((refine ib (fun hc => ?_) (fun hc => ?_)) <;> (try omega) <;> (try simp (disch := omega) only [if_pos, if_neg])))
    refine ⟨s.old.length - (q + 1), by omega, q + 1, h.set x u, rfl, by omega, by simp, by simp [d18], by simp [d19], by simp [d17], by simp [d14], by simp [d15], by simp [d0], by simp [d1], by simp [d5], by simp [d7], by simp [d8], hw6.set _ (hw6.lt hgh), ?_, ?_⟩
    · have := hH.put (lockL_ok ls) hI hth hlt
      rwa [hx, Int.toNat_natCast] at this
    · have h7 : Sat A6 (pt hb (.cells rh true 1) * (IntsH .u64 (.slice (some p19) s.old.length cw') s.old * (IntsH .i64 (.slice (some p18) (lockL ls u).length co) (lockL ls u) * hfix A3.get))) := hS6.cast (by rw [hrh]; ac_rfl)
      refine (h7.set (.cells (rh.set x (.int .i64 u)) true 1)).cast ?_
      rw [hrh, List.map_set]
      ac_rfl
  · have hu3' : u = 3 := by omega
    subst hu3'
    repeat' (first
    | (refine lwc fun R hR => ?_; simp [wrap_i64, wrap_u64, f17, f14, f15, f0, f1, f5, f7, f8, AW.row_get]; try simp (disch := omega) only [if_pos, if_neg, wrap_i64, wrap_u64])
    | (refine hR _ _ ?_; clear hR R) | (refine hK _ _ ?_; clear hK K) | refine lwn ?_ | refine lr ?_ | refine la ?_
    | refine wn fun K hK => ?_
    | simp only [nops, nop, lops, lop, slimG, List.map_cons, List.map_nil, List.filterMap_cons, List.filterMap_nil, Option.map_none, Option.map_some, List.getElem?_toArray, List.getElem?_cons_zero, List.getElem?_cons_succ, Option.bind_some]
    | (refine wl Try.mx [(0,0),(1,0),(4,0),(5,0),(6,0),(2,2),(3,2),(7,2),(8,0),(9,0)] (by decide +kernel) fun K hK => ?_)
    | (refine wl Try.mx [(0,0),(1,0),(2,0),(3,0),(4,0),(5,3)] (by decide +kernel) fun K hK => ?_)
    | (refine wl Try.mx [(0,0),(1,0),(2,0),(3,0),(4,0),(5,0),(6,0),(7,0),(8,0),(9,0),(10,0),(11,0),(12,0),(13,0),(14,0),(15,0),(16,0),(17,0),(18,0),(19,0),(20,0),(21,0),(22,0),(23,0),(24,0),(25,0),(26,0),(27,0),(28,0),(29,0),(30,0),(31,0),(32,0),(33,0),(34,0),(36,0),(35,2),(37,0),(38,0),(39,0),(40,0),(41,0),(42,0),(43,0),(44,0),(45,0),(46,0),(48,0),(49,0),(50,0),(51,0),(47,2),(52,2),(53,0),(54,0)] (by decide +kernel) fun K hK => ?_)
    | refine wb ?_ | refine wr ?_ | refine wk ?_ | refine we ?_ | refine ws ?_ | refine wq ?_
    | ((refine wc rfl (fun hc => ?_) (fun hc => ?_)) <;> (try simp at hc) <;> (try omega))
    | ((refine ib (fun hc => ?_) (fun hc => ?_)) <;> (try omega) <;> (try simp (disch := omega) only [if_pos, if_neg])))
    refine awp_loop (fun k fr' A' => A5 = A' ∧ ∃ q : Nat, k = 6 - q ∧ q ≤ 6 ∧ fr' 21 = .int .i64 q ∧ fr' 14 = .slice o1 6 c1 ∧ fr' 15 = .pointer (some ⟨hb, 0, none⟩) ∧ fr' 0 = .slice ol ls.length cl ∧ fr' 1 = .slice (some pp) picks.length cp ∧
      fr' 5 = .pointer (some ⟨pq, 0, none⟩) ∧ fr' 7 = .pointer (some ⟨pq + 1, 0, none⟩) ∧ fr' 8 = .int .i64 j) 6 ?_ ?_
    · exact ⟨rfl, 0, by simp, by simp, by simp, by simp [f14], by simp [f15], by simp [f0], by simp [f1], by simp [f5], by simp [f7], by simp [f8]⟩
    rintro k fr6 _ ⟨rfl, q, rfl, hq, d21, d14, d15, d0, d1, d5, d7, d8⟩
    by_cases hq6 : q < 6
    · have hqi : (q : Int) < 6 := by omega
      have hq1 : IntKind.i64.wrap ((q : Int) + 1) = ((q + 1 : Nat) : Int) := wrap_i64 (by omega) (by omega)
      have hgh := hS5.get
      obtain ⟨rh, hrh⟩ : ∃ rh, rh = h.map (Value.int .i64) := ⟨_, rfl⟩
      obtain ⟨z, hz⟩ : ∃ z, z = h.getD q 0 := ⟨_, rfl⟩
      have chd : rh[q]? = some (.int .i64 z) := by
        rw [hrh, List.getElem?_map, hz, List.getD_eq_getElem?_getD, List.getElem?_eq_getElem (by rw [hH.len]; omega)]; rfl
      rw [← hrh] at hgh
      by_cases hneg : z < 0
      · have h0 := hH.free hI hq6 (hz ▸ hneg)
        obtain ⟨p1, r1, w1, e1', g1', c1'⟩ := (i1.keeps hk5).atg (i := q) (by omega)
        subst e1'
        have hMx : (M 1)[q] = 0 := by rw [← h0]; unfold ow; rw [List.getD_eq_getElem?_getD, List.getElem?_eq_getElem (by omega)]; rfl
        rw [hMx] at c1'
        have hh0 := holderF_zero
        repeat' (first
        | (refine lwc fun R hR => ?_; simp [wrap_i64, wrap_u64, d21, d14, d15, d0, d1, d5, d7, d8, hqi, hq1, hgh, chd, hneg, g1', c1', hh0, AW.row_get]; try simp (disch := omega) only [if_pos, if_neg, wrap_i64, wrap_u64])
        | (refine hR _ _ ?_; clear hR R) | (refine hK _ _ ?_; clear hK K) | refine lwn ?_ | refine lr ?_ | refine la ?_
        | refine wn fun K hK => ?_
        | simp only [nops, nop, lops, lop, slimG, List.map_cons, List.map_nil, List.filterMap_cons, List.filterMap_nil, Option.map_none, Option.map_some, List.getElem?_toArray, List.getElem?_cons_zero, List.getElem?_cons_succ, Option.bind_some]
        | (refine wl Try.mx [(0,0),(1,0),(4,0),(5,0),(6,0),(2,2),(3,2),(7,2),(8,0),(9,0)] (by decide +kernel) fun K hK => ?_)
        | (refine wl Try.mx [(0,0),(1,0),(2,0),(3,0),(4,0),(5,3)] (by decide +kernel) fun K hK => ?_)
        | (refine wl Try.mx [(0,0),(1,0),(2,0),(3,0),(4,0),(5,0),(6,0),(7,0),(8,0),(9,0),(10,0),(11,0),(12,0),(13,0),(14,0),(15,0),(16,0),(17,0),(18,0),(19,0),(20,0),(21,0),(22,0),(23,0),(24,0),(25,0),(26,0),(27,0),(28,0),(29,0),(30,0),(31,0),(32,0),(33,0),(34,0),(36,0),(35,2),(37,0),(38,0),(39,0),(40,0),(41,0),(42,0),(43,0),(44,0),(45,0),(46,0),(48,0),(49,0),(50,0),(51,0),(47,2),(52,2),(53,0),(54,0)] (by decide +kernel) fun K hK => ?_)
        | (refine callK (rholder_call _ _) ?_; rintro _ _ ⟨rfl, rfl⟩ _ _)
        | refine wb ?_ | refine wr ?_ | refine wk ?_ | refine we ?_ | refine ws ?_ | refine wq ?_
        | ((refine wc rfl (fun hc => ?_) (fun hc => ?_)) <;> (try simp at hc) <;> (try omega))
        | ((refine ib (fun hc => ?_) (fun hc => ?_)) <;> (try omega) <;> (try simp (disch := omega) only [if_pos, if_neg])))
        exact ⟨6 - (q + 1), by omega, rfl, q + 1, rfl, by omega, by simp, by simp [d14], by simp [d15], by simp [d0], by simp [d1], by simp [d5], by simp [d7], by simp [d8]⟩
      · repeat' (first
      | (refine lwc fun R hR => ?_; simp [wrap_i64, wrap_u64, d21, d14, d15, d0, d1, d5, d7, d8, hqi, hq1, hgh, chd, hneg, AW.row_get]; try simp (disch := omega) only [if_pos, if_neg, wrap_i64, wrap_u64])
      | (refine hR _ _ ?_; clear hR R) | (refine hK _ _ ?_; clear hK K) | refine lwn ?_ | refine lr ?_ | refine la ?_
      | refine wn fun K hK => ?_
      | simp only [nops, nop, lops, lop, slimG, List.map_cons, List.map_nil, List.filterMap_cons, List.filterMap_nil, Option.map_none, Option.map_some, List.getElem?_toArray, List.getElem?_cons_zero, List.getElem?_cons_succ, Option.bind_some]
      | (refine wl Try.mx [(0,0),(1,0),(4,0),(5,0),(6,0),(2,2),(3,2),(7,2),(8,0),(9,0)] (by decide +kernel) fun K hK => ?_)
      | (refine wl Try.mx [(0,0),(1,0),(2,0),(3,0),(4,0),(5,3)] (by decide +kernel) fun K hK => ?_)
      | (refine wl Try.mx [(0,0),(1,0),(2,0),(3,0),(4,0),(5,0),(6,0),(7,0),(8,0),(9,0),(10,0),(11,0),(12,0),(13,0),(14,0),(15,0),(16,0),(17,0),(18,0),(19,0),(20,0),(21,0),(22,0),(23,0),(24,0),(25,0),(26,0),(27,0),(28,0),(29,0),(30,0),(31,0),(32,0),(33,0),(34,0),(36,0),(35,2),(37,0),(38,0),(39,0),(40,0),(41,0),(42,0),(43,0),(44,0),(45,0),(46,0),(48,0),(49,0),(50,0),(51,0),(47,2),(52,2),(53,0),(54,0)] (by decide +kernel) fun K hK => ?_)
      | refine wb ?_ | refine wr ?_ | refine wk ?_ | refine we ?_ | refine ws ?_ | refine wq ?_
      | ((refine wc rfl (fun hc => ?_) (fun hc => ?_)) <;> (try simp at hc) <;> (try omega))
      | ((refine ib (fun hc => ?_) (fun hc => ?_)) <;> (try omega) <;> (try simp (disch := omega) only [if_pos, if_neg])))
        exact ⟨6 - (q + 1), by omega, rfl, q + 1, rfl, by omega, by simp, by simp [d14], by simp [d15], by simp [d0], by simp [d1], by simp [d5], by simp [d7], by simp [d8]⟩
    · have hqi : ¬ (q : Int) < 6 := by omega
      have hj1 : IntKind.i64.wrap ((j : Int) + 1) = ((j + 1 : Nat) : Int) := wrap_i64 (by omega) (by omega)
      repeat' (first
      | (refine lwc fun R hR => ?_; simp [wrap_i64, wrap_u64, d21, d14, d15, d0, d1, d5, d7, d8, hqi, hj1, AW.row_get]; try simp (disch := omega) only [if_pos, if_neg, wrap_i64, wrap_u64])
      | (refine hR _ _ ?_; clear hR R) | (refine hK _ _ ?_; clear hK K) | refine lwn ?_ | refine lr ?_ | refine la ?_
      | refine wn fun K hK => ?_
      | simp only [nops, nop, lops, lop, slimG, List.map_cons, List.map_nil, List.filterMap_cons, List.filterMap_nil, Option.map_none, Option.map_some, List.getElem?_toArray, List.getElem?_cons_zero, List.getElem?_cons_succ, Option.bind_some]
      | (refine wl Try.mx [(0,0),(1,0),(4,0),(5,0),(6,0),(2,2),(3,2),(7,2),(8,0),(9,0)] (by decide +kernel) fun K hK => ?_)
      | (refine wl Try.mx [(0,0),(1,0),(2,0),(3,0),(4,0),(5,3)] (by decide +kernel) fun K hK => ?_)
      | (refine wl Try.mx [(0,0),(1,0),(2,0),(3,0),(4,0),(5,0),(6,0),(7,0),(8,0),(9,0),(10,0),(11,0),(12,0),(13,0),(14,0),(15,0),(16,0),(17,0),(18,0),(19,0),(20,0),(21,0),(22,0),(23,0),(24,0),(25,0),(26,0),(27,0),(28,0),(29,0),(30,0),(31,0),(32,0),(33,0),(34,0),(36,0),(35,2),(37,0),(38,0),(39,0),(40,0),(41,0),(42,0),(43,0),(44,0),(45,0),(46,0),(48,0),(49,0),(50,0),(51,0),(47,2),(52,2),(53,0),(54,0)] (by decide +kernel) fun K hK => ?_)
      | refine wb ?_ | refine wr ?_ | refine wk ?_ | refine we ?_ | refine ws ?_ | refine wq ?_
      | ((refine wc rfl (fun hc => ?_) (fun hc => ?_)) <;> (try simp at hc) <;> (try omega))
      | ((refine ib (fun hc => ?_) (fun hc => ?_)) <;> (try omega) <;> (try simp (disch := omega) only [if_pos, if_neg])))
      exact ⟨picks.length - (j + 1), by omega, j + 1, th, rfl, by omega, by simp, M, bn, by simp [d0], by simp [d1], by simp [d5], by simp [d7], hw5, hI, (hS.le hw2 l3).of_eq hk5⟩

end Go.Stx
