/-
  The reference's machine that stores: how it is made, whether it is done. Its slices are those that it is given.
-/
import Derived.Test.YtajhaafmlnoioaaRelC
namespace Go.Stx
open Go Go.Proofs
attribute [local irreducible] AWP LWalk ACall ARounds lops nops
set_option linter.unusedVariables false
set_option linter.unusedSimpArgs false

def storesO (cell : Int) (vo vw : Value) (at_ : Nat) : AObj := .cells [.int .i64 cell, vo, vw, .int .i64 at_] true 1

set_option maxRecDepth 20000 in
theorem newStores_call (cell : Int) (o o' : Option Addr) (n c c' : Nat) (A : AW) (hc : n ≤ c) (hc' : n ≤ c') :
    ACall Try.prog 29 [.int .i64 cell, .slice o n c, .slice o' n c'] A (fun v A' => v = .pointer (some ⟨A.next, 0, none⟩) ∧ A' = A.alloc (storesO cell (.slice o n c) (.slice o' n c') 0)) := by
  refine acall_intro Try.func29 rfl (by kernel_rfl) fun _ => ?_
  rcases o with _ | p <;> rcases o' with _ | q
  all_goals
    repeat' (first
    | (refine lwc fun R hR => ?_; simp [wrap_i64, wrap_u64, asliceAt, hc, hc']; try simp (disch := omega) only [if_pos, if_neg, wrap_i64, wrap_u64])
    | (refine hR _ _ ?_; clear hR R) | (refine hK _ _ ?_; clear hK K) | refine lwn ?_ | refine lr ?_ | refine la ?_
    | refine wn fun K hK => ?_
    | simp only [nops, nop, lops, lop, slimG, List.map_cons, List.map_nil, List.filterMap_cons, List.filterMap_nil, Option.map_none, Option.map_some, List.getElem?_toArray, List.getElem?_cons_zero, List.getElem?_cons_succ, Option.bind_some]
    | (refine wl Try.mx [(0,0),(1,0),(2,0),(3,0),(4,0),(5,0),(6,0),(7,0),(8,2),(9,0)] (by decide +kernel) fun K hK => ?_)
    | refine wb ?_ | refine wr ?_ | refine wk ?_ | refine we ?_ | refine ws ?_ | refine wq ?_
    | ((refine wc rfl (fun hc => ?_) (fun hc => ?_)) <;> (try simp at hc) <;> (try omega))
    | ((refine ib (fun hc => ?_) (fun hc => ?_)) <;> (try omega) <;> (try simp (disch := omega) only [if_pos, if_neg])))
    exact ⟨_, by first | (simp; done) | (simp; rfl), rfl, rfl⟩

theorem storesDone_call (b : Nat) (cell : Int) (vo vw : Value) (o : Option Addr) (n c k : Nat) (A : AW) (hv : vo = .slice o n c) (hg : A.get b = some (storesO cell vo vw k)) :
    ACall Try.prog 33 [.pointer (some ⟨b, 0, none⟩)] A (fun v A' => v = .bool (decide (k = n)) ∧ A = A') := by
  refine acall_intro Try.func33 rfl (by kernel_rfl) fun hw => ?_
  subst hv
  unfold storesO at hg
  repeat' (first
  | (refine lwc fun R hR => ?_; simp [wrap_i64, wrap_u64, hg, AW.row_get]; try simp (disch := omega) only [if_pos, if_neg, wrap_i64, wrap_u64])
  | (refine hR _ _ ?_; clear hR R) | (refine hK _ _ ?_; clear hK K) | refine lwn ?_ | refine lr ?_ | refine la ?_
  | refine wn fun K hK => ?_
  | simp only [nops, nop, lops, lop, slimG, List.map_cons, List.map_nil, List.filterMap_cons, List.filterMap_nil, Option.map_none, Option.map_some, List.getElem?_toArray, List.getElem?_cons_zero, List.getElem?_cons_succ, Option.bind_some]
  | (refine wl Try.mx [(0,0),(1,0),(2,0),(3,0),(4,0),(5,0),(6,0),(7,0),(8,0),(9,0),(10,0)] (by decide +kernel) fun K hK => ?_)
  | refine wb ?_ | refine wr ?_ | refine wk ?_ | refine we ?_ | refine ws ?_ | refine wq ?_
  | ((refine wc rfl (fun hc => ?_) (fun hc => ?_)) <;> (try simp at hc) <;> (try omega))
  | ((refine ib (fun hc => ?_) (fun hc => ?_)) <;> (try omega) <;> (try simp (disch := omega) only [if_pos, if_neg])))
  simp
  omega

end Go.Stx
