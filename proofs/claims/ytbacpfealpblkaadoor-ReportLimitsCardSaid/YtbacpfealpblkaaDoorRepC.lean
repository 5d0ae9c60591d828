/-
  report.line and report.Steps: texts written into a strings.Builder.
-/
import Derived.Test.YtbacpfealpblkaaDoorRepB
import Derived.Test.YtbacpfealpblkaaDoorRepW
namespace Go.Stx
open Go Go.Proofs
attribute [local irreducible] AWP LWalk ACall ARounds lops nops
open Go.RowKit
set_option linter.unusedVariables false
set_option linter.unusedSimpArgs false
set_option linter.unusedSectionVars false
set_option maxRecDepth 20000

variable [Gl]

/-- A region that draws its order: an invariant over the set of operations that are done, in the model's own world. -/
theorem wp_anyW {P : Program} {Q : Exit → Act → World → Prop} {a : Act} {w : World} {id : Nat} {ops : Array Oper} (hm : P.follows .mixedOrders = true) (hah : aheadOk ops = true)
    (J : (Nat → Bool) → Act → World → Prop) (h0 : J (fun _ => false) a { w with drawn := w.drawn + 1 })
    (hstep : ∀ S a w i o, J S a w → ops[i]? = some o → S i = false → (∀ e ∈ o.after, Region.binds .any e = true → S e.on = true) →
      Region.wanted o (yielded ops a.tmps) = true ∧ o.wp P a w (J fun j => if j = i then true else S j) Q)
    (hend : ∀ S a w, J S a w → (∀ i, i < ops.size → S i = true) → Q .normal a w) : (Code.region id ops true).wp P Q a w := by
  refine wp_region_any hm ?_
  have key : ∀ (fuel : Nat) (listed : Array Bool) (S : Nat → Bool) (a : Act) (w : World), listed.size = ops.size → (∀ i, i < ops.size → listed.getD i false = S i) →
      (List.range ops.size).countP (fun i => !S i) ≤ fuel → J S a w → wpAny P .any ops Q fuel listed a w := by
    intro fuel
    induction fuel with
    | zero =>
      intro listed S a w hsz hS hcnt hJ
      have hall : ∀ i, i < ops.size → S i = true := by
        intro i hi
        have := List.countP_eq_zero.1 (Nat.le_zero.1 hcnt) i (List.mem_range.2 hi)
        simpa using this
      refine ⟨?_, hend S a w hJ hall⟩
      rw [List.eq_nil_iff_forall_not_mem]
      intro i hi
      obtain ⟨o, ho, hl, _⟩ := ready_iff hi
      have hi' := (Array.getElem?_eq_some_iff.1 ho).1
      have := hS i hi'
      rw [hall i hi'] at this
      rw [Array.getD_eq_getD_getElem?, Array.getElem?_eq_getElem (by omega)] at this hl
      simp only [Option.getD_some] at this hl
      rw [this] at hl
      cases hl
    | succ fuel ih =>
      intro listed S a w hsz hS hcnt hJ
      refine ⟨fun hr => hend S a w hJ fun i hi => ?_, fun i hi => ?_⟩
      · rw [← hS i hi]
        exact all_listed hah hsz hr (i + 1) i (by omega) hi
      · obtain ⟨o, ho, hl, hdep⟩ := ready_iff hi
        have hi' := (Array.getElem?_eq_some_iff.1 ho).1
        have hSi : S i = false := by
          rw [← hS i hi']
          rw [Array.getD_eq_getD_getElem?, Array.getElem?_eq_getElem (by omega)] at hl ⊢
          simpa using hl
        have hdep' : ∀ e ∈ o.after, Region.binds .any e = true → S e.on = true := by
          intro e he hb
          have h1 := hdep e he hb
          have hlt := aheadOk_lt hah ho he hb
          rw [← hS e.on (by omega)]
          exact h1
        obtain ⟨hwn, hst⟩ := hstep S a w i o hJ ho hSi hdep'
        have hcnt' : (List.range ops.size).countP (fun j => !(if j = i then true else S j)) ≤ fuel := by
          have e1 : (List.range ops.size).countP (fun j => !(if j = i then true else S j)) + 1 ≤ (List.range ops.size).countP (fun j => !S j) := by
            have hmem : i ∈ List.range ops.size := List.mem_range.2 hi'
            have key2 : ∀ l : List Nat, i ∈ l → l.countP (fun j => !(if j = i then true else S j)) + 1 ≤ l.countP (fun j => !S j) := by
              intro l
              have mono : ∀ l : List Nat, l.countP (fun j => !(if j = i then true else S j)) ≤ l.countP (fun j => !S j) := fun l => by
                refine List.countP_mono_left fun x _ hx => ?_
                by_cases e : x = i
                · simp [e] at hx
                · simpa [e] using hx
              induction l with
              | nil => intro h; cases h
              | cons x l ihl =>
                intro hx
                rw [List.countP_cons, List.countP_cons]
                by_cases e : x = i
                · subst e
                  have := mono l
                  simp [hSi]
                  simpa using this
                · have hx' : i ∈ l := by
                    rcases List.mem_cons.1 hx with h | h
                    · exact absurd h.symm e
                    · exact h
                  have := ihl hx'
                  simp only [e, if_false]
                  omega
            exact key2 _ hmem
          omega
        have hS' : ∀ j, j < ops.size → (listed.setIfInBounds i true).getD j false = if j = i then true else S j := by
          intro j hj
          by_cases e : j = i
          · subst e
            rw [if_pos rfl, Array.getD_eq_getD_getElem?, Array.getElem?_setIfInBounds_self_of_lt (by omega)]
            rfl
          · rw [if_neg e, ← hS j hj, Array.getD_eq_getD_getElem?, Array.getD_eq_getD_getElem?, Array.getElem?_setIfInBounds_ne (by omega)]
        unfold wpOp
        rw [ho]
        simp only
        rw [if_pos hwn]
        refine .inl ?_
        exact Oper.wp_mono (fun a' w' hk => ih _ _ a' w' (by simpa using hsz) hS' hcnt' hk) hst
  refine key ops.size _ (fun _ => false) a _ (by simp) (fun i hi => by simp [Array.getD_eq_getD_getElem?, hi]) ?_ h0
  exact Nat.le_trans (List.countP_le_length) (by simp)

theorem nilAhead_builder (w : World) (p : Addr) : (nilAhead (Tryd.prog.types.size + Made.depth) 41 (.pointer (some p)) "WriteString").run Tryd.prog w = .ok (some false) w := by
  kernel_rfl
theorem method_builder (w : World) (p : Addr) : (method (Tryd.prog.types.size + Made.depth) 41 (.pointer (some p)) "WriteString").run Tryd.prog w = .ok (34, .pointer (some p)) w := by
  kernel_rfl

theorem IsB.keep {T e : TypeId} {B b : Nat} {l : List Value} {w w' : World} (h : Lib.IsBuilder T e B b l w) (k : Kept w w') : Lib.IsBuilder T e B b l w' := by
  have at1 : ∀ p, Lib.BuilderAt T e B b p l w → Lib.BuilderAt T e B b p l w' := by
    rintro p ⟨hB, v, h1, ⟨h2, h3⟩, h4⟩
    have hb : ∀ {i : Nat} {o : Obj}, w.heap[i]? = some o → w'.heap[i]? = some o := fun {i o} hi => by
      rw [k.ext i (Array.getElem?_eq_some_iff.1 hi).1]; exact hi
    refine ⟨hB, v, hb h1, ⟨h2, ?_⟩, h4⟩
    rcases h3 with h3 | ⟨g, cap, cur, e1, e2, e3, e4⟩
    · exact .inl h3
    · exact .inr ⟨g, cap, cur, e1, e2, hb e3, e4⟩
  exact h.imp (at1 _) (at1 _)

theorem put_get {a : Act} {d : Nat} {v : Value} {n : Nat} (hn : a.tmps.size = n) (hd : d < n) (j : Nat) : (a.put (some d) v).tmps.getD j undef = if j = d then v else a.tmps.getD j undef := by
  simp only [Act.put, Array.getD_eq_getD_getElem?]
  by_cases e : j = d
  · subst e
    rw [if_pos rfl, Array.getElem?_setIfInBounds_self_of_lt (by omega)]
    rfl
  · rw [if_neg e, Array.getElem?_setIfInBounds_ne (by omega)]
theorem put_size {a : Act} {d : Option Tmp} {v : Value} : (a.put d v).tmps.size = a.tmps.size := by cases d <;> simp [Act.put]
theorem put_defers {a : Act} {d : Option Tmp} {v : Value} : (a.put d v).defers = a.defers := by cases d <;> rfl

def ClS (S : Nat → Bool) : Prop := (S 2 = true → S 1 = true) ∧ (S 3 = true → S 2 = true) ∧ (S 4 = true → S 0 = true) ∧ (S 5 = true → S 4 = true) ∧ (S 6 = true → S 5 = true) ∧ (S 7 = true → S 6 = true ∧ S 3 = true)
theorem ClS.seven {S : Nat → Bool} (h : ClS S) {i : Nat} (hi : i < 7) (hSi : S i = false) : S 7 = false := by
  obtain ⟨h1, h2, h3, h4, h5, h6⟩ := h
  cases h7 : S 7 with
  | false => rfl
  | true =>
    have a6 := (h6 h7).1
    have a3 := (h6 h7).2
    have a5 := h5 a6
    have a4 := h4 a5
    have a0 := h3 a4
    have a2 := h2 a3
    have a1 := h1 a2
    have : i = 0 ∨ i = 1 ∨ i = 2 ∨ i = 3 ∨ i = 4 ∨ i = 5 ∨ i = 6 := by omega
    rcases this with rfl | rfl | rfl | rfl | rfl | rfl | rfl <;> simp_all

def LineJ (w : World) (vI v' : Value) (s1 s2 : BS) (fin : World → Prop) (S : Nat → Bool) (f : Nat → Value) (w' : World) : Prop :=
  (S 7 = false → Kept w w') ∧ f 0 = vI ∧ f 1 = v' ∧ (S 0 = true → f 4 = vI) ∧ (S 1 = true → f 5 = v') ∧ (S 2 = true → f 6 = .string (bs s1)) ∧ (S 3 = true → f 7 = .string (bs s2)) ∧
  (S 4 = true → f 8 = .func (.method "WriteString") #[vI] #[]) ∧ (S 6 = true → f 10 = vI) ∧ (S 7 = true → fin w') ∧ ClS S

theorem byteCells_app (x y : BS) : Lib.byteCells (x ++ y) = Lib.byteCells x ++ Lib.byteCells y := by simp [Lib.byteCells]
theorem strCells_bs (x : BS) : Lib.strCells (bs x) = Lib.byteCells x := rfl

set_option maxHeartbeats 2000000 in
/-- A line is written. -/
theorem line_world {m : Mp} {A : AW} {w : World} {B b : Nat} {done : List UInt8} {v v' : Value} {xs : List BS} (hs : Sim m A w) (hB : Lib.IsBuilder 43 5 B b (Lib.byteCells done) w) (hBw : B ≤ w.heap.size)
    (hv : VRel m v v') (h : IsSl A 1 v xs.length (xs.map fun x => Value.string (bs x))) (hn : xs.length ≤ 140737488355328) (hlen : (Lib.join xs [32]).length + 1 + done.length ≤ 140737488355328) :
    Calls Tryd.prog 15 #[.iface 41 (.pointer (some ⟨b, 0, none⟩)), v'] w fun e w' => e = .returned (.tuple #[]) ∧
      Lib.IsBuilder 43 5 B b (Lib.byteCells (done ++ (Lib.join xs [32] ++ [10]))) w' ∧ Below B w w' := by
  generalize hI : Value.iface 41 (.pointer (some ⟨b, 0, none⟩)) = vI
  generalize hJn : Lib.join xs [32] = s1 at hlen ⊢
  refine calls_of_wp (fn := Tryd.f15) rfl rfl ?_
  refine wp_anyW Tryd.mx (by decide +kernel) (fun S a w' => a.tmps.size = 12 ∧ a.defers = [] ∧ LineJ w vI v' s1 (s1 ++ [10]) (fun w' => Lib.IsBuilder 43 5 B b (Lib.byteCells (done ++ (s1 ++ [10]))) w' ∧ Below B w w') S (fun j => a.tmps.getD j undef) w') ?_ ?_ ?_
  · refine ⟨by simp, rfl, fun _ => Kept.drew w, rfl, rfl, ?_⟩
    simp [ClS]
  · rintro S a w' i o ⟨hsz, hdf, hk, h0, h1, h4, h5, h6, h7, h8, h10, hfin, hcl⟩ ho hSi hdep
    dsimp only at h0 h1 h4 h5 h6 h7 h8 h10
    have hi8 : i < 8 := (Array.getElem?_eq_some_iff.1 ho).1
    have ev : ∀ t, a.eval (.tmp t) = a.tmps.getD t undef := fun _ => rfl
    have evc : ∀ x, a.eval (.const x) = x := fun _ => rfl
    have evf : ∀ x, a.eval (.func x) = .func (.func x) #[] #[] := fun _ => rfl
    have h7f : i < 7 → S 7 = false := fun hi => hcl.seven hi hSi
    have fin : ∀ (d : Nat) (u : Value) (w'' : World), d < 12 → LineJ w vI v' s1 (s1 ++ [10]) (fun w' => Lib.IsBuilder 43 5 B b (Lib.byteCells (done ++ (s1 ++ [10]))) w' ∧ Below B w w') (fun j => if j = i then true else S j) (fun j => if j = d then u else a.tmps.getD j undef) w'' →
        (a.put (some d) u).tmps.size = 12 ∧ (a.put (some d) u).defers = [] ∧ LineJ w vI v' s1 (s1 ++ [10]) (fun w' => Lib.IsBuilder 43 5 B b (Lib.byteCells (done ++ (s1 ++ [10]))) w' ∧ Below B w w') (fun j => if j = i then true else S j) (fun j => (a.put (some d) u).tmps.getD j undef) w'' := fun d u w'' hd hJ => by
      refine ⟨by rw [put_size]; exact hsz, by rw [put_defers]; exact hdf, ?_⟩
      rw [show (fun j => (a.put (some d) u).tmps.getD j undef) = fun j => if j = d then u else a.tmps.getD j undef from funext fun j => put_get hsz hd j]
      exact hJ
    obtain ⟨c1, c2, c3, c4, c5, c6⟩ := hcl
    match i, hi8 with
    | 0, _ =>
      simp at ho
      subst ho
      refine ⟨rfl, ?_⟩
      unfold Oper.wp
      simp only [execOp, ev, h0, Sem.run_pure, Oper.upon_value]
      refine fin 4 _ _ (by omega) ?_
      refine ⟨?_, ?_, ?_, ?_, ?_, ?_, ?_, ?_, ?_, ?_, ?_⟩ <;> first | assumption | (simp; done) | (simp; assumption) | (refine ⟨?_, ?_, ?_, ?_, ?_, ?_⟩ <;> first | assumption | (simp; done) | (simp; assumption))
    | 1, _ =>
      simp at ho
      subst ho
      refine ⟨rfl, ?_⟩
      unfold Oper.wp
      simp only [execOp, ev, h1, Sem.run_pure, Oper.upon_value]
      refine fin 5 _ _ (by omega) ?_
      refine ⟨?_, ?_, ?_, ?_, ?_, ?_, ?_, ?_, ?_, ?_, ?_⟩ <;> first | assumption | (simp; done) | (simp; assumption) | (refine ⟨?_, ?_, ?_, ?_, ?_, ?_⟩ <;> first | assumption | (simp; done) | (simp; assumption))
    | 2, _ =>
      simp at ho
      subst ho
      refine ⟨rfl, ?_⟩
      have hS1 : S 1 = true := hdep ⟨1, .data⟩ (by simp) rfl
      have hkk := hk (h7f (by omega))
      unfold Oper.wp
      simp only [execOp, resolve, evf, Deferred.ofValue, invoke, Sem.run_bind, Sem.run_pure, Result.andThen_ok]
      rw [run_callFunc (by kernel_rfl), Oper.upon_enter]
      simp only [List.map_toArray, List.map_cons, List.map_nil, ev, evc, h5 hS1, Array.append_empty, Array.empty_append]
      refine ((join_pure v xs [32] A h hn (by rw [hJn]; omega)).2.2 m w' _ (hkk.ext.sim hs) (.cons hv (.cons (.string _) .nil))).mono ?_
      rintro e w'' ⟨rfl, hk2⟩
      rw [hJn]
      refine fin 6 _ _ (by omega) ?_
      refine ⟨fun _ => hkk.trans hk2, ?_, ?_, ?_, ?_, ?_, ?_, ?_, ?_, ?_, ?_⟩ <;> first | assumption | (simp; done) | (simp; assumption) | (simp [h7f]; done) | (refine ⟨?_, ?_, ?_, ?_, ?_, ?_⟩ <;> first | assumption | (simp; done) | (simp; assumption))
    | 3, _ =>
      simp at ho
      subst ho
      refine ⟨rfl, ?_⟩
      have hS2 : S 2 = true := hdep ⟨2, .data⟩ (by simp) rfl
      unfold Oper.wp
      have hb := (abin2_sound (P := Tryd.prog) (op := .add) (t := 9) (x := .string (bs s1)) (y := .string (bs [10])) (v := .string (bs (s1 ++ [10]))) (by simp [abin2, abin, isShift, bs_size, bs_app]; omega) (m := m) (.string _) (.string _) (.tmp 6) (.const (.string (bs [10]))) w').1
      simp only [execOp, ev, evc, h6 hS2, show ByteArray.mk #[10] = bs [10] from rfl]
      rw [Sem.run_bind, hb]
      simp only [Result.andThen_ok, Sem.run_pure, Oper.upon_value]
      refine fin 7 _ _ (by omega) ?_
      refine ⟨?_, ?_, ?_, ?_, ?_, ?_, ?_, ?_, ?_, ?_, ?_⟩ <;> first | assumption | (simp; done) | (simp; assumption) | (refine ⟨?_, ?_, ?_, ?_, ?_, ?_⟩ <;> first | assumption | (simp; done) | (simp; assumption) | (simp; exact fun h => (c6 h).1))
    | 4, _ =>
      simp at ho
      subst ho
      refine ⟨rfl, ?_⟩
      have hS0 : S 0 = true := hdep ⟨0, .data⟩ (by simp) rfl
      unfold Oper.wp
      simp only [execOp, Instr.makeFunc, List.map_toArray, List.map_cons, List.map_nil, ev, h4 hS0, Sem.run_bind, Sem.run_pure, Result.andThen_ok, Oper.upon_value]
      refine fin 8 _ _ (by omega) ?_
      refine ⟨?_, ?_, ?_, ?_, ?_, ?_, ?_, ?_, ?_, ?_, ?_⟩ <;> first | assumption | (simp; done) | (simp; assumption) | (refine ⟨?_, ?_, ?_, ?_, ?_, ?_⟩ <;> first | assumption | (simp; done) | (simp; assumption))
    | 5, _ =>
      simp at ho
      subst ho
      refine ⟨rfl, ?_⟩
      have hS4 : S 4 = true := hdep ⟨4, .data⟩ (by simp) rfl
      unfold Oper.wp
      simp only [execOp, ev, h8 hS4, ← hI, List.getElem?_toArray, List.getElem?_cons_zero]
      simp only [Sem.run_bind, run_program, Result.andThen_ok, nilAhead_builder, bne_self_eq_false, Bool.false_eq_true, if_false, Sem.run_pure, Oper.upon_value]
      rw [hI]
      refine fin 9 _ _ (by omega) ?_
      refine ⟨?_, ?_, ?_, ?_, ?_, ?_, ?_, ?_, ?_, ?_, ?_⟩ <;> first | assumption | (simp; done) | (simp; assumption) | (refine ⟨?_, ?_, ?_, ?_, ?_, ?_⟩ <;> first | assumption | (simp; done) | (simp; assumption))
    | 6, _ =>
      simp at ho
      subst ho
      refine ⟨rfl, ?_⟩
      have hS0 : S 0 = true := hdep ⟨0, .data⟩ (by simp) rfl
      have hS5 : S 5 = true := hdep ⟨5, .data⟩ (by simp) rfl
      unfold Oper.wp
      simp only [execOp, ev, h4 hS0, Sem.run_pure, Oper.upon_value]
      refine fin 10 _ _ (by omega) ?_
      refine ⟨?_, ?_, ?_, ?_, ?_, ?_, ?_, ?_, ?_, ?_, ?_⟩ <;> first | assumption | (simp; done) | (simp; assumption) | (refine ⟨?_, ?_, ?_, ?_, ?_, ?_⟩ <;> first | assumption | (simp; done) | (simp; assumption) | (simp; exact fun h => (c6 h).2))
    | 7, _ =>
      simp at ho
      subst ho
      refine ⟨rfl, ?_⟩
      have hS6 : S 6 = true := hdep ⟨6, .data⟩ (by simp) rfl
      have hS3 : S 3 = true := hdep ⟨3, .data⟩ (by simp) rfl
      have hkk := hk hSi
      unfold Oper.wp
      simp only [execOp, resolve, invoke, List.map_toArray, List.map_cons, List.map_nil, ev, h10 hS6, h7 hS3, Sem.run_bind, Sem.run_pure, Result.andThen_ok]
      have hr : (callMethod vI "WriteString" #[.string (bs (s1 ++ [10]))]).run Tryd.prog w' = .ok (.enter 34 #[.pointer (some ⟨b, 0, none⟩), .string (bs (s1 ++ [10]))]) w' := by
        rw [← hI]
        simp only [callMethod, Sem.run_bind, run_program, Result.andThen_ok, method_builder]
        exact run_callFunc (by kernel_rfl) w'
      change Oper.upon _ _ _ _ _ (Sem.run Tryd.prog (callMethod vI "WriteString" #[.string (bs (s1 ++ [10]))]) w')
      rw [hr, Oper.upon_enter]
      refine (Go.Proofs.YtbacpfealpblkaaDoor.writeString B b _ (bs (s1 ++ [10])) w' (IsB.keep hB hkk) (by rw [Lib.byteCells_length, bs_size]; simp; omega) (Nat.le_trans hBw hkk.size)).mono ?_
      rintro e w'' ⟨rfl, hb1, hb2⟩
      refine fin 11 _ _ (by omega) ?_
      have hfin' : Lib.IsBuilder 43 5 B b (Lib.byteCells (done ++ (s1 ++ [10]))) w'' ∧ Below B w w'' := by
        rw [byteCells_app, ← strCells_bs (s1 ++ [10])]
        exact ⟨.inr hb1, Below.trans ⟨hkk.os, hkk.tape, hkk.output, hkk.size, fun k hk' => hkk.ext k (by omega)⟩ hb2⟩
      refine ⟨?_, ?_, ?_, ?_, ?_, ?_, ?_, ?_, ?_, ?_, ?_⟩ <;> first | assumption | (simp; done) | (simp; assumption) | (refine ⟨?_, ?_, ?_, ?_, ?_, ?_⟩ <;> first | assumption | (simp; done) | (simp; assumption) | (simp; exact ⟨hS6, hS3⟩))
    | i + 8, h => omega
  · rintro S a w' ⟨hsz, hdf, hJ⟩ hall
    obtain ⟨h1, h2⟩ := hJ.2.2.2.2.2.2.2.2.2.1 (hall 7 (by decide))
    refine ⟨hdf, ?_⟩
    exact ⟨_, by rw [results_eq]; simp, rfl, h1, h2⟩

end Go.Stx
