/-
  Programs and scripts that came in: from the model's world to the abstract memory.
-/
import Derived.Test.YtcffnkgjmneaeaaGreatDoorFbR
import Derived.Test.YtcffnkgjmneaeaaGreatDoorFbX
import Derived.Deep.Slices
import Derived.Lib.SmallJoins
namespace Go.Stx
open Go Go.Proofs
attribute [local irreducible] AWP LWalk ACall ARounds lops nops

open Go.RowKit
set_option linter.unusedVariables false
set_option linter.unusedSimpArgs false
set_option linter.unusedSectionVars false

theorem mapM_mem {α β : Type} {f : α → Option β} : ∀ (L : List α) (ys : List β), L.mapM f = some ys → ∀ x ∈ L, ∃ y, f x = some y
  | [], _, _, x, hx => by simp at hx
  | a :: L, ys, h, x, hx => by
    rw [List.mapM_cons] at h
    simp only [bind, Option.bind_eq_some_iff, pure, Option.some.injEq] at h
    obtain ⟨y, hy, zs, hz, _⟩ := h
    rcases List.mem_cons.1 hx with rfl | hx
    · exact ⟨y, hy⟩
    · exact mapM_mem L zs hz x hx
theorem array5 {α : Type} {cs : Array α} (h : cs.size = 5) : ∃ c0 c1 c2 c3 c4, cs = #[c0, c1, c2, c3, c4] := by
  obtain ⟨l⟩ := cs
  match l, h with
  | [c0, c1, c2, c3, c4], _ => exact ⟨c0, c1, c2, c3, c4, rfl⟩
theorem okWide_arr5 {P : Program} {W : World} {k e : TypeId} (hu : P.underlying k = some (.array 5 e)) (size : P.cellsOf k = 5) {r : Reach} {b0 : Nat} {v : Value} (h : Value.okWide P W r b0 k v) : ∃ xs : Array Value, v = .agg xs ∧ xs.size = 5 := by
  simp only [Value.okWide, hu] at h
  obtain ⟨cs, h1, h2, _⟩ := h
  exact ⟨cs, h1, by rw [h2, size]⟩
theorem open_arr5 {H : Type} {enc : TypeId × Value → H} {P : Program} {W : World} {base : Nat} {sp : Nat → Bool} {held : Bool} {k e : TypeId} {q : IntKind} (hu : P.underlying k = some (.array 5 e)) (he : P.underlying e = some (.int q)) (one : P.cellsOf e = 1) (size : P.cellsOf k = 5)
    {xs : Array Value} (hn : xs.size = 5) {d : DataW H} {ps : List MemPlace} (hd : DataW.Trod enc P W base sp held k (.agg xs) d ps) : ∃ a0 a1 a2 a3 a4, xs = #[.int q a0, .int q a1, .int q a2, .int q a3, .int q a4] := by
  obtain ⟨c0, c1, c2, c3, c4, rfl⟩ := array5 hn
  obtain ⟨fuel, hf⟩ := hd
  cases fuel with
  | zero => simp [DataW.trod] at hf
  | succ m =>
    rw [DataW.trod_step] at hf
    unfold DataW.trodStep at hf
    simp only [hu, Value.cells] at hf
    rw [if_pos (by rw [size]; rfl)] at hf
    simp only [Option.map_eq_some_iff] at hf
    obtain ⟨ys, hy, _⟩ := hf
    have hm := mapM_mem _ ys hy
    rw [one] at hm
    have g : ∀ i, i < 5 → ∃ a, ([c0, c1, c2, c3, c4].drop (i * 1)).take 1 = [Value.int q a] := fun i hi => by
      obtain ⟨y, h1⟩ := hm i (List.mem_range.2 hi)
      obtain ⟨a, h2, _⟩ := DataW.trod_int he h1
      exact ⟨a, h2⟩
    obtain ⟨a0, e0⟩ := g 0 (by omega)
    obtain ⟨a1, e1⟩ := g 1 (by omega)
    obtain ⟨a2, e2⟩ := g 2 (by omega)
    obtain ⟨a3, e3⟩ := g 3 (by omega)
    obtain ⟨a4, e4⟩ := g 4 (by omega)
    simp at e0 e1 e2 e3 e4
    subst e0 e1 e2 e3 e4
    exact ⟨a0, a1, a2, a3, a4, rfl⟩

def InsIn (w : World) (a : Option Addr) (len cap : Nat) : Prop :=
  (a = none ∧ len = 0 ∧ cap = 0) ∨ ∃ x, a = some x ∧ len ≤ cap ∧ cap ≤ maxLen ∧ ∃ Q : Nat → InsV, ∀ i, i < cap → ∀ j, j < 5 → w.cell? (x.add (i * 5 + j)) = (insCells (Q i))[j]?
def ProgsIn (w : World) (a : Option Addr) (len cap : Nat) : Prop :=
  (a = none ∧ len = 0 ∧ cap = 0) ∨ ∃ x, a = some x ∧ len ≤ cap ∧ cap ≤ maxLen ∧ ∃ (R : Nat → Option Addr) (L C : Nat → Nat), ∀ r, r < cap → w.cell? (x.add r) = some (.slice (R r) (L r) (C r)) ∧ InsIn w (R r) (L r) (C r)
variable [Gl]
theorem intro_arr5 {m : Mp} (a0 a1 a2 a3 a4 : Int) : VRel m (.agg #[.int .i64 a0, .int .i64 a1, .int .i64 a2, .int .i64 a3, .int .i64 a4]) (.agg #[.int .i64 a0, .int .i64 a1, .int .i64 a2, .int .i64 a3, .int .i64 a4]) := by
  refine .agg rfl fun i v v' h1 h2 => ?_
  rw [h1] at h2
  injection h2 with h2
  subst h2
  have hi := (Array.getElem?_eq_some_iff.1 h1).1
  have : i = 0 ∨ i = 1 ∨ i = 2 ∨ i = 3 ∨ i = 4 := by simp at hi; omega
  rcases this with rfl | rfl | rfl | rfl | rfl <;> simp at h1 <;> subst h1 <;> exact .int _ _

theorem flat_ati (l : List InsV) (i : Nat) (hi : i < l.length) (j : Nat) (hj : j < 5) : (l.flatMap insCells)[i * 5 + j]? = (insCells l[i])[j]? := by
  have h := congrArg (·[j]?) (ins_flat l i hi)
  simpa [List.getElem?_take, List.getElem?_drop, hj] using h
theorem flat_takei (l : List InsV) (n : Nat) (h : n ≤ l.length) : (l.flatMap insCells).take (n * 5) = (l.take n).flatMap insCells := by
  have e : l = l.take n ++ l.drop n := (List.take_append_drop n l).symm
  have hl : ((l.take n).flatMap insCells).length = n * 5 := by rw [flat_length, List.length_take, Nat.min_eq_left h]
  calc (l.flatMap insCells).take (n * 5) = ((l.take n ++ l.drop n).flatMap insCells).take (n * 5) := by rw [← e]
    _ = ((l.take n).flatMap insCells ++ (l.drop n).flatMap insCells).take (n * 5) := by rw [List.flatMap_append]
    _ = (l.take n).flatMap insCells := by rw [← hl, List.take_left']; rfl
theorem insCells_scalar {s : InsV} {j : Nat} {v : Value} (h : (insCells s)[j]? = some v) : scalarV v = true := by
  have hj := (List.getElem?_eq_some_iff.1 h).1
  have hj' : j = 0 ∨ j = 1 ∨ j = 2 ∨ j = 3 ∨ j = 4 := by simp [insCells] at hj; omega
  rcases hj' with rfl | rfl | rfl | rfl | rfl <;> (simp [insCells] at h; subst h; rfl)

theorem intro_ins {m : Mp} {A : AW} {w : World} (hs : Sim m A w) (hno : A.NoOwn) {a : Option Addr} {len cap : Nat} (h : InsIn w a len cap) :
    ∃ m' A' v l, Mp.le m m' ∧ A.le A' ∧ Sim m' A' w ∧ A'.NoOwn ∧ VRel m' v (.slice a len cap) ∧ IsIns A' v l := by
  rcases h with ⟨rfl, rfl, rfl⟩ | ⟨x, rfl, hlc, hcm, Q, hcell⟩
  · exact ⟨m, A, .slice none 0 0, [], Mp.le_refl m, AW.le.refl A, hs, hno, .sliceNone, .inl ⟨⟨none, rfl⟩, rfl, rfl⟩⟩
  · by_cases hc0 : cap = 0
    · subst hc0
      have : len = 0 := by omega
      subst this
      exact ⟨m, A, .slice (some ⟨0, 0, some 0⟩) 0 0, [], Mp.le_refl m, AW.le.refl A, hs, hno, .slice (.inr ⟨rfl, rfl, .inl rfl⟩) (Nat.le_refl _) (Nat.le_refl _), .inl ⟨⟨_, rfl⟩, rfl, rfl⟩⟩
    · have h0 : w.cell? (x.add (0 * 5 + 0)) = some (.int .i64 (Q 0).op) := hcell 0 (by omega) 0 (by omega)
      rw [show x.add (0 * 5 + 0) = x by unfold Addr.add; simp] at h0
      have hsp : x.spot = none := by
        unfold World.cell? at h0
        split at h0
        · split at h0
          · cases h0
          · rename_i hsp; simpa using hsp
        · cases h0
      have hblk : ∃ cur e fr, w.heap[x.block]? = some (.cells cur e fr) := by
        unfold World.cell? at h0
        split at h0
        · rename_i c e fr hh; exact ⟨c, e, fr, hh⟩
        · cases h0
      obtain ⟨cur, e, fr, hblk⟩ := hblk
      have hcur : ∀ i, i < cap → ∀ j, j < 5 → cur[x.off + (i * 5 + j)]? = (insCells (Q i))[j]? := fun i hi j hj => by
        have h1 := hcell i hi j hj
        rw [addr_add _ _ hsp] at h1
        simpa [World.cell?, hblk] using h1
      obtain ⟨qs, hqs⟩ : ∃ qs, qs = (List.range cap).map Q := ⟨_, rfl⟩
      have hql : qs.length = cap := by rw [hqs]; simp
      obtain ⟨hs', hno'⟩ := Sim.foreign hs hno (qs.flatMap insCells) ⟨x.block, x.off, 5, cur.size⟩ hblk rfl (fun j v hv => by
        have hj := (List.getElem?_eq_some_iff.1 hv).1
        rw [flat_length, hql] at hj
        have hi : j / 5 < qs.length := by omega
        have h1 := flat_ati qs (j / 5) hi (j % 5) (by omega)
        rw [show j / 5 * 5 + j % 5 = j by omega, hv] at h1
        have h2 := hcur (j / 5) (by omega) (j % 5) (by omega)
        rw [show x.off + (j / 5 * 5 + j % 5) = x.off + j by omega] at h2
        have h3 : qs[j / 5] = Q (j / 5) := by simp [hqs]
        rw [h3] at h1
        exact ⟨v, h2.trans h1.symm, .of_scalar (insCells_scalar h1.symm) _⟩)
      have hlast : x.off + cap * 5 ≤ cur.size := by
        have h1 : cur[x.off + ((cap - 1) * 5 + 4)]? = some (.int .i64 (Q (cap - 1)).imm) := hcur (cap - 1) (by omega) 4 (by omega)
        have := (Array.getElem?_eq_some_iff.1 h1).1
        omega
      refine ⟨_, _, .slice (some ⟨A.next, 0, none⟩) len len, qs.take len, hs.le_ext _, AW.le.alloc A _, hs', hno', ?_, ?_⟩
      · refine .slice (.inl ⟨rfl, hsp, ⟨x.block, x.off, 5, cur.size⟩, by simp [Mp.ext], rfl, rfl, ?_⟩) (Nat.le_refl _) hlc
        exact hlast
      · have hl : (qs.take len).length = len := by rw [List.length_take, Nat.min_eq_left (by omega)]
        refine .inr ⟨⟨A.next, 0, none⟩, len, qs.flatMap insCells, false, 5, ?_, ?_, AW.alloc_get_new _ _, rfl, ?_, ?_⟩
        · rw [hl]
        · rw [hl]; exact Nat.le_refl _
        · rw [hl, flat_length, hql]; show 0 + len * 5 ≤ cap * 5; omega
        · rw [List.drop_zero, hl, flat_takei _ _ (by omega)]

theorem intro_progs {m : Mp} {A : AW} {w : World} (hs : Sim m A w) (hno : A.NoOwn) {a : Option Addr} {len cap : Nat} (h : ProgsIn w a len cap) :
    ∃ m' A' v ls, Mp.le m m' ∧ A.le A' ∧ Sim m' A' w ∧ A'.NoOwn ∧ VRel m' v (.slice a len cap) ∧ IsProgs A' v ls := by
  rcases h with ⟨rfl, rfl, rfl⟩ | ⟨x, rfl, hlc, hcm, R, L, C, hr⟩
  · exact ⟨m, A, .slice none 0 0, [], Mp.le_refl m, AW.le.refl A, hs, hno, .sliceNone, [], .inl ⟨⟨none, rfl⟩, rfl, rfl⟩, fun i hi => by simp at hi⟩
  · by_cases hc0 : cap = 0
    · subst hc0
      have : len = 0 := by omega
      subst this
      exact ⟨m, A, .slice (some ⟨0, 0, some 0⟩) 0 0, [], Mp.le_refl m, AW.le.refl A, hs, hno, .slice (.inr ⟨rfl, rfl, .inl rfl⟩) (Nat.le_refl _) (Nat.le_refl _), [], .inl ⟨⟨_, rfl⟩, rfl, rfl⟩, fun i hi => by simp at hi⟩
    · have rows : ∀ n, n ≤ cap → ∃ (m' : Mp) (A' : AW) (us : List Value) (ls : List (List InsV)), Mp.le m m' ∧ A.le A' ∧ Sim m' A' w ∧ A'.NoOwn ∧ us.length = n ∧ ls.length = n ∧ (∀ i v, us[i]? = some v → VRel m' v (.slice (R i) (L i) (C i))) ∧
          ∀ i (hi : i < ls.length), ∃ u, us[i]? = some u ∧ IsIns A' u ls[i] := by
        intro n
        induction n with
        | zero => intro _; exact ⟨m, A, [], [], Mp.le_refl m, AW.le.refl A, hs, hno, rfl, rfl, fun i v h => by simp at h, fun i hi => by simp at hi⟩
        | succ n ih =>
          intro hn
          obtain ⟨m1, A1, us, ls, h1, h2, h3, h4, h5, h6, h7, h8⟩ := ih (by omega)
          obtain ⟨_, hrow⟩ := hr n (by omega)
          obtain ⟨m2, A2, u, q, g1, g2, g3, g4, g5, g6⟩ := intro_ins h3 h4 hrow
          have hk := Keeps.of_le g2 h3.low
          refine ⟨m2, A2, us ++ [u], ls ++ [q], Mp.le_trans h1 g1, h2.trans g2, g3, g4, by simp [h5], by simp [h6], fun i v hv => ?_, fun i hi => ?_⟩
          · rw [List.getElem?_append] at hv
            split at hv
            · exact (h7 i v hv).mono g1
            · rename_i hi
              have : i = n := by
                have := (List.getElem?_eq_some_iff.1 hv).1
                simp at this
                omega
              subst this
              rw [h5] at hv
              simp at hv
              subst hv
              exact g5
          · by_cases e : i < ls.length
            · obtain ⟨v, q1, q2⟩ := h8 i e
              refine ⟨v, by rw [List.getElem?_append_left (by omega)]; exact q1, ?_⟩
              rw [List.getElem_append_left e]
              exact IsSl.keeps hk q2
            · have : i = n := by simp at hi; omega
              subst this
              refine ⟨u, by rw [List.getElem?_append_right (by omega), h5]; simp, ?_⟩
              rw [List.getElem_append_right (by omega)]
              simpa using g6
      obtain ⟨m1, A1, us, ls, h1, h2, h3, h4, h5, h6, h7, h8⟩ := rows cap (Nat.le_refl _)
      have h0 := (hr 0 (by omega)).1
      rw [show x.add 0 = x by unfold Addr.add; simp] at h0
      have hsp : x.spot = none := by
        unfold World.cell? at h0
        split at h0
        · split at h0
          · cases h0
          · rename_i hsp; simpa using hsp
        · cases h0
      have hblk : ∃ cur e fr, w.heap[x.block]? = some (.cells cur e fr) := by
        unfold World.cell? at h0
        split at h0
        · rename_i c e fr hh; exact ⟨c, e, fr, hh⟩
        · cases h0
      obtain ⟨cur, e, fr, hblk⟩ := hblk
      have hcur : ∀ i, i < cap → cur[x.off + i]? = some (.slice (R i) (L i) (C i)) := fun i hi => by
        have h1 := (hr i hi).1
        rw [addr_add _ _ hsp] at h1
        simpa [World.cell?, hblk] using h1
      obtain ⟨hs', hno'⟩ := Sim.foreign h3 h4 us ⟨x.block, x.off, 1, cur.size⟩ hblk rfl (fun j v hv => by
        have hj := (List.getElem?_eq_some_iff.1 hv).1
        exact ⟨_, hcur j (by omega), h7 j v hv⟩)
      have hlast := (Array.getElem?_eq_some_iff.1 (hcur (cap - 1) (by omega))).1
      have hk := Keeps.of_le (AW.le.alloc A1 (.cells us false 1)) h3.low
      refine ⟨_, _, .slice (some ⟨A1.next, 0, none⟩) len len, ls.take len, Mp.le_trans h1 (h3.le_ext _), h2.trans (AW.le.alloc A1 _), hs', hno', ?_, us.take len, ?_, fun i hi => ?_⟩
      · refine .slice (.inl ⟨rfl, hsp, ⟨x.block, x.off, 1, cur.size⟩, by simp [Mp.ext], rfl, rfl, ?_⟩) (Nat.le_refl _) hlc
        show x.off + cap * 1 ≤ cur.size
        omega
      · refine .inr ⟨⟨A1.next, 0, none⟩, len, us, false, 1, ?_, ?_, AW.alloc_get_new _ _, rfl, ?_, ?_⟩
        · rw [List.length_take, Nat.min_eq_left (by omega)]
        · simp; omega
        · simp; omega
        · rw [List.drop_zero, List.length_take, Nat.min_eq_left (by omega), Nat.mul_one]
      · rw [List.length_take] at hi
        obtain ⟨u, q1, q2⟩ := h8 i (by omega)
        refine ⟨u, by rw [List.getElem?_take_of_lt (by omega)]; exact q1, ?_⟩
        rw [List.getElem_take]
        exact IsSl.keeps hk q2

end Go.Stx
