/-
  From contracts that are stated over the model's worlds, of functions that turn a row of integers in place, to contracts over the abstract memory.
-/
import Derived.Test.YtajhaafmlnoioaaStxOwn
import Derived.Sort.Grow
namespace Go.Stx
open Go
set_option linter.unusedVariables false

theorem setCells_get : ∀ (l cs : List Value) (off j : Nat), off + l.length ≤ cs.length → (setCells cs off l)[j]? = if off ≤ j ∧ j < off + l.length then l[j - off]? else cs[j]?
  | [], cs, off, j, _ => by
    simp [setCells]
    omega
  | v :: l, cs, off, j, h => by
    simp only [List.length_cons] at h
    rw [setCells, setCells_get l _ (off + 1) j (by simp; omega)]
    by_cases h1 : off + 1 ≤ j ∧ j < off + 1 + l.length
    · rw [if_pos h1, if_pos (by simp; omega)]
      rw [show j - off = (j - (off + 1)) + 1 by omega, List.getElem?_cons_succ]
    · rw [if_neg h1]
      by_cases h2 : off = j
      · subst h2
        rw [if_pos (by simp), List.getElem?_set_self (by omega)]
        simp
      · rw [if_neg (by simp; omega), List.getElem?_set_ne h2]

theorem mapBlock_heap (w : World) (b : Nat) (f : Array Value → Array Value) {cur : Array Value} {e : TypeId} {fr : Nat × Nat} (h : w.heap[b]? = some (.cells cur e fr)) :
    (Go.Sort.mapBlock w b f).heap[b]? = some (.cells (f cur) e fr) := by
  simp [Go.Sort.mapBlock, Array.getElem?_modify, h, Go.Sort.onCells]
theorem mapBlock_other (w : World) (b j : Nat) (f : Array Value → Array Value) (h : j ≠ b) : (Go.Sort.mapBlock w b f).heap[j]? = w.heap[j]? := by
  simp [Go.Sort.mapBlock, Array.getElem?_modify, Ne.symm h]

theorem putRow_evo {m : Mp} {A : AW} {w : World} (hs : Sim m A w) {i off : Nat} {q : Pl} {row : List Value} {k : IntKind} (d : List Int)
    (hg : A.get i = some (.cells row true 1)) (hm : m i = some q) (hfit : off + d.length ≤ row.length) :
    Evo m A w m (A.set i (some (.cells (setCells row off (d.map (Value.int k))) true 1))) (Go.Sort.putRow (Value.int k) w q.block (q.base + off) d.toArray) := by
  obtain ⟨p', hm', cur, e', fr, hw, hfr, hu, htot, hcells⟩ := hs.obj _ _ hg
  rw [hm] at hm'
  injection hm' with hm'
  subst hm'
  obtain rfl := hfr rfl
  refine Evo.set hs hg hm hu (by simp [Go.Sort.putRow, Go.Sort.mapBlock]) rfl rfl rfl (mapBlock_heap w q.block _ hw) (by simpa [Go.Sort.putCells] using htot) (fun j hj => mapBlock_other w _ _ _ hj) ?_
  intro j v hv
  rw [setCells_get _ _ _ _ (by simpa using hfit)] at hv
  simp only [List.length_map] at hv
  by_cases hj : off ≤ j ∧ j < off + d.length
  · rw [if_pos hj, List.getElem?_map, List.getElem?_eq_getElem (by omega)] at hv
    injection hv with hv
    subst hv
    obtain ⟨v0, h0, _⟩ := hcells j row[j] (List.getElem?_eq_getElem (by omega))
    refine ⟨.int k d[j - off], ?_, .int _ _⟩
    have hlt := (Array.getElem?_eq_some_iff.1 h0).1
    simp only [Go.Sort.putCells, Array.getElem?_mapIdx, h0, Option.map_some, List.size_toArray]
    rw [if_pos (by omega)]
    have e1 : q.base + j - (q.base + off) = j - off := by omega
    rw [e1, getElem!_pos d.toArray (j - off) (by simp; omega)]
    simp
  · rw [if_neg hj] at hv
    obtain ⟨v0, h0, h1⟩ := hcells j v hv
    refine ⟨v0, ?_, h1⟩
    simp only [Go.Sort.putCells, Array.getElem?_mapIdx, h0, Option.map_some, List.size_toArray]
    rw [if_neg (by omega)]

theorem Evo.ahead {m : Mp} {A : AW} {w : World} (h : Sim m A w) (n : Nat) : Evo m A w m A (Go.Sort.ahead w n) :=
  ⟨Mp.le_refl m, h.of_heap rfl, Nat.le_refl _, rfl, rfl, rfl, Nat.le_refl _, fun _ _ _ => rfl, fun _ h => .inl h⟩

theorem Evo.grown {m : Mp} {A : AW} {w : World} (h : Sim m A w) (os : Array Obj) : Evo m A w m A (Go.Sort.grow w os) := by
  have old : ∀ b, b < w.heap.size → (Go.Sort.grow w os).heap[b]? = w.heap[b]? := fun b hb => by
    show (w.heap ++ os)[b]? = _
    rw [Array.getElem?_append_left hb]
  exact ⟨Mp.le_refl m, Ext.sim old h, Nat.le_refl _, rfl, rfl, rfl, by simp [Go.Sort.grow], fun b hb _ => old b hb, fun _ h => .inl h⟩

/-- A call that turns the integers of a slice of our own in place. -/
theorem rowcall {P : Program} {f : FuncId} (hcall : callable P f = true) {n c : Nat} {A : AW} {p : Addr} {k : IntKind} {l d : List Int} {row : List Value} {rv : Value} {ret : Addr → Nat → Value}
    (hn : n = l.length) (h0 : 0 < l.length) (hc : n ≤ c) (hg : A.get p.block = some (.cells row true 1)) (hfit : p.off + n ≤ row.length) (hl : l.map (Value.int k) = (row.drop p.off).take n) (hd : d.length = l.length)
    (hret : ∀ m a' cap', SRel m p a' cap' → c ≤ cap' → VRel m rv (ret a' cap'))
    (hcon : ∀ blk off cap w, Go.Sort.Holds (Value.int k) w blk off l.toArray → blk < w.heap.size → l.length ≤ cap → Calls P f #[.slice (some ⟨blk, off, none⟩) l.length cap] w fun e w' =>
      e = .returned (ret ⟨blk, off, none⟩ cap) ∧ ∃ n os, w' = Go.Sort.grow (Go.Sort.putRow (Value.int k) (Go.Sort.ahead w n) blk off d.toArray) os) :
    ACall P f [.slice (some p) n c] A fun u A' => u = rv ∧ A' = A.set p.block (some (.cells (setCells row p.off (d.map (Value.int k))) true 1)) := by
  subst hn
  refine ⟨hcall, fun m w cargs hs hlr => ?_⟩
  obtain ⟨v', t', e1, hv, ht⟩ := hlr.inv_cons
  have e2 := ht.inv_nil
  subst e2
  have ec : cargs = #[v'] := by apply Array.ext'; exact e1
  subst ec
  cases hv with
  | slice hh h1 h2 =>
    rename_i a' cap'
    have hsr : SRel m p a' cap' := by
      rcases hh with hh | hh
      · exact hh
      · omega
    have hsr0 := hsr
    obtain ⟨g1, g2, q, g3, g4, g5, g6⟩ := hsr
    obtain ⟨p', hm', cur, e', fr, hw, hfr, hu, htot, hcells⟩ := hs.obj _ _ hg
    rw [g3] at hm'
    injection hm' with hm'
    subst hm'
    obtain rfl := hfr rfl
    have ea : a' = ⟨q.block, q.base + p.off, none⟩ := by rw [addr_eta a' g2, g4, g5]
    subst ea
    have hH : Go.Sort.Holds (Value.int k) w q.block (q.base + p.off) l.toArray := by
      intro j hj
      have hj' : j < l.length := by simpa using hj
      have hrow : row[p.off + j]? = some (.int k l[j]) := by
        have : (l.map (Value.int k))[j]? = some (.int k l[j]) := by rw [List.getElem?_map, List.getElem?_eq_getElem hj']; rfl
        rw [hl, List.getElem?_take_of_lt hj', List.getElem?_drop] at this
        exact this
      obtain ⟨v0, h3, h4⟩ := hcells _ _ hrow
      cases h4
      rw [getElem!_pos l.toArray j hj]
      simp only [World.cell?, World.frozen?, hw]
      rw [Nat.add_assoc]
      simp [h3]
    refine (hcon q.block (q.base + p.off) cap' w hH (Array.getElem?_eq_some_iff.1 hw).1 (by omega)).mono ?_
    rintro e w' ⟨rfl, n, os, rfl⟩
    refine ⟨rv, _, m, A.set p.block (some (.cells (setCells row p.off (d.map (Value.int k))) true 1)), rfl, ?_, hret m _ cap' hsr0 h2, rfl, rfl⟩
    have ev1 := Evo.ahead hs n
    have ev2 := putRow_evo (k := k) ev1.sim d hg g3 (off := p.off) (by omega)
    exact (ev1.trans ev2).trans (Evo.grown ev2.sim os)

theorem ACall.empty {P : Program} {f : FuncId} (hcall : callable P f = true) {o : Option Addr} {c : Nat} {A : AW} {rv : Value} {ret : Option Addr → Nat → Value}
    (hret : ∀ m o' c', VRel m (.slice o 0 c) (.slice o' 0 c') → VRel m rv (ret o' c'))
    (hcon : ∀ o' c' w, Calls P f #[.slice o' 0 c'] w fun e w' => e = .returned (ret o' c') ∧ w' = w) :
    ACall P f [.slice o 0 c] A fun u A' => u = rv ∧ A = A' := by
  refine ⟨hcall, fun m w cargs hs hlr => ?_⟩
  obtain ⟨v', t', e1, hv, ht⟩ := hlr.inv_cons
  have e2 := ht.inv_nil
  subst e2
  have ec : cargs = #[v'] := by apply Array.ext'; exact e1
  subst ec
  have hv' : ∃ o' c', v' = .slice o' 0 c' := by
    cases hv <;> exact ⟨_, _, rfl⟩
  obtain ⟨o', c', rfl⟩ := hv'
  refine (hcon o' c' w).mono ?_
  rintro e w' ⟨rfl, rfl⟩
  exact ⟨rv, _, m, A, rfl, Evo.refl hs, hret m _ _ hv, rfl, rfl⟩

theorem OwnInts.form {B : Nat} {A : AW} {k : IntKind} {v : Value} {l : List Int} (h : OwnInts B A k v l) :
    (∃ o c, v = .slice o 0 c ∧ l = [] ∧ 0 ≤ c) ∨ ∃ p c row, v = .slice (some p) l.length c ∧ 0 < l.length ∧ l.length ≤ c ∧ p.spot = none ∧ B ≤ p.block ∧ A.get p.block = some (.cells row true 1) ∧
      p.off + l.length ≤ row.length ∧ l.map (Value.int k) = (row.drop p.off).take l.length := by
  rcases h with ⟨h1, h2, h3⟩ | ⟨p, c, row, h1, h2, hs, hB, h3, h4, h5⟩
  · exact .inl ⟨none, 0, h1, List.eq_nil_of_length_eq_zero h2, Nat.le_refl _⟩
  · by_cases h0 : l.length = 0
    · rw [h0] at h1
      exact .inl ⟨some p, c, h1, List.eq_nil_of_length_eq_zero h0, Nat.zero_le _⟩
    · exact .inr ⟨p, c, row, h1, by omega, h2, hs, hB, h3, by simpa using h4, by simpa using h5⟩

/-- What an own row holds behind a turn of its cells. -/
theorem own_turned {B : Nat} {A : AW} {k : IntKind} {p : Addr} {c n : Nat} {row : List Value} (d z : List Int) (hw : A.Wf) (hB : B ≤ p.block) (hs : p.spot = none) (hg : A.get p.block = some (.cells row true 1))
    (hfit : p.off + (d ++ z).length ≤ row.length) (hc : d.length ≤ c) (hn : n = d.length) :
    OwnInts B (A.set p.block (some (.cells (setCells row p.off ((d ++ z).map (Value.int k))) true 1))) k (.slice (some p) n c) d := by
  subst hn
  refine .inr ⟨p, c, _, rfl, hc, hs, hB, AW.set_get_same, ?_, ?_⟩
  · rw [length_setCells]
    simp at hfit
    omega
  · apply List.ext_getElem?
    intro j
    by_cases hj : j < d.length
    · rw [List.getElem?_take_of_lt (by omega), List.getElem?_drop, setCells_get _ _ _ _ (by simpa using hfit), if_pos (by simp; omega)]
      rw [show p.off + j - p.off = j by omega, List.map_append, List.getElem?_append_left (by simpa using hj)]
    · rw [List.getElem?_eq_none (by simp; omega), List.getElem?_eq_none (by simp; omega)]

/-- A store of an integer into a slice of our own. -/
theorem OwnInts.store {P : Program} {B : Nat} {A : AW} {k : IntKind} {v : Value} {l : List Int} {t : TypeId} {i : TypeInfo} (h : OwnInts B A k v l) (hi : P.info? t = some i) (hs : i.size = 1)
    {j : Nat} (hj : j < l.length) : ∃ p c, v = .slice (some p) l.length c ∧ ∀ y, ∃ A', astore P A t ⟨p.block, p.off + j, none⟩ (.int k y) = some A' ∧ OwnInts B A' k v (l.set j y) ∧
      (∀ A0 : AW, A0.next ≤ B → A0.le A → A0.le A') ∧ (A.Wf → A'.Wf) ∧ A'.next = A.next := by
  rcases h.form with ⟨o, c, rfl, rfl, _⟩ | ⟨p, c, row, rfl, h0, hc, hsp, hB, hg, hfit, hcs⟩
  · simp at hj
  · refine ⟨p, c, rfl, fun y => ⟨A.set p.block (some (.cells (row.set (p.off + j) (.int k y)) true 1)), ?_, ?_, fun A0 hA0 hle => hle.set (by omega) _, fun hw => hw.set _ (hw.lt hg), rfl⟩⟩
    · have h1 : p.off + j + 1 ≤ row.length := by omega
      simp [astore, hg, hi, hs, h1, Value.oneCell', setCells, Value.cells]
    · refine .inr ⟨p, c, _, by simp, by simpa using hc, hsp, hB, AW.set_get_same, by simpa using hfit, ?_⟩
      apply List.ext_getElem?
      intro q
      have hq := congrArg (fun x => x[q]?) hcs
      simp only [List.length_set, Nat.mul_one]
      by_cases e : j = q
      · subst e
        rw [List.getElem?_map, List.getElem?_set_self hj, List.getElem?_take_of_lt hj, List.getElem?_drop, List.getElem?_set_self (by omega)]
        rfl
      · rw [List.getElem?_map, List.getElem?_set_ne e]
        simp only [List.getElem?_map] at hq
        rw [hq, List.getElem?_take, List.getElem?_take]
        split
        · rw [List.getElem?_drop, List.getElem?_drop, List.getElem?_set_ne (by omega)]
        · rfl

end Go.Stx
