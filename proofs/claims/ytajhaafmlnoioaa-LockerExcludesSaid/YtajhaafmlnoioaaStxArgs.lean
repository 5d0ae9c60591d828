/-
  From the model's world to the abstract memory: arguments that came in; and back: what a contract says of the world.
-/
import Derived.Test.YtajhaafmlnoioaaStxOwn
namespace Go.Stx
open Go
set_option linter.unusedVariables false

def AW.empty : AW := ⟨0, fun _ => none⟩
def Mp.empty : Mp := fun _ => none
def AW.NoOwn (A : AW) : Prop := ∀ i o, A.get i = some o → o.own = false

theorem Sim.empty (w : World) : Sim Mp.empty AW.empty w := ⟨fun i o h => (by cases h), fun i j o o' p p' h => (by cases h), fun _ _ => rfl, fun _ _ => rfl⟩
theorem AW.NoOwn.empty : AW.empty.NoOwn := fun i o h => by cases h
theorem AW.Wf.empty : AW.empty.Wf := fun _ _ => rfl

/-- A block that came in: it is not ours. -/
theorem Sim.foreign {m : Mp} {A : AW} {w : World} (hs : Sim m A w) (hno : A.NoOwn) (cs : List Value) (p : Pl) {cur : Array Value} {e : TypeId} {fr : Nat × Nat}
    (hb : w.heap[p.block]? = some (.cells cur e fr)) (htot : cur.size = p.total)
    (hrel : ∀ (k : Nat) (v : Value), cs[k]? = some v → ∃ v', cur[p.base + k]? = some v' ∧ VRel m v v') :
    Sim (m.ext A.next p) (A.alloc (.cells cs false p.unit)) w ∧ (A.alloc (.cells cs false p.unit)).NoOwn := by
  have hle := hs.le_ext p
  have mold : ∀ {j}, j ≠ A.next → (m.ext A.next p) j = m j := fun {j} h => by simp [Mp.ext, h]
  have gold : ∀ {j}, j ≠ A.next → (A.alloc (.cells cs false p.unit)).get j = A.get j := fun {j} h => by simp [AW.alloc, h]
  have mnew : (m.ext A.next p) A.next = some p := by simp [Mp.ext]
  have gnew : (A.alloc (.cells cs false p.unit)).get A.next = some (.cells cs false p.unit) := by simp [AW.alloc]
  have hno' : (A.alloc (.cells cs false p.unit)).NoOwn := by
    intro i o hi
    by_cases hn : i = A.next
    · subst hn; rw [gnew] at hi; injection hi with hi; subst hi; rfl
    · rw [gold hn] at hi; exact hno i o hi
  refine ⟨⟨?_, ?_, ?_, ?_⟩, hno'⟩
  · intro j o hj
    by_cases hn : j = A.next
    · subst hn
      rw [gnew] at hj
      injection hj with hj
      subst hj
      exact ⟨p, mnew, cur, e, fr, hb, fun h => (by cases h), rfl, htot, fun k v hv => (by obtain ⟨v', h1, h2⟩ := hrel k v hv; exact ⟨v', h1, h2.mono hle⟩)⟩
    · rw [gold hn] at hj
      obtain ⟨p', h1, h2⟩ := hs.obj j o hj
      exact ⟨p', by rw [mold hn]; exact h1, h2.mono hle⟩
  · intro i j o o' p1 p2 hi how
    have := hno' i o hi
    rw [how] at this
    cases this
  · intro i hi
    have : i ≠ A.next := by simp at hi; omega
    rw [mold this]
    exact hs.fresh i (by simp at hi; omega)
  · intro i hi
    have : i ≠ A.next := by simp at hi; omega
    rw [gold this]
    exact hs.low i (by simp at hi; omega)

/-- A slice of integers that came in. -/
theorem intro_ints {m : Mp} {A : AW} {w : World} (hs : Sim m A w) (hno : A.NoOwn) {k : IntKind} {a : Option Addr} {len cap : Nat} {zs : List Int}
    (h : (a = none ∧ len = 0 ∧ cap = 0 ∧ zs = []) ∨
      ∃ x, a = some x ∧ len ≤ cap ∧ cap ≤ maxLen ∧ zs.length = cap ∧ (∀ i, i < zs.length → w.cell? (x.add i) = some (.int k (zs.getD i 0))) ∧ ∀ n ∈ zs, (Lit.int k n).wf = true) :
    ∃ m' A' v, Mp.le m m' ∧ A.le A' ∧ Sim m' A' w ∧ A'.NoOwn ∧ VRel m' v (.slice a len cap) ∧ IsInts A' k v (zs.take len) ∧ len ≤ maxLen := by
  rcases h with ⟨rfl, rfl, rfl, rfl⟩ | ⟨x, rfl, hlc, hcm, hzl, hcell, _⟩
  · exact ⟨m, A, .slice none 0 0, Mp.le_refl m, AW.le.refl A, hs, hno, .sliceNone, IsInts.nil A k, Nat.zero_le _⟩
  · by_cases hc0 : cap = 0
    · subst hc0
      have : len = 0 := by omega
      subst this
      refine ⟨m, A, .slice (some ⟨0, 0, some 0⟩) 0 0, Mp.le_refl m, AW.le.refl A, hs, hno, .slice (.inr ⟨rfl, rfl, .inl rfl⟩) (Nat.le_refl _) (Nat.le_refl _), ?_, Nat.zero_le _⟩
      rw [List.take_zero]
      exact .inl ⟨⟨_, rfl⟩, rfl, rfl⟩
    · have h0 := hcell 0 (by omega)
      rw [show x.add 0 = x by unfold Addr.add; simp] at h0
      have hsp : x.spot = none := by
        unfold World.cell? at h0
        split at h0
        · split at h0
          · cases h0
          · rename_i hsp; simpa using hsp
        · cases h0
      have hblk : ∃ cur e fr, w.heap[x.block]? = some (.cells cur e fr) := by
        unfold World.cell? at h0
        split at h0
        · rename_i c e fr hh; exact ⟨c, e, fr, hh⟩
        · cases h0
      obtain ⟨cur, e, fr, hblk⟩ := hblk
      have hcur : ∀ i, i < cap → cur[x.off + i]? = some (.int k (zs.getD i 0)) := fun i hi => by
        have h1 := hcell i (by omega)
        rw [addr_add _ _ hsp] at h1
        simpa [World.cell?, hblk] using h1
      obtain ⟨hs', hno'⟩ := Sim.foreign hs hno (zs.map (Value.int k)) ⟨x.block, x.off, 1, cur.size⟩ hblk rfl (fun j v hv => by
        rw [List.getElem?_map, Option.map_eq_some_iff] at hv
        obtain ⟨z, hz, rfl⟩ := hv
        have hj := (List.getElem?_eq_some_iff.1 hz).1
        refine ⟨_, hcur j (by omega), ?_⟩
        rw [List.getD_eq_getElem?_getD, hz]
        exact .int k z)
      have hlast := (Array.getElem?_eq_some_iff.1 (hcur (cap - 1) (by omega))).1
      refine ⟨_, _, .slice (some ⟨A.next, 0, none⟩) len len, hs.le_ext _, AW.le.alloc A _, hs', hno', ?_, ?_, by omega⟩
      · refine .slice (.inl ⟨rfl, hsp, ⟨x.block, x.off, 1, cur.size⟩, by simp [Mp.ext], rfl, rfl, ?_⟩) (Nat.le_refl _) hlc
        show x.off + cap * 1 ≤ cur.size
        omega
      · refine .inr ⟨⟨A.next, 0, none⟩, len, zs.map (Value.int k), false, 1, ?_, ?_, AW.alloc_get_new _ _, rfl, ?_, ?_⟩
        · rw [List.length_take, Nat.min_eq_left (by omega)]
        · simp; omega
        · simp; omega
        · rw [List.drop_zero, List.length_take, Nat.min_eq_left (by omega), Nat.mul_one, List.map_take]

/-- What a contract says of the world: the call answers true, and nothing that was there has turned. -/
theorem calls_of_acall {P : Program} {f : FuncId} {args : List Value} {cargs : Array Value} {A : AW} {m : Mp} {w : World} {R : Value → AW → Prop} (h : ACall P f args A R) (hR : ∀ v A', R v A' → v = .bool true)
    (hs : Sim m A w) (hno : A.NoOwn) (hl : LRel m args cargs.toList) : Calls P f cargs w fun e w' => e = .returned (.bool true) ∧ RowKit.Below w.heap.size w w' := by
  refine (h.2 m w cargs hs hl).mono ?_
  rintro e w' ⟨v, v', m', A', rfl, ev, hv, hr⟩
  have e1 := hR v A' hr
  subst e1
  cases hv
  refine ⟨rfl, ev.os, ev.tape, ev.output, ev.size, fun k hk => ev.out k hk ?_⟩
  rintro ⟨i, o, p, hi, how, _⟩
  have := hno i o hi
  rw [how] at this
  cases this

end Go.Stx
