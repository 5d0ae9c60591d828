/-
  Contracts over the abstract memory: slices, assertions, maps, regions that draw their order.
-/
import Derived.Test.YtcffnkgjmneaeaaGreatDoorCoreA
import Derived.Sort.Grow
import Derived.Orders
namespace Go.Stx
open Go
variable [Gl]
set_option linter.unusedSectionVars false
set_option linter.unusedVariables false

/-- v is nil, or a slice over a row that was made since block number B and that we may write; cs: its cells. -/
def OwnSl (B : Nat) (A : AW) (size : Nat) (v : Value) (n : Nat) (cs : List Value) : Prop :=
  (v = .slice none 0 0 ∧ n = 0 ∧ cs = []) ∨
  ∃ p c row, v = .slice (some p) n c ∧ n ≤ c ∧ p.spot = none ∧ B ≤ p.block ∧ A.get p.block = some (.cells row true size) ∧ p.off + n * size ≤ row.length ∧ cs = (row.drop p.off).take (n * size)

theorem OwnSl.is {B : Nat} {A : AW} {size : Nat} {v : Value} {n : Nat} {cs : List Value} (h : OwnSl B A size v n cs) : IsSl A size v n cs := by
  rcases h with ⟨h1, h2, h3⟩ | ⟨p, c, row, h1, h2, _, _, h3, h4, h5⟩
  · exact .inl ⟨⟨none, h1⟩, h2, h3⟩
  · exact .inr ⟨p, c, row, true, size, h1, h2, h3, rfl, h4, h5⟩

theorem OwnSl.nil (B : Nat) (A : AW) (size : Nat) : OwnSl B A size (.slice none 0 0) 0 [] := .inl ⟨rfl, rfl, rfl⟩

/-- Kept where the memory has all that it had. -/
theorem OwnSl.le {B : Nat} {A A' : AW} (hl : A.le A') (hw : A.Wf) {size : Nat} {v : Value} {n : Nat} {cs : List Value} (h : OwnSl B A size v n cs) : OwnSl B A' size v n cs := by
  rcases h with h | ⟨p, c, row, h1, h2, hs, h3, h4, h5⟩
  · exact .inl h
  · exact .inr ⟨p, c, row, h1, h2, hs, h3, hl.keep hw h4, h5⟩

/-- The block of a slice's array. -/
def slBlock : Value → Option Nat
  | .slice (some p) _ _ => some p.block
  | _ => none

theorem OwnSl.length {B : Nat} {A : AW} {size : Nat} {v : Value} {n : Nat} {cs : List Value} (h : OwnSl B A size v n cs) : cs.length = n * size := h.is.length

theorem appNews_length {A : AW} {size : Nat} {x : Value} {m : Nat} {new : List Value} (h : appNews A size x = some (m, new)) : new.length = m * size := by
  unfold appNews at h
  split at h
  · simp only [Option.some.injEq, Prod.mk.injEq] at h
    obtain ⟨rfl, rfl⟩ := h
    simp
  · split at h
    · simp only [Option.some.injEq, Prod.mk.injEq] at h
      obtain ⟨rfl, rfl⟩ := h
      simp
    · split at h
      · split at h
        · simp only [Option.some.injEq, Prod.mk.injEq] at h
          obtain ⟨rfl, rfl⟩ := h
          simp
          omega
        · cases h
      · cases h
  · cases h

theorem aappend_own {P : Program} {A : AW} {t e : TypeId} {i : TypeInfo} {z : Value} {B : Nat} {v x : Value} {n m size : Nat} {cs new : List Value}
    (hu : P.underlying t = some (.slice e)) (hi : P.info? e = some i) (hz : i.zero = some z) (hsize : i.size = size) (hzs : z.cells.size = size) (h0 : 0 < size)
    (hown : OwnSl B A size v n cs) (hnews : appNews A size x = some (m, new)) (hone : new.all Value.oneCell' = true) (hb2 : n + m ≤ 140737488355328) (hb : (n + m) * i.bytes ≤ 140737488355328)
    (hB : B ≤ A.next) (hw : A.Wf) :
    ∃ v' A', aappend P A t t v x = some (v', A') ∧ OwnSl B A' size v' (n + m) (cs ++ new) ∧ (∀ A0 : AW, A0.next ≤ B → A0.le A → A0.le A') ∧ A'.Wf ∧ A.next ≤ A'.next ∧
      (∀ j, j < A.next → slBlock v ≠ some j → A'.get j = A.get j) ∧ (v' = v ∨ slBlock v' = some A.next) := by
  subst hsize
  have hlen := hown.length
  have hnl := appNews_length hnews
  by_cases hm : m = 0
  · subst hm
    have hnew : new = [] := List.eq_nil_of_length_eq_zero (by omega)
    subst hnew
    have holds : ∃ b, appOlds A i.size v = some (b, n, cs) := by
      rcases hown with ⟨rfl, rfl, rfl⟩ | ⟨p, c, row, rfl, hc, hsp, _, hg, hle, rfl⟩
      · exact ⟨none, rfl⟩
      · exact ⟨some p, by simp [appOlds, hsp, hg, hle]⟩
    obtain ⟨b, hob⟩ := holds
    refine ⟨v, A, ?_, by simpa using hown, fun A0 _ h => h, hw, Nat.le_refl _, fun j _ _ => rfl, .inl rfl⟩
    simp [aappend, hu, hi, hz, hzs, h0, hnews, hob]
  · rcases hown with ⟨rfl, rfl, rfl⟩ | ⟨p, c, row, rfl, hc, hsp, hBp, hg, hle, rfl⟩
    · refine ⟨.slice (some ⟨A.next, 0, none⟩) (0 + m) (0 + m), A.alloc (.cells new true i.size), ?_, ?_, fun A0 _ h => h.trans (AW.le.alloc A _), hw.alloc _, by simp, fun j hj _ => AW.alloc_get_old _ _ (by omega), .inr rfl⟩
      · have hb' : (0 + m) * i.bytes ≤ 140737488355328 := hb
        have hb2' : 0 + m ≤ 140737488355328 := hb2
        simp only [aappend, hu, hi, hz, hnews, appOlds]
        rw [if_pos ⟨hzs, h0, trivial⟩, if_neg hm, if_pos ⟨hb2', hb', hone⟩]
        simp
      · refine .inr ⟨⟨A.next, 0, none⟩, 0 + m, new, rfl, Nat.le_refl _, rfl, hB, AW.alloc_get_new _ _, by simp; omega, ?_⟩
        simp only [List.nil_append, List.drop_zero, Nat.zero_add]
        rw [List.take_of_length_le (by omega)]
    · have hlt := hw.lt hg
      refine ⟨.slice (some ⟨A.next, 0, none⟩) (n + m) (n + m), (A.set p.block none).alloc (.cells ((row.drop p.off).take (n * i.size) ++ new) true i.size), ?_, ?_, ?_, (hw.set none hlt).alloc _, by simp, ?_, .inr rfl⟩
      · simp only [aappend, hu, hi, hz, hnews, appOlds, hg]
        have hsp' : ¬ (p.spot.isSome = true ∧ c = 0 ∧ n = 0) := by simp [hsp]
        rw [if_pos ⟨hzs, h0, trivial⟩, if_neg hsp', if_pos ⟨trivial, hle⟩]
        simp only
        rw [if_neg hm, if_pos ⟨hb2, hb, hone⟩]
      · refine .inr ⟨⟨A.next, 0, none⟩, n + m, (row.drop p.off).take (n * i.size) ++ new, rfl, Nat.le_refl _, rfl, hB, ?_, ?_, ?_⟩
        · have := AW.alloc_get_new (A.set p.block none) (.cells ((row.drop p.off).take (n * i.size) ++ new) true i.size)
          simpa using this
        · have : ((row.drop p.off).take (n * i.size) ++ new).length = (n + m) * i.size := by
            rw [List.length_append, hlen, hnl, Nat.add_mul]
          show 0 + (n + m) * i.size ≤ _
          omega
        · have : ((row.drop p.off).take (n * i.size) ++ new).length = (n + m) * i.size := by
            rw [List.length_append, hlen, hnl, Nat.add_mul]
          exact (List.take_of_length_le (Nat.le_of_eq this)).symm
      · intro A0 hA0 hl
        exact (hl.set (by omega) none).trans (AW.le.alloc _ _)
      · intro j hj hne
        rw [AW.alloc_get_old _ _ (by simp; omega), AW.set_get_ne (fun e => hne (by simp [slBlock, e]))]

theorem IsSl.news {A : AW} {size : Nat} {v : Value} {n : Nat} {cs : List Value} (h : IsSl A size v n cs) : appNews A size v = some (n, cs) := by
  rcases h with ⟨⟨o, rfl⟩, rfl, rfl⟩ | ⟨p, c, row, own, u, rfl, hc, hg, _, hle, rfl⟩
  · cases o <;> simp [appNews]
  · by_cases h0 : n = 0
    · subst h0; simp [appNews]
    · simp [appNews, h0, AW.row_of hg, hle]

/-- A slice of integers that the call has made. -/
def OwnInts (B : Nat) (A : AW) (k : IntKind) (v : Value) (l : List Int) : Prop := OwnSl B A 1 v l.length (l.map (Value.int k))

theorem OwnInts.is {B : Nat} {A : AW} {k : IntKind} {v : Value} {l : List Int} (h : OwnInts B A k v l) : IsInts A k v l := OwnSl.is h
theorem OwnInts.nil (B : Nat) (A : AW) (k : IntKind) : OwnInts B A k (.slice none 0 0) [] := OwnSl.nil B A 1
theorem OwnInts.le {B : Nat} {A A' : AW} (hl : A.le A') (hw : A.Wf) {k : IntKind} {v : Value} {l : List Int} (h : OwnInts B A k v l) : OwnInts B A' k v l := OwnSl.le hl hw h

/-- append(out, y) of integers: the one element lies in a row of its own, made just before. -/
theorem append_int {P : Program} {A : AW} {t e : TypeId} {i : TypeInfo} {z : Value} {B : Nat} {v : Value} {k : IntKind} {l : List Int} (y : Int)
    (hu : P.underlying t = some (.slice e)) (hi : P.info? e = some i) (hz : i.zero = some z) (hsize : i.size = 1) (hzs : z.cells.size = 1)
    (hown : OwnInts B A k v l) (hlen : l.length < 2 ^ 40) (hby : i.bytes ≤ 8) (hB : B ≤ A.next) (hw : A.Wf) :
    ∃ v' A', aappend P (A.alloc (.cells [.int k y] true 1)) t t v (.slice (some ⟨A.next, 0, none⟩) 1 1) = some (v', A') ∧ OwnInts B A' k v' (l ++ [y]) ∧
      (∀ A0 : AW, A0.next ≤ B → A0.le A → A0.le A') ∧ A'.Wf ∧ A.next ≤ A'.next := by
  have hown' := OwnInts.le (AW.le.alloc A (.cells [.int k y] true 1)) hw hown
  have hnews : appNews (A.alloc (.cells [.int k y] true 1)) 1 (.slice (some ⟨A.next, 0, none⟩) 1 1) = some (1, [.int k y]) := by
    simp [appNews, AW.row]
  have hb : (l.length + 1) * i.bytes ≤ 140737488355328 := by
    have := Nat.mul_le_mul_left (l.length + 1) hby
    omega
  obtain ⟨v', A', h1, h2, h3, h4, h5, _⟩ := aappend_own (P := P) (t := t) hu hi hz hsize hzs (by omega) hown' hnews rfl (by omega) hb (by simp; omega) (hw.alloc _)
  refine ⟨v', A', h1, ?_, fun A0 ha hl => h3 A0 ha (hl.trans (AW.le.alloc A _)), h4, by simp at h5; omega⟩
  unfold OwnInts
  simpa using h2

/-- A row that holds just these integers. -/
theorem IsInts.of_get {A : AW} {k : IntKind} {b c : Nat} {l : List Int} {own : Bool} {cs : List Value} (hg : A.get b = some (.cells cs own 1)) (hcs : cs = l.map (Value.int k)) (hc : l.length ≤ c) {n : Nat} (hn : n = l.length) :
    IsInts A k (.slice (some ⟨b, 0, none⟩) n c) l := by
  subst hcs; subst hn
  refine .inr ⟨⟨b, 0, none⟩, c, l.map (Value.int k), own, 1, rfl, hc, hg, rfl, by simp, ?_⟩
  rw [List.drop_zero, List.take_of_length_le (by simp)]

/-- A store of an integer into a row of integers. -/
theorem astore_int {P : Program} {A : AW} {t : TypeId} {i : TypeInfo} {b off : Nat} {k : IntKind} {l : List Int} (y : Int) (hi : P.info? t = some i) (hs : i.size = 1)
    (hg : A.get b = some (.cells (l.map (Value.int k)) true 1)) (ho : off < l.length) :
    astore P A t ⟨b, off, none⟩ (.int k y) = some (A.set b (some (.cells ((l.set off y).map (Value.int k)) true 1))) := by
  have h1 : off + 1 ≤ l.length := by omega
  simp [astore, hg, hi, hs, Value.oneCell', List.map_set]
  omega

/-- append(out, l...) of integers, out our own. -/
theorem append_ints {P : Program} {A : AW} {t e : TypeId} {i : TypeInfo} {z : Value} {B : Nat} {v x : Value} {k : IntKind} {l l2 : List Int}
    (hu : P.underlying t = some (.slice e)) (hi : P.info? e = some i) (hz : i.zero = some z) (hsize : i.size = 1) (hzs : z.cells.size = 1)
    (hown : OwnInts B A k v l) (hx : IsInts A k x l2) (hlen : l.length + l2.length < 2 ^ 40) (hby : i.bytes ≤ 8) (hB : B ≤ A.next) (hw : A.Wf) :
    ∃ v' A', aappend P A t t v x = some (v', A') ∧ OwnInts B A' k v' (l ++ l2) ∧ (∀ A0 : AW, A0.next ≤ B → A0.le A → A0.le A') ∧ A'.Wf ∧ A.next ≤ A'.next := by
  have hb : (l.length + l2.length) * i.bytes ≤ 140737488355328 := by
    have := Nat.mul_le_mul_left (l.length + l2.length) hby
    omega
  obtain ⟨v', A', h1, h2, h3, h4, h5, _⟩ := aappend_own (P := P) (t := t) hu hi hz hsize hzs (by omega) hown hx.news (by simp [Value.oneCell']) (by omega) hb hB hw
  refine ⟨v', A', h1, ?_, h3, h4, h5⟩
  unfold OwnInts
  simpa using h2

end Go.Stx

namespace Go.Stx
open Go
variable [Gl]
set_option linter.unusedSectionVars false
set_option linter.unusedVariables false

def AW.empty : AW := ⟨Gl.N, fun _ => none⟩
def Mp.empty : Mp := fun g => if Gl.ok g = true then some ⟨g, 0, 1, glSize g⟩ else none
def AW.NoOwn (A : AW) : Prop := ∀ i o, A.get i = some o → o.own = false

theorem Sim.empty (w : World) (hl : ∀ b x, Gl.B b = some x → w.heap[b]? = some x) : Sim Mp.empty AW.empty w := ⟨fun i o h => (by cases h), fun i j o o' p p' h => (by cases h), fun i hi => if_neg fun h => absurd (Gl.lt i h) (by simp only [AW.empty] at hi; omega), fun _ _ => rfl, hl, fun i o p h => (by cases h), fun g hg => if_pos hg⟩
theorem AW.NoOwn.empty : AW.empty.NoOwn := fun i o h => by cases h
theorem AW.Wf.empty : AW.empty.Wf := fun _ _ => rfl

/-- A block that came in: it is not ours. -/
theorem Sim.foreign {m : Mp} {A : AW} {w : World} (hs : Sim m A w) (hno : A.NoOwn) (cs : List Value) (p : Pl) {cur : Array Value} {e : TypeId} {fr : Nat × Nat}
    (hb : w.heap[p.block]? = some (.cells cur e fr)) (htot : cur.size = p.total)
    (hrel : ∀ (k : Nat) (v : Value), cs[k]? = some v → ∃ v', cur[p.base + k]? = some v' ∧ VRel m v v') :
    Sim (m.ext A.next p) (A.alloc (.cells cs false p.unit)) w ∧ (A.alloc (.cells cs false p.unit)).NoOwn := by
  have hle := hs.le_ext p
  have mold : ∀ {j}, j ≠ A.next → (m.ext A.next p) j = m j := fun {j} h => by simp [Mp.ext, h]
  have gold : ∀ {j}, j ≠ A.next → (A.alloc (.cells cs false p.unit)).get j = A.get j := fun {j} h => by simp [AW.alloc, h]
  have mnew : (m.ext A.next p) A.next = some p := by simp [Mp.ext]
  have gnew : (A.alloc (.cells cs false p.unit)).get A.next = some (.cells cs false p.unit) := by simp [AW.alloc]
  have hno' : (A.alloc (.cells cs false p.unit)).NoOwn := by
    intro i o hi
    by_cases hn : i = A.next
    · subst hn; rw [gnew] at hi; injection hi with hi; subst hi; rfl
    · rw [gold hn] at hi; exact hno i o hi
  refine ⟨⟨?_, ?_, ?_, ?_, hs.laid, fun i o q hi ho => (by rw [hno' i o hi] at ho; cases ho), hs.glob.mono hle⟩, hno'⟩
  · intro j o hj
    by_cases hn : j = A.next
    · subst hn
      rw [gnew] at hj
      injection hj with hj
      subst hj
      exact ⟨p, mnew, cur, e, fr, hb, fun h => (by cases h), rfl, htot, fun k v hv => (by obtain ⟨v', h1, h2⟩ := hrel k v hv; exact ⟨v', h1, h2.mono hle⟩)⟩
    · rw [gold hn] at hj
      obtain ⟨p', h1, h2⟩ := hs.obj j o hj
      exact ⟨p', by rw [mold hn]; exact h1, h2.mono hle⟩
  · intro i j o o' p1 p2 hi how
    have := hno' i o hi
    rw [how] at this
    cases this
  · intro i hi
    have : i ≠ A.next := by simp at hi; omega
    rw [mold this]
    exact hs.fresh i (by simp at hi; omega)
  · intro i hi
    have : i ≠ A.next := by simp at hi; omega
    rw [gold this]
    exact hs.low i (by simp at hi; omega)

/-- A slice of integers that came in. -/
theorem intro_ints {m : Mp} {A : AW} {w : World} (hs : Sim m A w) (hno : A.NoOwn) {k : IntKind} {a : Option Addr} {len cap : Nat} {zs : List Int}
    (h : (a = none ∧ len = 0 ∧ cap = 0 ∧ zs = []) ∨
      ∃ x, a = some x ∧ len ≤ cap ∧ cap ≤ maxLen ∧ zs.length = cap ∧ (∀ i, i < zs.length → w.cell? (x.add i) = some (.int k (zs.getD i 0))) ∧ ∀ n ∈ zs, (Lit.int k n).wf = true) :
    ∃ m' A' v, Mp.le m m' ∧ A.le A' ∧ Sim m' A' w ∧ A'.NoOwn ∧ VRel m' v (.slice a len cap) ∧ IsInts A' k v (zs.take len) ∧ len ≤ maxLen := by
  rcases h with ⟨rfl, rfl, rfl, rfl⟩ | ⟨x, rfl, hlc, hcm, hzl, hcell, _⟩
  · exact ⟨m, A, .slice none 0 0, Mp.le_refl m, AW.le.refl A, hs, hno, .sliceNone, IsInts.nil A k, Nat.zero_le _⟩
  · by_cases hc0 : cap = 0
    · subst hc0
      have : len = 0 := by omega
      subst this
      refine ⟨m, A, .slice (some ⟨0, 0, some 0⟩) 0 0, Mp.le_refl m, AW.le.refl A, hs, hno, .slice (.inr ⟨rfl, rfl, .inl rfl⟩) (Nat.le_refl _) (Nat.le_refl _), ?_, Nat.zero_le _⟩
      rw [List.take_zero]
      exact .inl ⟨⟨_, rfl⟩, rfl, rfl⟩
    · have h0 := hcell 0 (by omega)
      rw [show x.add 0 = x by unfold Addr.add; simp] at h0
      have hsp : x.spot = none := by
        unfold World.cell? at h0
        split at h0
        · split at h0
          · cases h0
          · rename_i hsp; simpa using hsp
        · cases h0
      have hblk : ∃ cur e fr, w.heap[x.block]? = some (.cells cur e fr) := by
        unfold World.cell? at h0
        split at h0
        · rename_i c e fr hh; exact ⟨c, e, fr, hh⟩
        · cases h0
      obtain ⟨cur, e, fr, hblk⟩ := hblk
      have hcur : ∀ i, i < cap → cur[x.off + i]? = some (.int k (zs.getD i 0)) := fun i hi => by
        have h1 := hcell i (by omega)
        rw [addr_add _ _ hsp] at h1
        simpa [World.cell?, hblk] using h1
      obtain ⟨hs', hno'⟩ := Sim.foreign hs hno (zs.map (Value.int k)) ⟨x.block, x.off, 1, cur.size⟩ hblk rfl (fun j v hv => by
        rw [List.getElem?_map, Option.map_eq_some_iff] at hv
        obtain ⟨z, hz, rfl⟩ := hv
        have hj := (List.getElem?_eq_some_iff.1 hz).1
        refine ⟨_, hcur j (by omega), ?_⟩
        rw [List.getD_eq_getElem?_getD, hz]
        exact .int k z)
      have hlast := (Array.getElem?_eq_some_iff.1 (hcur (cap - 1) (by omega))).1
      refine ⟨_, _, .slice (some ⟨A.next, 0, none⟩) len len, hs.le_ext _, AW.le.alloc A _, hs', hno', ?_, ?_, by omega⟩
      · refine .slice (.inl ⟨rfl, hsp, ⟨x.block, x.off, 1, cur.size⟩, by simp [Mp.ext], rfl, rfl, ?_⟩) (Nat.le_refl _) hlc
        show x.off + cap * 1 ≤ cur.size
        omega
      · refine .inr ⟨⟨A.next, 0, none⟩, len, zs.map (Value.int k), false, 1, ?_, ?_, AW.alloc_get_new _ _, rfl, ?_, ?_⟩
        · rw [List.length_take, Nat.min_eq_left (by omega)]
        · simp; omega
        · simp; omega
        · rw [List.drop_zero, List.length_take, Nat.min_eq_left (by omega), Nat.mul_one, List.map_take]

/-- What a contract says of the world: the call answers true, and nothing that was there has turned. -/
theorem calls_of_acall {P : Program} {f : FuncId} {args : List Value} {cargs : Array Value} {A : AW} {m : Mp} {w : World} {R : Value → AW → Prop} (h : ACall P f args A R) (hR : ∀ v A', R v A' → v = .bool true)
    (hs : Sim m A w) (hno : A.NoOwn) (hl : LRel m args cargs.toList) : Calls P f cargs w fun e w' => e = .returned (.bool true) ∧ RowKit.Below w.heap.size w w' := by
  refine (h.2 m w cargs hs hl).mono ?_
  rintro e w' ⟨v, v', m', A', rfl, ev, hv, hr⟩
  have e1 := hR v A' hr
  subst e1
  cases hv
  refine ⟨rfl, ev.os, ev.tape, ev.output, ev.size, fun k hk => ev.out k hk ?_⟩
  rintro ⟨i, o, p, hi, how, _⟩
  have := hno i o hi
  rw [how] at this
  cases this

end Go.Stx

namespace Go.Stx
open Go
variable [Gl]
set_option linter.unusedSectionVars false
set_option linter.unusedVariables false

theorem setCells_get : ∀ (l cs : List Value) (off j : Nat), off + l.length ≤ cs.length → (setCells cs off l)[j]? = if off ≤ j ∧ j < off + l.length then l[j - off]? else cs[j]?
  | [], cs, off, j, _ => by
    simp [setCells]
    omega
  | v :: l, cs, off, j, h => by
    simp only [List.length_cons] at h
    rw [setCells, setCells_get l _ (off + 1) j (by simp; omega)]
    by_cases h1 : off + 1 ≤ j ∧ j < off + 1 + l.length
    · rw [if_pos h1, if_pos (by simp; omega)]
      rw [show j - off = (j - (off + 1)) + 1 by omega, List.getElem?_cons_succ]
    · rw [if_neg h1]
      by_cases h2 : off = j
      · subst h2
        rw [if_pos (by simp), List.getElem?_set_self (by omega)]
        simp
      · rw [if_neg (by simp; omega), List.getElem?_set_ne h2]

theorem mapBlock_heap (w : World) (b : Nat) (f : Array Value → Array Value) {cur : Array Value} {e : TypeId} {fr : Nat × Nat} (h : w.heap[b]? = some (.cells cur e fr)) :
    (Go.Sort.mapBlock w b f).heap[b]? = some (.cells (f cur) e fr) := by
  simp [Go.Sort.mapBlock, Array.getElem?_modify, h, Go.Sort.onCells]
theorem mapBlock_other (w : World) (b j : Nat) (f : Array Value → Array Value) (h : j ≠ b) : (Go.Sort.mapBlock w b f).heap[j]? = w.heap[j]? := by
  simp [Go.Sort.mapBlock, Array.getElem?_modify, Ne.symm h]

theorem putRow_evo {m : Mp} {A : AW} {w : World} (hs : Sim m A w) {i off : Nat} {q : Pl} {row : List Value} {k : IntKind} (d : List Int)
    (hg : A.get i = some (.cells row true 1)) (hm : m i = some q) (hfit : off + d.length ≤ row.length) :
    Evo m A w m (A.set i (some (.cells (setCells row off (d.map (Value.int k))) true 1))) (Go.Sort.putRow (Value.int k) w q.block (q.base + off) d.toArray) := by
  obtain ⟨p', hm', cur, e', fr, hw, hfr, hu, htot, hcells⟩ := hs.obj _ _ hg
  rw [hm] at hm'
  injection hm' with hm'
  subst hm'
  obtain rfl := hfr rfl
  refine Evo.set hs hg hm hu (by simp [Go.Sort.putRow, Go.Sort.mapBlock]) rfl rfl rfl (mapBlock_heap w q.block _ hw) (by simpa [Go.Sort.putCells] using htot) (fun j hj => mapBlock_other w _ _ _ hj) ?_
  intro j v hv
  rw [setCells_get _ _ _ _ (by simpa using hfit)] at hv
  simp only [List.length_map] at hv
  by_cases hj : off ≤ j ∧ j < off + d.length
  · rw [if_pos hj, List.getElem?_map, List.getElem?_eq_getElem (by omega)] at hv
    injection hv with hv
    subst hv
    obtain ⟨v0, h0, _⟩ := hcells j row[j] (List.getElem?_eq_getElem (by omega))
    refine ⟨.int k d[j - off], ?_, .int _ _⟩
    have hlt := (Array.getElem?_eq_some_iff.1 h0).1
    simp only [Go.Sort.putCells, Array.getElem?_mapIdx, h0, Option.map_some, List.size_toArray]
    rw [if_pos (by omega)]
    have e1 : q.base + j - (q.base + off) = j - off := by omega
    rw [e1, getElem!_pos d.toArray (j - off) (by simp; omega)]
    simp
  · rw [if_neg hj] at hv
    obtain ⟨v0, h0, h1⟩ := hcells j v hv
    refine ⟨v0, ?_, h1⟩
    simp only [Go.Sort.putCells, Array.getElem?_mapIdx, h0, Option.map_some, List.size_toArray]
    rw [if_neg (by omega)]

theorem Evo.ahead {m : Mp} {A : AW} {w : World} (h : Sim m A w) (n : Nat) : Evo m A w m A (Go.Sort.ahead w n) :=
  ⟨Mp.le_refl m, h.of_heap rfl, Nat.le_refl _, rfl, rfl, rfl, Nat.le_refl _, fun _ _ _ => rfl, fun _ h => .inl h, fun _ _ => rfl, fun _ h => .inl h⟩

theorem Evo.grown {m : Mp} {A : AW} {w : World} (h : Sim m A w) (os : Array Obj) : Evo m A w m A (Go.Sort.grow w os) := by
  have old : ∀ b, b < w.heap.size → (Go.Sort.grow w os).heap[b]? = w.heap[b]? := fun b hb => by
    show (w.heap ++ os)[b]? = _
    rw [Array.getElem?_append_left hb]
  exact ⟨Mp.le_refl m, Ext.sim old h, Nat.le_refl _, rfl, rfl, rfl, by simp [Go.Sort.grow], fun b hb _ => old b hb, fun _ h => .inl h, fun _ _ => rfl, fun _ h => .inl h⟩

/-- A call that turns the integers of a slice of our own in place. -/
theorem rowcall {P : Program} {f : FuncId} (hcall : callable P f = true) {n c : Nat} {A : AW} {p : Addr} {k : IntKind} {l d : List Int} {row : List Value} {rv : Value} {ret : Addr → Nat → Value}
    (hn : n = l.length) (h0 : 0 < l.length) (hc : n ≤ c) (hg : A.get p.block = some (.cells row true 1)) (hfit : p.off + n ≤ row.length) (hl : l.map (Value.int k) = (row.drop p.off).take n) (hd : d.length = l.length)
    (hret : ∀ m a' cap', SRel m p a' cap' → c ≤ cap' → VRel m rv (ret a' cap'))
    (hcon : ∀ blk off cap w, Go.Sort.Holds (Value.int k) w blk off l.toArray → blk < w.heap.size → l.length ≤ cap → Calls P f #[.slice (some ⟨blk, off, none⟩) l.length cap] w fun e w' =>
      e = .returned (ret ⟨blk, off, none⟩ cap) ∧ ∃ n os, w' = Go.Sort.grow (Go.Sort.putRow (Value.int k) (Go.Sort.ahead w n) blk off d.toArray) os) :
    ACall P f [.slice (some p) n c] A fun u A' => u = rv ∧ A' = A.set p.block (some (.cells (setCells row p.off (d.map (Value.int k))) true 1)) := by
  subst hn
  refine ⟨hcall, fun m w cargs hs hlr => ?_⟩
  obtain ⟨v', t', e1, hv, ht⟩ := hlr.inv_cons
  have e2 := ht.inv_nil
  subst e2
  have ec : cargs = #[v'] := by apply Array.ext'; exact e1
  subst ec
  cases hv with
  | slice hh h1 h2 =>
    rename_i a' cap'
    have hsr : SRel m p a' cap' := by
      rcases hh with hh | hh
      · exact hh
      · omega
    have hsr0 := hsr
    obtain ⟨g1, g2, q, g3, g4, g5, g6⟩ := hsr
    obtain ⟨p', hm', cur, e', fr, hw, hfr, hu, htot, hcells⟩ := hs.obj _ _ hg
    rw [g3] at hm'
    injection hm' with hm'
    subst hm'
    obtain rfl := hfr rfl
    have ea : a' = ⟨q.block, q.base + p.off, none⟩ := by rw [addr_eta a' g2, g4, g5]
    subst ea
    have hH : Go.Sort.Holds (Value.int k) w q.block (q.base + p.off) l.toArray := by
      intro j hj
      have hj' : j < l.length := by simpa using hj
      have hrow : row[p.off + j]? = some (.int k l[j]) := by
        have : (l.map (Value.int k))[j]? = some (.int k l[j]) := by rw [List.getElem?_map, List.getElem?_eq_getElem hj']; rfl
        rw [hl, List.getElem?_take_of_lt hj', List.getElem?_drop] at this
        exact this
      obtain ⟨v0, h3, h4⟩ := hcells _ _ hrow
      cases h4
      rw [getElem!_pos l.toArray j hj]
      simp only [World.cell?, World.frozen?, hw]
      rw [Nat.add_assoc]
      simp [h3]
    refine (hcon q.block (q.base + p.off) cap' w hH (Array.getElem?_eq_some_iff.1 hw).1 (by omega)).mono ?_
    rintro e w' ⟨rfl, n, os, rfl⟩
    refine ⟨rv, _, m, A.set p.block (some (.cells (setCells row p.off (d.map (Value.int k))) true 1)), rfl, ?_, hret m _ cap' hsr0 h2, rfl, rfl⟩
    have ev1 := Evo.ahead hs n
    have ev2 := putRow_evo (k := k) ev1.sim d hg g3 (off := p.off) (by omega)
    exact (ev1.trans ev2).trans (Evo.grown ev2.sim os)

theorem ACall.empty {P : Program} {f : FuncId} (hcall : callable P f = true) {o : Option Addr} {c : Nat} {A : AW} {rv : Value} {ret : Option Addr → Nat → Value}
    (hret : ∀ m o' c', VRel m (.slice o 0 c) (.slice o' 0 c') → VRel m rv (ret o' c'))
    (hcon : ∀ o' c' w, Calls P f #[.slice o' 0 c'] w fun e w' => e = .returned (ret o' c') ∧ w' = w) :
    ACall P f [.slice o 0 c] A fun u A' => u = rv ∧ A = A' := by
  refine ⟨hcall, fun m w cargs hs hlr => ?_⟩
  obtain ⟨v', t', e1, hv, ht⟩ := hlr.inv_cons
  have e2 := ht.inv_nil
  subst e2
  have ec : cargs = #[v'] := by apply Array.ext'; exact e1
  subst ec
  have hv' : ∃ o' c', v' = .slice o' 0 c' := by
    cases hv <;> exact ⟨_, _, rfl⟩
  obtain ⟨o', c', rfl⟩ := hv'
  refine (hcon o' c' w).mono ?_
  rintro e w' ⟨rfl, rfl⟩
  exact ⟨rv, _, m, A, rfl, Evo.refl hs, hret m _ _ hv, rfl, rfl⟩

theorem OwnInts.form {B : Nat} {A : AW} {k : IntKind} {v : Value} {l : List Int} (h : OwnInts B A k v l) :
    (∃ o c, v = .slice o 0 c ∧ l = [] ∧ 0 ≤ c) ∨ ∃ p c row, v = .slice (some p) l.length c ∧ 0 < l.length ∧ l.length ≤ c ∧ p.spot = none ∧ B ≤ p.block ∧ A.get p.block = some (.cells row true 1) ∧
      p.off + l.length ≤ row.length ∧ l.map (Value.int k) = (row.drop p.off).take l.length := by
  rcases h with ⟨h1, h2, h3⟩ | ⟨p, c, row, h1, h2, hs, hB, h3, h4, h5⟩
  · exact .inl ⟨none, 0, h1, List.eq_nil_of_length_eq_zero h2, Nat.le_refl _⟩
  · by_cases h0 : l.length = 0
    · rw [h0] at h1
      exact .inl ⟨some p, c, h1, List.eq_nil_of_length_eq_zero h0, Nat.zero_le _⟩
    · exact .inr ⟨p, c, row, h1, by omega, h2, hs, hB, h3, by simpa using h4, by simpa using h5⟩

/-- What an own row holds behind a turn of its cells. -/
theorem own_turned {B : Nat} {A : AW} {k : IntKind} {p : Addr} {c n : Nat} {row : List Value} (d z : List Int) (hw : A.Wf) (hB : B ≤ p.block) (hs : p.spot = none) (hg : A.get p.block = some (.cells row true 1))
    (hfit : p.off + (d ++ z).length ≤ row.length) (hc : d.length ≤ c) (hn : n = d.length) :
    OwnInts B (A.set p.block (some (.cells (setCells row p.off ((d ++ z).map (Value.int k))) true 1))) k (.slice (some p) n c) d := by
  subst hn
  refine .inr ⟨p, c, _, rfl, hc, hs, hB, AW.set_get_same, ?_, ?_⟩
  · rw [length_setCells]
    simp at hfit
    omega
  · apply List.ext_getElem?
    intro j
    by_cases hj : j < d.length
    · rw [List.getElem?_take_of_lt (by omega), List.getElem?_drop, setCells_get _ _ _ _ (by simpa using hfit), if_pos (by simp; omega)]
      rw [show p.off + j - p.off = j by omega, List.map_append, List.getElem?_append_left (by simpa using hj)]
    · rw [List.getElem?_eq_none (by simp; omega), List.getElem?_eq_none (by simp; omega)]

/-- A store of an integer into a slice of our own. -/
theorem OwnInts.store {P : Program} {B : Nat} {A : AW} {k : IntKind} {v : Value} {l : List Int} {t : TypeId} {i : TypeInfo} (h : OwnInts B A k v l) (hi : P.info? t = some i) (hs : i.size = 1)
    {j : Nat} (hj : j < l.length) : ∃ p c, v = .slice (some p) l.length c ∧ ∀ y, ∃ A', astore P A t ⟨p.block, p.off + j, none⟩ (.int k y) = some A' ∧ OwnInts B A' k v (l.set j y) ∧
      (∀ A0 : AW, A0.next ≤ B → A0.le A → A0.le A') ∧ (A.Wf → A'.Wf) ∧ A'.next = A.next := by
  rcases h.form with ⟨o, c, rfl, rfl, _⟩ | ⟨p, c, row, rfl, h0, hc, hsp, hB, hg, hfit, hcs⟩
  · simp at hj
  · refine ⟨p, c, rfl, fun y => ⟨A.set p.block (some (.cells (row.set (p.off + j) (.int k y)) true 1)), ?_, ?_, fun A0 hA0 hle => hle.set (by omega) _, fun hw => hw.set _ (hw.lt hg), rfl⟩⟩
    · have h1 : p.off + j + 1 ≤ row.length := by omega
      simp [astore, hg, hi, hs, h1, Value.oneCell', setCells, Value.cells]
    · refine .inr ⟨p, c, _, by simp, by simpa using hc, hsp, hB, AW.set_get_same, by simpa using hfit, ?_⟩
      apply List.ext_getElem?
      intro q
      have hq := congrArg (fun x => x[q]?) hcs
      simp only [List.length_set, Nat.mul_one]
      by_cases e : j = q
      · subst e
        rw [List.getElem?_map, List.getElem?_set_self hj, List.getElem?_take_of_lt hj, List.getElem?_drop, List.getElem?_set_self (by omega)]
        rfl
      · rw [List.getElem?_map, List.getElem?_set_ne e]
        simp only [List.getElem?_map] at hq
        rw [hq, List.getElem?_take, List.getElem?_take]
        split
        · rw [List.getElem?_drop, List.getElem?_drop, List.getElem?_set_ne (by omega)]
        · rfl

end Go.Stx

namespace Go.Stx
open Go
variable [Gl]
set_option linter.unusedSectionVars false
set_option linter.unusedVariables false

/-- Every edge that binds points to an operation ahead in the text. -/
def aheadOk (ops : Array Oper) : Bool := (List.range ops.size).all fun i => match ops[i]? with
  | some o => o.after.toList.all fun e => !Region.binds .any e || Nat.ble (e.on + 1) i
  | none => true

theorem aheadOk_lt {ops : Array Oper} (hah : aheadOk ops = true) {i : Nat} {o : Oper} (ho : ops[i]? = some o) {e : Edge} (he : e ∈ o.after) (hb : Region.binds .any e = true) : e.on < i := by
  have ha := List.all_eq_true.1 hah i (List.mem_range.2 (Array.getElem?_eq_some_iff.1 ho).1)
  rw [ho] at ha
  have h2 := List.all_eq_true.1 ha e (Array.mem_toList_iff.2 he)
  rw [hb] at h2
  have h3 : e.on + 1 ≤ i := by simpa [Nat.ble_eq] using h2
  omega

/-- One operation of such a region. -/
def AOp1 (P : Program) (ops : Array Oper) (o : Oper) (a : Fr) (A : AW) (k : Fr → AW → Prop) : Prop :=
  if gval ops a o = true then AStep P o.op (evF a) A (fun v A' => k (putF a o.dst v) A') else k (putF a o.dst undef) A

theorem ready_iff {md : Region.Mode} {ops : Array Oper} {listed : Array Bool} {i : Nat} (h : i ∈ Region.ready md ops listed) :
    ∃ o, ops[i]? = some o ∧ listed.getD i true = false ∧ ∀ e ∈ o.after, Region.binds md e = true → listed.getD e.on false = true := by
  simp only [Region.ready, List.mem_filter, List.mem_range, Bool.and_eq_true, Bool.not_eq_true'] at h
  obtain ⟨hi, h1, h2⟩ := h
  refine ⟨ops[i], Array.getElem?_eq_getElem hi, h1, fun e he hb => ?_⟩
  rw [Array.getElem?_eq_getElem hi] at h2
  simp only [Option.map_some, Option.getD_some] at h2
  have := Array.all_eq_true_iff_forall_mem.1 h2 e he
  simpa [hb] using this

theorem all_listed {ops : Array Oper} (hah : aheadOk ops = true) {listed : Array Bool} (hsz : listed.size = ops.size) (hr : Region.ready .any ops listed = []) :
    ∀ n i, i < n → i < ops.size → listed.getD i false = true
  | 0, i, h, _ => by omega
  | n + 1, i, h, hi => by
    by_cases hin : i < n
    · exact all_listed hah hsz hr n i hin hi
    · by_cases hl : listed.getD i false = true
      · exact hl
      · exfalso
        have hil : i < listed.size := by omega
        have hmem : i ∈ Region.ready .any ops listed := by
          simp only [Region.ready, List.mem_filter, List.mem_range, Bool.and_eq_true, Bool.not_eq_true']
          refine ⟨hi, ?_, ?_⟩
          · rw [Array.getD_eq_getD_getElem?, Array.getElem?_eq_getElem hil] at hl ⊢
            simpa using hl
          · rw [Array.getElem?_eq_getElem hi]
            simp only [Option.map_some, Option.getD_some]
            refine Array.all_eq_true_iff_forall_mem.2 fun e he => ?_
            cases hb : Region.binds .any e with
            | false => simp
            | true =>
              have hlt := aheadOk_lt hah (Array.getElem?_eq_getElem hi) he hb
              have := all_listed hah hsz hr n e.on (by omega) (by omega)
              simp [this]
        rw [hr] at hmem
        cases hmem

/-- The rule. J S a A: what holds where the operations of S are done. -/
theorem awp_any {P : Program} {n : Nat} {Q : Exit → Fr → AW → Prop} {a : Fr} {A : AW} {id : Nat} {ops : Array Oper} (hm : P.follows .mixedOrders = true) (hah : aheadOk ops = true)
    (J : (Nat → Bool) → Fr → AW → Prop) (h0 : J (fun _ => false) a A)
    (hstep : ∀ S a A i o, A.Wf → J S a A → ops[i]? = some o → S i = false → (∀ e ∈ o.after, Region.binds .any e = true → S e.on = true) → AOp1 P ops o a A (J fun j => if j = i then true else S j))
    (hend : ∀ S a A, A.Wf → J S a A → (∀ i, i < ops.size → S i = true) → Q .normal a A) : AWP P n (.region id ops true) Q a A := by
  intro hok m w ca hs hf
  have hops : ops.all (operOk n) = true := hok
  refine wp_region_any hm ?_
  have key : ∀ (fuel : Nat) (listed : Array Bool) (S : Nat → Bool) (a' : Fr) (A' : AW) (m' : Mp) (w' : World) (ca' : Act), listed.size = ops.size → (∀ i, i < ops.size → listed.getD i false = S i) →
      (List.range ops.size).countP (fun i => !S i) ≤ fuel → J S a' A' → Evo m A w m' A' w' → FRel m' n a' ca' →
      wpAny P .any ops (fun e ca' w' => ∃ m' a' A', Evo m A w m' A' w' ∧ FRel m' n a' ca' ∧ Q e a' A') fuel listed ca' w' := by
    intro fuel
    induction fuel with
    | zero =>
      intro listed S a' A' m' w' ca' hsz hS hcnt hJ hev hfr
      have hall : ∀ i, i < ops.size → S i = true := by
        intro i hi
        have := List.countP_eq_zero.1 (Nat.le_zero.1 hcnt) i (List.mem_range.2 hi)
        simpa using this
      refine ⟨?_, m', a', A', hev, hfr, hend S a' A' hev.sim.low hJ hall⟩
      rw [List.eq_nil_iff_forall_not_mem]
      intro i hi
      obtain ⟨o, ho, hl, _⟩ := ready_iff hi
      have hi' := (Array.getElem?_eq_some_iff.1 ho).1
      have := hS i hi'
      rw [hall i hi'] at this
      rw [Array.getD_eq_getD_getElem?, Array.getElem?_eq_getElem (by omega)] at this hl
      simp only [Option.getD_some] at this hl
      rw [this] at hl
      cases hl
    | succ fuel ih =>
      intro listed S a' A' m' w' ca' hsz hS hcnt hJ hev hfr
      refine ⟨fun hr => ⟨m', a', A', hev, hfr, hend S a' A' hev.sim.low hJ fun i hi => ?_⟩, fun i hi => ?_⟩
      · rw [← hS i hi]
        exact all_listed hah hsz hr (i + 1) i (by omega) hi
      · obtain ⟨o, ho, hl, hdep⟩ := ready_iff hi
        have hi' := (Array.getElem?_eq_some_iff.1 ho).1
        have hSi : S i = false := by
          rw [← hS i hi']
          rw [Array.getD_eq_getD_getElem?, Array.getElem?_eq_getElem (by omega)] at hl ⊢
          simpa using hl
        have hdep' : ∀ e ∈ o.after, Region.binds .any e = true → S e.on = true := by
          intro e he hb
          have h1 := hdep e he hb
          have hlt := aheadOk_lt hah ho he hb
          rw [← hS e.on (by omega)]
          exact h1
        have hst := hstep S a' A' i o hev.sim.low hJ ho hSi hdep'
        have hoo := Array.all_eq_true_iff_forall_mem.1 hops o (Array.mem_of_getElem? ho)
        have hcnt' : (List.range ops.size).countP (fun j => !(if j = i then true else S j)) ≤ fuel := by
          have e1 : (List.range ops.size).countP (fun j => !(if j = i then true else S j)) + 1 ≤ (List.range ops.size).countP (fun j => !S j) := by
            have hmem : i ∈ List.range ops.size := List.mem_range.2 hi'
            have key2 : ∀ l : List Nat, i ∈ l → l.countP (fun j => !(if j = i then true else S j)) + 1 ≤ l.countP (fun j => !S j) := by
              intro l
              have mono : ∀ l : List Nat, l.countP (fun j => !(if j = i then true else S j)) ≤ l.countP (fun j => !S j) := fun l => by
                refine List.countP_mono_left fun x _ hx => ?_
                by_cases e : x = i
                · simp [e] at hx
                · simpa [e] using hx
              induction l with
              | nil => intro h; cases h
              | cons x l ihl =>
                intro hx
                rw [List.countP_cons, List.countP_cons]
                by_cases e : x = i
                · subst e
                  have := mono l
                  simp [hSi]
                  simpa using this
                · have hx' : i ∈ l := by
                    rcases List.mem_cons.1 hx with h | h
                    · exact absurd h.symm e
                    · exact h
                  have := ihl hx'
                  simp only [e, if_false]
                  omega
            exact key2 _ hmem
          omega
        have hS' : ∀ j, j < ops.size → (listed.setIfInBounds i true).getD j false = if j = i then true else S j := by
          intro j hj
          by_cases e : j = i
          · subst e
            rw [if_pos rfl, Array.getD_eq_getD_getElem?, Array.getElem?_setIfInBounds_self_of_lt (by omega)]
            rfl
          · rw [if_neg e, ← hS j hj, Array.getD_eq_getD_getElem?, Array.getD_eq_getD_getElem?, Array.getElem?_setIfInBounds_ne (by omega)]
        unfold AOp1 at hst
        unfold wpOp
        rw [ho]
        simp only
        rw [gval_conc hfr hops o]
        split at hst
        · rename_i hg
          rw [if_pos hg]
          refine .inl (wp_of_AStep hev.sim hfr hoo hst ?_)
          intro v A2 m2 w2 ca2 hk ev2 hf2
          exact ih _ _ _ A2 m2 w2 ca2 (by simpa using hsz) hS' hcnt' hk (hev.trans ev2) hf2
        · rename_i hg
          rw [if_neg hg]
          simp only [operOk, Bool.and_eq_true] at hoo
          have hd : ∀ j, o.dst = some j → j < n := fun j e => by have := hoo.2; rw [e] at this; simpa using this
          exact ih _ _ _ A' m' w' _ (by simpa using hsz) hS' hcnt' hst hev (hfr.put hd (VRel.undef m'))
  refine key ops.size _ (fun _ => false) a A m { w with drawn := w.drawn + 1 } ca (by simp) (fun i hi => by simp [Array.getD_eq_getD_getElem?, hi]) ?_ h0 (Evo.drew hs) hf
  exact Nat.le_trans (List.countP_le_length) (by simp)

end Go.Stx

namespace Go.Stx
open Go
variable [Gl]
set_option linter.unusedSectionVars false
set_option linter.unusedVariables false

abbrev Hp := Nat → Option AObj

def Hp.dj (h k : Hp) : Prop := ∀ i, h i = none ∨ k i = none
def Hp.un (h k : Hp) : Hp := fun i => match h i with | some o => some o | none => k i

theorem Hp.dj_symm {h k : Hp} (d : Hp.dj h k) : Hp.dj k h := fun i => (d i).symm
theorem Hp.un_comm {h k : Hp} (d : Hp.dj h k) : Hp.un h k = Hp.un k h := by
  funext i
  simp only [Hp.un]
  rcases d i with e | e
  · rw [e]; cases k i <;> rfl
  · rw [e]; cases h i <;> rfl
theorem Hp.un_assoc (h k l : Hp) : Hp.un (Hp.un h k) l = Hp.un h (Hp.un k l) := by
  funext i
  simp only [Hp.un]
  cases h i <;> rfl
theorem Hp.un_none {h k : Hp} {i : Nat} : Hp.un h k i = none ↔ h i = none ∧ k i = none := by
  simp only [Hp.un]
  cases h i <;> simp

structure HP where
  holds : Hp → Prop

@[ext] theorem HP.ext' {P Q : HP} (h : ∀ x, P.holds x ↔ Q.holds x) : P = Q := by
  obtain ⟨p⟩ := P
  obtain ⟨q⟩ := Q
  congr
  funext x
  exact propext (h x)

def HP.star (P Q : HP) : HP := ⟨fun h => ∃ h1 h2, Hp.dj h1 h2 ∧ h = Hp.un h1 h2 ∧ P.holds h1 ∧ Q.holds h2⟩
instance : Mul HP := ⟨HP.star⟩

theorem star_holds {P Q : HP} {h : Hp} : (P * Q).holds h ↔ ∃ h1 h2, Hp.dj h1 h2 ∧ h = Hp.un h1 h2 ∧ P.holds h1 ∧ Q.holds h2 := Iff.rfl

theorem HP.mul_comm (P Q : HP) : P * Q = Q * P := by
  ext h
  simp only [star_holds]
  constructor
  · rintro ⟨a, b, d, rfl, p, q⟩; exact ⟨b, a, Hp.dj_symm d, Hp.un_comm d, q, p⟩
  · rintro ⟨a, b, d, rfl, p, q⟩; exact ⟨b, a, Hp.dj_symm d, Hp.un_comm d, q, p⟩

theorem HP.mul_assoc (P Q R : HP) : P * Q * R = P * (Q * R) := by
  ext h
  simp only [star_holds]
  constructor
  · rintro ⟨_, c, d, rfl, ⟨a, b, d1, rfl, p, q⟩, r⟩
    refine ⟨a, Hp.un b c, fun i => ?_, Hp.un_assoc _ _ _, p, b, c, fun i => ?_, rfl, q, r⟩
    · rcases d i with e | e
      · exact .inl (Hp.un_none.1 e).1
      · rcases d1 i with e1 | e1
        · exact .inl e1
        · exact .inr (Hp.un_none.2 ⟨e1, e⟩)
    · rcases d i with e | e
      · exact .inl (Hp.un_none.1 e).2
      · exact .inr e
  · rintro ⟨a, _, d, rfl, p, b, c, d1, rfl, q, r⟩
    refine ⟨Hp.un a b, c, fun i => ?_, (Hp.un_assoc _ _ _).symm, ⟨a, b, fun i => ?_, rfl, p, q⟩, r⟩
    · rcases d1 i with e | e
      · rcases d i with e1 | e1
        · exact .inl (Hp.un_none.2 ⟨e1, e⟩)
        · exact .inr (Hp.un_none.1 e1).2
      · exact .inr e
    · rcases d i with e1 | e1
      · exact .inl e1
      · exact .inr (Hp.un_none.1 e1).1

instance : Std.Associative (α := HP) (· * ·) := ⟨HP.mul_assoc⟩
instance : Std.Commutative (α := HP) (· * ·) := ⟨HP.mul_comm⟩

def hemp : HP := ⟨fun h => h = fun _ => none⟩
def hpr (p : Prop) : HP := ⟨fun h => p ∧ h = fun _ => none⟩
def hex {α : Type} (P : α → HP) : HP := ⟨fun h => ∃ x, (P x).holds h⟩
/-- The object at one place. -/
def pt (i : Nat) (o : AObj) : HP := ⟨fun h => h = fun j => if j = i then some o else none⟩
/-- One fixed part of the memory. -/
def hfix (h0 : Hp) : HP := ⟨fun h => h = h0⟩

theorem un_empty (h : Hp) : Hp.un (fun _ => none) h = h := rfl
theorem hpr_mul {p : Prop} {P : HP} {h : Hp} : (hpr p * P).holds h ↔ p ∧ P.holds h := by
  simp only [star_holds]
  constructor
  · rintro ⟨a, b, d, rfl, ⟨hp, rfl⟩, q⟩; exact ⟨hp, q⟩
  · rintro ⟨hp, q⟩; exact ⟨_, h, fun _ => .inl rfl, rfl, ⟨hp, rfl⟩, q⟩
theorem hex_mul {α : Type} {P : α → HP} {Q : HP} : hex P * Q = hex fun x => P x * Q := by
  ext h
  constructor
  · rintro ⟨a, b, d, rfl, ⟨x, p⟩, q⟩; exact ⟨x, a, b, d, rfl, p, q⟩
  · rintro ⟨x, a, b, d, rfl, p, q⟩; exact ⟨a, b, d, rfl, ⟨x, p⟩, q⟩
theorem hemp_mul (P : HP) : hemp * P = P := by
  ext h
  constructor
  · rintro ⟨a, b, d, rfl, rfl, q⟩; exact q
  · intro q; exact ⟨_, h, fun _ => .inl rfl, rfl, rfl, q⟩
theorem mul_hemp (P : HP) : P * hemp = P := by rw [HP.mul_comm, hemp_mul]

/-- The memory has the parts that P speaks of, beside others. -/
def Sat (A : AW) (P : HP) : Prop := ∃ h, P.holds h ∧ ∀ i o, h i = some o → A.get i = some o

def Ent (P Q : HP) : Prop := ∀ h, P.holds h → Q.holds h
theorem Ent.refl (P : HP) : Ent P P := fun _ h => h
theorem Ent.star {P P' Q Q' : HP} (h : Ent P P') (k : Ent Q Q') : Ent (P * Q) (P' * Q') := fun _ ⟨a, b, d, e, p, q⟩ => ⟨a, b, d, e, h a p, k b q⟩
theorem Ent.left {P P' : HP} (Q : HP) (h : Ent P P') : Ent (P * Q) (P' * Q) := Ent.star h (Ent.refl Q)

theorem Sat.ent {A : AW} {P Q : HP} (h : Sat A P) (e : Ent P Q) : Sat A Q := ⟨h.choose, e _ h.choose_spec.1, h.choose_spec.2⟩
theorem Sat.entl {A : AW} {P Q F : HP} (h : Sat A (P * F)) (e : Ent P Q) : Sat A (Q * F) := h.ent (e.left F)
theorem Sat.cast {A : AW} {P Q : HP} (h : Sat A P) (e : P = Q) : Sat A Q := e ▸ h
theorem Sat.right {A : AW} {P Q : HP} (h : Sat A (P * Q)) : Sat A Q := by
  obtain ⟨_, ⟨a, b, d, rfl, p, q⟩, hs⟩ := h
  refine ⟨b, q, fun i o hi => hs i o ?_⟩
  simp only [Hp.un]
  rcases d i with e | e
  · rw [e]; exact hi
  · rw [e] at hi; cases hi
theorem Sat.left {A : AW} {P Q : HP} (h : Sat A (P * Q)) : Sat A P := (h.cast (HP.mul_comm P Q)).right
theorem Sat.emp (A : AW) : Sat A hemp := ⟨_, rfl, fun i o h => by cases h⟩

theorem Sat.ex {α : Type} {A : AW} {P : α → HP} {F : HP} : Sat A (hex P * F) ↔ ∃ x, Sat A (P x * F) := by
  rw [hex_mul]
  constructor
  · rintro ⟨h, ⟨x, p⟩, hs⟩; exact ⟨x, h, p, hs⟩
  · rintro ⟨x, h, p, hs⟩; exact ⟨h, ⟨x, p⟩, hs⟩
theorem Sat.pr {A : AW} {p : Prop} {F : HP} : Sat A (hpr p * F) ↔ p ∧ Sat A F := by
  constructor
  · rintro ⟨h, hh, hs⟩; rw [hpr_mul] at hh; exact ⟨hh.1, h, hh.2, hs⟩
  · rintro ⟨hp, h, hh, hs⟩; exact ⟨h, hpr_mul.2 ⟨hp, hh⟩, hs⟩

theorem Sat.of_eq {A A' : AW} {P : HP} (h : Sat A P) (e : ∀ i o, A.get i = some o → A'.get i = some o) : Sat A' P :=
  ⟨h.choose, h.choose_spec.1, fun i o hi => e i o (h.choose_spec.2 i o hi)⟩
theorem Sat.le {A A' : AW} {P : HP} (h : Sat A P) (hw : A.Wf) (hl : A.le A') : Sat A' P := h.of_eq fun i o hi => hl.keep hw hi

theorem Sat.get {A : AW} {i : Nat} {o : AObj} {F : HP} (h : Sat A (pt i o * F)) : A.get i = some o := by
  obtain ⟨_, ⟨a, b, d, rfl, rfl, q⟩, hs⟩ := h
  exact hs i o (by simp [Hp.un])
theorem Sat.get1 {A : AW} {i : Nat} {o : AObj} (h : Sat A (pt i o)) : A.get i = some o := by
  obtain ⟨_, rfl, hs⟩ := h
  exact hs i o (by simp)
theorem Sat.ne {A : AW} {i j : Nat} {o o' : AObj} {F : HP} (h : Sat A (pt i o * (pt j o' * F))) : i ≠ j := by
  obtain ⟨_, ⟨a, _, d, rfl, rfl, b, c, d1, rfl, rfl, q⟩, hs⟩ := h
  rintro rfl
  rcases d i with e | e
  · simp at e
  · simp [Hp.un] at e

/-- What lies beside a place that turns stays as it is. -/
theorem Sat.beside {A A' : AW} {i : Nat} {o : AObj} {F : HP} (h : Sat A (pt i o * F)) (e : ∀ j o', j ≠ i → A.get j = some o' → A'.get j = some o') : Sat A' F := by
  obtain ⟨_, ⟨a, b, d, rfl, rfl, q⟩, hs⟩ := h
  refine ⟨b, q, fun j o' hj => ?_⟩
  have hji : j ≠ i := by
    rintro rfl
    rcases d j with e | e
    · simp at e
    · rw [e] at hj; cases hj
  refine e j o' hji (hs j o' ?_)
  simp [Hp.un, hji, hj]

theorem Sat.cons {A : AW} {i : Nat} {o : AObj} {F : HP} (hg : A.get i = some o) (h : Sat (A.set i none) F) : Sat A (pt i o * F) := by
  obtain ⟨b, q, hs⟩ := h
  have hb : b i = none := by
    cases hbi : b i with
    | none => rfl
    | some x => have := hs i x hbi; simp at this
  refine ⟨_, ⟨_, b, fun j => ?_, rfl, rfl, q⟩, fun j o' hj => ?_⟩
  · by_cases e : j = i
    · subst e; exact .inr hb
    · exact .inl (by simp [e])
  · by_cases e : j = i
    · subst e; simp [Hp.un] at hj; rw [hg, hj]
    · simp [Hp.un, e] at hj
      have := hs j o' hj
      rwa [AW.set_get_ne e] at this

theorem Sat.set {A : AW} {i : Nat} {o : AObj} {F : HP} (h : Sat A (pt i o * F)) (o' : AObj) : Sat (A.set i (some o')) (pt i o' * F) := by
  refine Sat.cons AW.set_get_same (h.beside fun j x hj hx => ?_)
  rw [AW.set_get_ne hj, AW.set_get_ne hj]
  exact hx
theorem Sat.kill {A : AW} {i : Nat} {o : AObj} {F : HP} (h : Sat A (pt i o * F)) : Sat (A.set i none) F :=
  h.beside fun j x hj hx => by rw [AW.set_get_ne hj]; exact hx
theorem Sat.alloc {A : AW} {F : HP} (h : Sat A F) (hw : A.Wf) (o : AObj) : Sat (A.alloc o) (pt A.next o * F) := by
  refine Sat.cons (AW.alloc_get_new A o) (h.of_eq fun j x hx => ?_)
  have := hw.lt hx
  rw [AW.set_get_ne (by omega), AW.alloc_get_old _ _ (by omega)]
  exact hx
theorem Sat.keep {A : AW} {F : HP} (h : Sat A F) (hw : A.Wf) (o : AObj) : Sat (A.alloc o) F := (h.alloc hw o).right

theorem Sat.ne2 {A : AW} {i j : Nat} {o o' : AObj} {P F : HP} (h : Sat A (pt i o * (P * (pt j o' * F)))) : i ≠ j :=
  Sat.ne (h.cast (by ac_rfl : pt i o * (P * (pt j o' * F)) = pt i o * (pt j o' * (P * F))))
theorem AW.get_alloc (A : AW) (o : AObj) (i : Nat) : (A.alloc o).get i = if i = A.next then some o else A.get i := rfl
theorem AW.get_set (A : AW) (o : Option AObj) (i j : Nat) : (A.set i o).get j = if j = i then o else A.get j := rfl
theorem AW.row_get (A : AW) (i : Nat) : A.row i = match A.get i with | some (.cells cs _ _) => some cs | _ => none := rfl
/-- A block that is there is none of those to come. -/
theorem AW.Wf.old {A : AW} (hw : A.Wf) {i : Nat} {o : AObj} (hg : A.get i = some o) : (i = A.next) = False ∧ ∀ k, (i = A.next + k) = False := by
  have := hw.lt hg
  exact ⟨eq_false (by omega), fun k => eq_false (by omega)⟩

theorem Sat.post {A : AW} {p : Prop} {Q F : HP} (hp : p) (h : Sat A (Q * F)) : Sat A (hpr p * Q * F) := by
  rw [HP.mul_assoc, Sat.pr]; exact ⟨hp, h⟩
theorem Sat.post1 {A : AW} {p : Prop} {F : HP} (hp : p) (h : Sat A F) : Sat A (hpr p * F) := Sat.pr.2 ⟨hp, h⟩
theorem Sat.unpost {A : AW} {p : Prop} {Q F : HP} (h : Sat A (hpr p * Q * F)) : p ∧ Sat A (Q * F) := by
  rw [HP.mul_assoc, Sat.pr] at h; exact h

theorem Sat.upd1 {A A' : AW} {b : Nat} {o o' : AObj} {F : HP} (h : Sat A (pt b o * F)) (h1 : A'.get b = some o') (hk : ∀ j x, j ≠ b → A.get j = some x → A'.get j = some x) : Sat A' (pt b o' * F) :=
  Sat.cons h1 (h.beside fun j x hj hx => by rw [AW.set_get_ne hj]; exact hk j x hj hx)
theorem Sat.upd2 {A A' : AW} {b c : Nat} {o o' p p' : AObj} {F : HP} (h : Sat A (pt b o * (pt c p * F))) (h1 : A'.get b = some o') (h2 : A'.get c = some p')
    (hk : ∀ j x, j ≠ b → j ≠ c → A.get j = some x → A'.get j = some x) : Sat A' (pt b o' * (pt c p' * F)) := by
  have hbc := h.ne
  have e1 : Sat (A'.set b (some o)) (pt b o * (pt c p' * F)) := by
    have h' : Sat A (pt c p * (pt b o * F)) := h.cast (by ac_rfl)
    refine (Sat.upd1 h' (by rw [AW.set_get_ne (Ne.symm hbc)]; exact h2) fun j x hj hx => ?_).cast (by ac_rfl)
    by_cases e : j = b
    · subst e; rw [AW.set_get_same]; rw [h.get] at hx; exact hx
    · rw [AW.set_get_ne e]; exact hk j x e hj hx
  exact Sat.upd1 e1 h1 fun j x hj hx => by rwa [AW.set_get_ne hj] at hx
theorem Sat.upd3 {A A' : AW} {b c d : Nat} {o o' p p' q q' : AObj} {F : HP} (h : Sat A (pt b o * (pt c p * (pt d q * F)))) (h1 : A'.get b = some o') (h2 : A'.get c = some p') (h3 : A'.get d = some q')
    (hk : ∀ j x, j ≠ b → j ≠ c → j ≠ d → A.get j = some x → A'.get j = some x) : Sat A' (pt b o' * (pt c p' * (pt d q' * F))) := by
  have hbc := h.ne
  have hbd := h.ne2
  have e1 : Sat (A'.set b (some o)) (pt b o * (pt c p' * (pt d q' * F))) := by
    have h' : Sat A (pt c p * (pt d q * (pt b o * F))) := h.cast (by ac_rfl)
    refine (Sat.upd2 h' (by rw [AW.set_get_ne (Ne.symm hbc)]; exact h2) (by rw [AW.set_get_ne (Ne.symm hbd)]; exact h3) fun j x hj hj2 hx => ?_).cast (by ac_rfl)
    by_cases e : j = b
    · subst e; rw [AW.set_get_same]; rw [h.get] at hx; exact hx
    · rw [AW.set_get_ne e]; exact hk j x e hj hj2 hx
  exact Sat.upd1 e1 h1 fun j x hj hx => by rwa [AW.set_get_ne hj] at hx
theorem Sat.upd4 {A A' : AW} {b c d e : Nat} {o o' p p' q q' r r' : AObj} {F : HP} (h : Sat A (pt b o * (pt c p * (pt d q * (pt e r * F))))) (h1 : A'.get b = some o') (h2 : A'.get c = some p') (h3 : A'.get d = some q') (h4 : A'.get e = some r')
    (hk : ∀ j x, j ≠ b → j ≠ c → j ≠ d → j ≠ e → A.get j = some x → A'.get j = some x) : Sat A' (pt b o' * (pt c p' * (pt d q' * (pt e r' * F)))) := by
  have hbc := h.ne
  have hbd := h.ne2
  have hbe : b ≠ e := Sat.ne2 (P := pt c p * pt d q) (F := F) (h.cast (by ac_rfl))
  have e1 : Sat (A'.set b (some o)) (pt b o * (pt c p' * (pt d q' * (pt e r' * F)))) := by
    have h' : Sat A (pt c p * (pt d q * (pt e r * (pt b o * F)))) := h.cast (by ac_rfl)
    refine (Sat.upd3 h' (by rw [AW.set_get_ne (Ne.symm hbc)]; exact h2) (by rw [AW.set_get_ne (Ne.symm hbd)]; exact h3) (by rw [AW.set_get_ne (Ne.symm hbe)]; exact h4) fun j x hj hj2 hj3 hx => ?_).cast (by ac_rfl)
    by_cases e : j = b
    · subst e; rw [AW.set_get_same]; rw [h.get] at hx; exact hx
    · rw [AW.set_get_ne e]; exact hk j x e hj hj2 hj3 hx
  exact Sat.upd1 e1 h1 fun j x hj hx => by rwa [AW.set_get_ne hj] at hx

/-- What is left when a function ends: one place turned, the places of its own variables forgotten. -/
theorem Sat.fin10 {A A' : AW} {b : Nat} {o o' : AObj} {F : HP} (h : Sat A (pt b o * F)) (h1 : A'.get b = some o') (hk : ∀ j x, j ≠ b → A.get j = some x → A'.get j = some x) : Sat A' (pt b o' * F) := h.upd1 h1 hk
theorem Sat.fin11 {A A' : AW} {b c : Nat} {o o' p : AObj} {F : HP} (h : Sat A (pt b o * (pt c p * F))) (h1 : A'.get b = some o') (hk : ∀ j x, j ≠ b → j ≠ c → A.get j = some x → A'.get j = some x) : Sat A' (pt b o' * F) := by
  have hbc := h.ne
  have h' : Sat A (pt c p * (pt b o * F)) := h.cast (by ac_rfl)
  have e1 : Sat (A'.set b (some o)) (pt b o * F) := h'.beside fun j x hj hx => by
    by_cases e : j = b
    · subst e; rw [AW.set_get_same]; rw [h.get] at hx; exact hx
    · rw [AW.set_get_ne e]; exact hk j x e hj hx
  exact Sat.upd1 e1 h1 fun j x hj hx => by rwa [AW.set_get_ne hj] at hx
theorem Sat.fin12 {A A' : AW} {b c d : Nat} {o o' p q : AObj} {F : HP} (h : Sat A (pt b o * (pt c p * (pt d q * F)))) (h1 : A'.get b = some o') (hk : ∀ j x, j ≠ b → j ≠ c → j ≠ d → A.get j = some x → A'.get j = some x) : Sat A' (pt b o' * F) := by
  have hbc := h.ne
  have hbd := h.ne2
  have hcd := h.right.ne
  have e1 : Sat (A'.set c (some p)) (pt b o' * (pt c p * F)) := by
    refine (Sat.fin11 (b := b) (c := d) (o := o) (p := q) (F := pt c p * F) (h.cast (by ac_rfl)) (by rw [AW.set_get_ne hbc]; exact h1) fun j x hj hj2 hx => ?_)
    by_cases e : j = c
    · subst e; rw [AW.set_get_same]; rw [h.right.get] at hx; exact hx
    · rw [AW.set_get_ne e]; exact hk j x hj e hj2 hx
  have e2 : Sat (A'.set c (some p)) (pt c p * (pt b o' * F)) := e1.cast (by ac_rfl)
  exact e2.beside fun j x hj hx => by rwa [AW.set_get_ne hj] at hx
theorem Sat.fin01 {A A' : AW} {c : Nat} {p : AObj} {F : HP} (h : Sat A (pt c p * F)) (hk : ∀ j x, j ≠ c → A.get j = some x → A'.get j = some x) : Sat A' F := h.beside hk
theorem Sat.fin02 {A A' : AW} {c d : Nat} {p q : AObj} {F : HP} (h : Sat A (pt c p * (pt d q * F))) (hk : ∀ j x, j ≠ c → j ≠ d → A.get j = some x → A'.get j = some x) : Sat A' F := by
  have hcd := h.ne
  have h' : Sat A (pt d q * (pt c p * F)) := h.cast (by ac_rfl)
  have e1 : Sat (A'.set c (some p)) (pt c p * F) := h'.beside fun j x hj hx => by
    by_cases e : j = c
    · subst e; rw [AW.set_get_same]; rw [h.get] at hx; exact hx
    · rw [AW.set_get_ne e]; exact hk j x e hj hx
  exact e1.beside fun j x hj hx => by rwa [AW.set_get_ne hj] at hx

/-- The memory at hand under a name of its own. -/
theorem awp_gen {P : Program} {n : Nat} {c : Code} {Q : Exit → Fr → AW → Prop} {a : Fr} {A : AW} (J : AW → Prop) (hJ : J A) (h : ∀ A', J A' → AWP P n c Q a A') : AWP P n c Q a A := h A hJ

/-- A loop of few rounds, round by round. -/
def ARounds (P : Program) (n : Nat) (c : Code) (Q : Exit → Fr → AW → Prop) : Nat → Fr → AW → Prop
  | 0, _, _ => False
  | k + 1, a, A => AWP P n c (AThen (ARounds P n c Q k) Q) a A
theorem awp_rounds {P : Program} {n : Nat} {c : Code} {Q : Exit → Fr → AW → Prop} {a : Fr} {A : AW} (k : Nat) (h : ARounds P n c Q k a A) : AWP P n (.loop c) Q a A := by
  refine awp_loop (ARounds P n c Q) k h ?_
  intro k a A h
  cases k with
  | zero => exact h.elim
  | succ k => exact awp_mono h fun e a A hh => by cases e <;> first | exact ⟨k, Nat.lt_succ_self k, hh⟩ | exact hh
theorem arounds_step {P : Program} {n : Nat} {c : Code} {Q : Exit → Fr → AW → Prop} {a : Fr} {A : AW} {k : Nat} (h : AWP P n c (AThen (ARounds P n c Q k) Q) a A) : ARounds P n c Q (k + 1) a A := h

/-! ### Contracts -/

/-- A call that needs what P says, and leaves what Q says: whatever lies beside it stays. -/
def SCall (P : Program) (f : FuncId) (args : List Value) (pre : HP) (post : Value → HP) : Prop :=
  ∀ (A : AW) (F : HP), A.Wf → Sat A (pre * F) → ACall P f args A fun v A' => Sat A' (post v * F)

theorem SCall.use {P : Program} {f : FuncId} {args : List Value} {pre : HP} {post : Value → HP} (h : SCall P f args pre post) {A : AW} {G F : HP} (hw : A.Wf) (hs : Sat A G) (e : G = pre * F) {k : Value → AW → Prop}
    (hk : ∀ v A', Sat A' (post v * F) → A'.Wf → A.next ≤ A'.next → k v A') : ACall P f args A k :=
  callK (h A F hw (hs.cast e)) hk

end Go.Stx

namespace Go.Stx
open Go
variable [Gl]
set_option linter.unusedSectionVars false
set_option linter.unusedVariables false

/-- The value speaks of no block from n on. -/
def VBelow (n : Nat) (v : Value) : Prop := ∀ (m m' : Mp) (x : Value), VRel m v x → (∀ i, i < n → m' i = m i) → VRel m' v x

theorem VBelow.of_scalar {n : Nat} {v : Value} (h : scalarV v = true) : VBelow n v := fun m m' x hx _ => by
  have := hx.eq_of_scalar h
  subst this
  exact .of_scalar h m'
theorem VBelow.ptrNone {n : Nat} : VBelow n (.pointer none) := fun m m' x hx _ => by cases hx; constructor
theorem VBelow.sliceNone {n a b : Nat} : VBelow n (.slice none a b) := fun m m' x hx _ => by cases hx; constructor
theorem VBelow.mapNone {n : Nat} : VBelow n (.map none) := fun m m' x hx _ => by cases hx; constructor
theorem VBelow.nilFunc {n : Nat} : VBelow n .nilFunc := fun m m' x hx _ => by cases hx; constructor
theorem VBelow.nilIface {n : Nat} : VBelow n .nilIface := fun m m' x hx _ => by cases hx; constructor
theorem VBelow.ptr {n : Nat} {a : Addr} (h : a.block < n) : VBelow n (.pointer (some a)) := fun m m' x hx e => by
  cases hx with
  | ptr h' =>
    obtain ⟨h1, h2, p, h3, h4⟩ := h'
    exact .ptr ⟨h1, h2, p, by rw [e _ h]; exact h3, h4⟩
theorem VBelow.map {n r : Nat} (h : r < n) : VBelow n (.map (some r)) := fun m m' x hx e => by
  cases hx with
  | map h' =>
    obtain ⟨p, h3, h4⟩ := h'
    exact .map ⟨p, by rw [e _ h]; exact h3, h4⟩
theorem VBelow.slice {n a b : Nat} {p : Addr} (h : p.block < n) : VBelow n (.slice (some p) a b) := fun m m' x hx e => by
  cases hx with
  | slice h' g1 g2 =>
    refine .slice ?_ g1 g2
    rcases h' with ⟨h1, h2, q, h3, h4⟩ | ⟨h1, h2, h3⟩
    · exact .inl ⟨h1, h2, q, by rw [e _ h]; exact h3, h4⟩
    · exact .inr ⟨h1, h2, h3.imp id fun k => by rw [e _ h]; exact k⟩
theorem VBelow.iface {n : Nat} {t : TypeId} {v : Value} (h : VBelow n v) : VBelow n (.iface t v) := fun m m' x hx e => by
  cases hx with
  | iface _ h' => exact .iface t (h m m' _ h' e)
theorem VBelow.agg {n : Nat} {vs : Array Value} (h : ∀ v ∈ vs.toList, VBelow n v) : VBelow n (.agg vs) := fun m m' x hx e => by
  cases hx with
  | agg h1 h2 => exact .agg h1 fun i v v' e1 e2 => h v (Array.mem_toList_iff.2 (Array.mem_of_getElem? e1)) m m' v' (h2 i v v' e1 e2) e
theorem VBelow.tuple {n : Nat} {vs : Array Value} (h : ∀ v ∈ vs.toList, VBelow n v) : VBelow n (.tuple vs) := fun m m' x hx e => by
  cases hx with
  | tuple h1 h2 => exact .tuple h1 fun i v v' e1 e2 => h v (Array.mem_toList_iff.2 (Array.mem_of_getElem? e1)) m m' v' (h2 i v v' e1 e2) e
theorem VBelow.func {n : Nat} {fn : Fn} {xs ys : Array Value} (h : ∀ v ∈ xs.toList, VBelow n v) (k : ∀ v ∈ ys.toList, VBelow n v) : VBelow n (.func fn xs ys) := fun m m' x hx e => by
  cases hx with
  | func _ h1 h2 h3 h4 =>
    exact .func fn h1 h2 (fun i v v' e1 e2 => h v (Array.mem_toList_iff.2 (Array.mem_of_getElem? e1)) m m' v' (h3 i v v' e1 e2) e)
      (fun i v v' e1 e2 => k v (Array.mem_toList_iff.2 (Array.mem_of_getElem? e1)) m m' v' (h4 i v v' e1 e2) e)
@[simp] theorem VBelow.int {n : Nat} {k : IntKind} {x : Int} : VBelow n (.int k x) := fun m m' x hx _ => by cases hx; constructor
@[simp] theorem VBelow.bool {n : Nat} {x : Bool} : VBelow n (.bool x) := fun m m' x hx _ => by cases hx; constructor
@[simp] theorem VBelow.string {n : Nat} {x : ByteArray} : VBelow n (.string x) := fun m m' x hx _ => by cases hx; constructor
attribute [simp] VBelow.ptrNone VBelow.sliceNone VBelow.mapNone VBelow.nilFunc VBelow.nilIface

theorem ARel.restrict {m m' : Mp} {a a' : Addr} (h : ARel m a a') (e : ∀ p, m a.block = some p → m' a.block = some p) : ARel m' a a' := by
  obtain ⟨h1, h2, p, h3, h4⟩ := h
  exact ⟨h1, h2, p, e p h3, h4⟩
theorem SRel.restrict {m m' : Mp} {a a' : Addr} {c : Nat} (h : SRel m a a' c) (e : ∀ p, m a.block = some p → m' a.block = some p) : SRel m' a a' c := by
  obtain ⟨h1, h2, p, h3, h4⟩ := h
  exact ⟨h1, h2, p, e p h3, h4⟩

/-- What m relates is within m's blocks: any later map that agrees there relates it as well. -/
theorem VRel.within {m m1 m2 : Mp} (hag : ∀ i, m i ≠ none → m2 i = m1 i) {v x : Value} (h : VRel m v x) : ∀ y, VRel m1 v y → VRel m2 v y := by
  have some_ne : ∀ {i : Nat} {p : Pl}, m i = some p → m2 i = m1 i := fun h => hag _ (by rw [h]; exact Option.some_ne_none _)
  induction h with
  | bool b => intro y hy; cases hy; constructor
  | int k n => intro y hy; cases hy; constructor
  | float k n => intro y hy; cases hy; constructor
  | complex k x y => intro y hy; cases hy; constructor
  | string s => intro y hy; cases hy; constructor
  | ptrNone => intro y hy; cases hy; constructor
  | ptr h =>
    intro y hy
    obtain ⟨_, _, p, hp, _⟩ := h
    cases hy with
    | ptr h' => exact .ptr (h'.restrict fun q hq => by rw [some_ne hp]; exact hq)
  | sliceNone => intro y hy; cases hy; constructor
  | slice h h1 h2 =>
    intro y hy
    cases hy with
    | slice h' h1' h2' =>
      rename_i a _ _ _ _ _ _
      have key : m2 a.block = m1 a.block ∨ a.spot.isSome = true := by
        rcases h with ⟨hs0, _, p, hp, _⟩ | ⟨hl, _, hsp | hb⟩
        · exact .inl (some_ne hp)
        · exact .inr hsp
        · exact .inl (hag _ hb)
      rcases key with hb | hsp
      · refine .slice ?_ h1' h2'
        rcases h' with s | ⟨e1, e2, e3⟩
        · exact .inl (s.restrict fun q hq => by rw [hb]; exact hq)
        · exact .inr ⟨e1, e2, e3.imp id fun e => by rw [hb]; exact e⟩
      · refine .slice ?_ h1' h2'
        rcases h' with s | ⟨e1, e2, e3⟩
        · have := s.1
          rw [this] at hsp
          cases hsp
        · exact .inr ⟨e1, e2, .inl hsp⟩
  | mapNone => intro y hy; cases hy; constructor
  | map h =>
    intro y hy
    obtain ⟨p, hp, _⟩ := h
    cases hy with
    | map h' =>
      obtain ⟨q, hq, e⟩ := h'
      exact .map ⟨q, by rw [some_ne hp]; exact hq, e⟩
  | chanNone => intro y hy; cases hy; constructor
  | func fn hx hy h1 h2 ih1 ih2 =>
    intro y hy'
    rename_i x x' z z'
    cases hy' with
    | func _ kx ky g1 g2 =>
      refine .func fn kx ky (fun i v v' e1 e2 => ?_) (fun i v v' e1 e2 => ?_)
      · have hlt : i < x'.size := by rw [← hx]; exact (Array.getElem?_eq_some_iff.1 e1).1
        exact ih1 i v _ e1 (Array.getElem?_eq_getElem hlt) v' (g1 i v v' e1 e2)
      · have hlt : i < z'.size := by rw [← hy]; exact (Array.getElem?_eq_some_iff.1 e1).1
        exact ih2 i v _ e1 (Array.getElem?_eq_getElem hlt) v' (g2 i v v' e1 e2)
  | nilFunc => intro y hy; cases hy; constructor
  | iface t _ ih => intro y hy; cases hy with | iface _ h' => exact .iface t (ih _ h')
  | nilIface => intro y hy; cases hy; constructor
  | agg hx _ ih =>
    intro y hy'
    rename_i x x' _
    cases hy' with
    | agg kx g1 =>
      refine .agg kx (fun i v v' e1 e2 => ?_)
      have hlt : i < x'.size := by rw [← hx]; exact (Array.getElem?_eq_some_iff.1 e1).1
      exact ih i v _ e1 (Array.getElem?_eq_getElem hlt) v' (g1 i v v' e1 e2)
  | tuple hx _ ih =>
    intro y hy'
    rename_i x x' _
    cases hy' with
    | tuple kx g1 =>
      refine .tuple kx (fun i v v' e1 e2 => ?_)
      have hlt : i < x'.size := by rw [← hx]; exact (Array.getElem?_eq_some_iff.1 e1).1
      exact ih i v _ e1 (Array.getElem?_eq_getElem hlt) v' (g1 i v v' e1 e2)

def OBelow (n : Nat) : AObj → Prop
  | .cells cs _ _ => ∀ c ∈ cs, VBelow n c
  | .map es _ => ∀ e ∈ es, VBelow n e.1 ∧ VBelow n e.2

/-- The memory behind the call, without what nobody holds. -/
theorem ACall.gc {P : Program} {f : FuncId} {args : List Value} {A X : AW} {V : Value} (hX : X.next = A.next) (hV : VBelow A.next V)
    (hO : ∀ i o, X.get i = some o → i < A.next ∧ (A.get i = some o ∨ OBelow A.next o))
    (h : ACall P f args A fun v A' => v = V ∧ ∀ i o, X.get i = some o → A'.get i = some o) : ACall P f args A fun v A' => v = V ∧ X = A' := by
  refine ⟨h.1, fun m w cargs hs hl => (h.2 m w cargs hs hl).mono ?_⟩
  rintro e w' ⟨v, v', m', A', rfl, ev, hv, rfl, hg⟩
  let m2 : Mp := fun i => if i < A.next then m' i else none
  have hlow : ∀ i, m i ≠ none → i < A.next := fun i hi => by
    rcases Nat.lt_or_ge i A.next with h | h
    · exact h
    · exact absurd (hs.fresh i h) hi
  have h2 : ∀ i, i < A.next → m2 i = m' i := fun i hi => if_pos hi
  have hle : Mp.le m m2 := fun i p hi => by
    have := hlow i (by rw [hi]; exact Option.some_ne_none _)
    rw [h2 i this]
    exact ev.ext i p hi
  have hbel : ∀ {u x : Value}, VBelow A.next u → VRel m' u x → VRel m2 u x := fun hb hr => hb m' m2 _ hr h2
  have hag : ∀ i, m i ≠ none → m2 i = m' i := fun i hi => h2 i (hlow i hi)
  refine ⟨v, v', m2, X, rfl, ⟨hle, ⟨?_, ?_, ?_, ?_, ev.sim.laid, fun i o p hi how hmi => ev.sim.lown i o p (hg i o hi) how (by rw [← h2 i (hO i o hi).1]; exact hmi), hs.glob.mono hle⟩, by omega, ev.os, ev.tape, ev.output, ev.size, ev.out, ?_, fun i hi => (h2 i hi).trans (ev.keep i hi), ?_⟩, hbel hV hv, rfl, rfl⟩
  · intro i o hi
    obtain ⟨p, hp, hm⟩ := ev.sim.obj i o (hg i o hi)
    obtain ⟨hlt, hor⟩ := hO i o hi
    refine ⟨p, by rw [h2 i hlt]; exact hp, ?_⟩
    rcases hor with hA | hB
    · obtain ⟨p0, hp0, hm0⟩ := hs.obj i o hA
      cases o with
      | cells cs own u =>
        obtain ⟨cur, e1, fr, g1, g2, g3, g4, g5⟩ := hm
        obtain ⟨_, _, _, _, _, _, _, k5⟩ := hm0
        refine ⟨cur, e1, fr, g1, g2, g3, g4, fun k u hu => ?_⟩
        obtain ⟨y, hy, hr⟩ := g5 k u hu
        obtain ⟨x, _, hr0⟩ := k5 k u hu
        exact ⟨y, hy, hr0.within hag y hr⟩
      | map es own =>
        obtain ⟨ents, clock, es', gp, g1, g2, g3⟩ := hm
        obtain ⟨ents0, _, es0, kp, _, k2, k3⟩ := hm0
        refine ⟨ents, clock, es', gp, g1, g2, fun k x e hx he => ?_⟩
        obtain ⟨k0, hk0⟩ := List.mem_iff_getElem?.1 ((kp.mem_iff).1 ((gp.mem_iff).2 (List.mem_of_getElem? hx)))
        have hlt : k0 < ents0.size := by rw [← k2]; exact (List.getElem?_eq_some_iff.1 hk0).1
        have q := k3 k0 x _ hk0 (Array.getElem?_eq_getElem hlt)
        have r := g3 k x e hx he
        exact ⟨q.1.within hag _ r.1, q.2.within hag _ r.2⟩
    · cases o with
      | cells cs own u =>
        obtain ⟨cur, e1, fr, g1, g2, g3, g4, g5⟩ := hm
        refine ⟨cur, e1, fr, g1, g2, g3, g4, fun k u hu => ?_⟩
        obtain ⟨y, hy, hr⟩ := g5 k u hu
        exact ⟨y, hy, hbel (hB u (List.mem_of_getElem? hu)) hr⟩
      | map es own =>
        obtain ⟨ents, clock, es', gp, g1, g2, g3⟩ := hm
        refine ⟨ents, clock, es', gp, g1, g2, fun k x e hx he => ?_⟩
        have r := g3 k x e hx he
        have b := hB x ((gp.mem_iff).2 (List.mem_of_getElem? hx))
        exact ⟨hbel b.1 r.1, hbel b.2 r.2⟩
  · intro i j o o' p p' hi ho hj hne hpi hpj
    rw [h2 i (hO i o hi).1] at hpi
    rw [h2 j (hO j o' hj).1] at hpj
    exact ev.sim.inj i j o o' p p' (hg i o hi) ho (hg j o' hj) hne hpi hpj
  · intro i hi
    exact if_neg (by omega)
  · intro i hi
    cases hx : X.get i with
    | none => rfl
    | some o => have := (hO i o hx).1; omega
  · rintro b ⟨i, o, p, hi, ho, hp, hb⟩
    rw [h2 i (hO i o hi).1] at hp
    exact ev.grow b ⟨i, o, p, hg i o hi, ho, hp, hb⟩
  · rintro b ⟨i, o, p, hi, hp, hb⟩
    rw [h2 i (hO i o hi).1] at hp
    exact ev.used b ⟨i, o, p, hg i o hi, hp, hb⟩

/-- A call that leaves all as it was, and whose answer speaks of nothing new. -/
theorem ACall.gc0 {P : Program} {f : FuncId} {args : List Value} {A : AW} {V : Value} (hV : VBelow A.next V)
    (h : A.Wf → ACall P f args A fun v A' => v = V ∧ A.le A') (hc : callable P f = true) : ACall P f args A fun v A' => v = V ∧ A = A' := by
  have key : A.Wf → ACall P f args A fun v A' => v = V ∧ A = A' := fun hw =>
    ACall.gc rfl hV (fun i o hi => ⟨hw.lt hi, .inl hi⟩) ((h hw).mono fun v A' ⟨h1, h2⟩ => ⟨h1, fun i o hi => h2.keep hw hi⟩)
  exact ⟨hc, fun m w cargs hs hl => (key hs.low).2 m w cargs hs hl⟩

/-- One object turned, all else as it was. -/
theorem ACall.gc1 {P : Program} {f : FuncId} {args : List Value} {A : AW} {V : Value} {b : Nat} {o1 : AObj} (hw : A.Wf) (hb : b < A.next) (hV : VBelow A.next V) (hO : OBelow A.next o1)
    (h : ACall P f args A fun v A' => v = V ∧ ∀ i o, (A.set b (some o1)).get i = some o → A'.get i = some o) : ACall P f args A fun v A' => v = V ∧ A.set b (some o1) = A' := by
  refine ACall.gc (AW.set_next _ _ _) hV (fun i o hi => ?_) h
  by_cases e : i = b
  · subst e
    rw [AW.set_get_same] at hi
    injection hi with hi
    subst hi
    exact ⟨hb, .inr hO⟩
  · rw [AW.set_get_ne e] at hi
    exact ⟨hw.lt hi, .inl hi⟩

end Go.Stx

namespace Go.Stx
open Go
variable [Gl]
set_option linter.unusedSectionVars false
set_option linter.unusedVariables false

/-- v is nil, or a slice of n elements of 'size' cells, whose cells are cs, over a row that is held alone. -/
def RowH (size : Nat) (v : Value) (n : Nat) (cs : List Value) : HP :=
  ⟨fun h => (v = .slice none 0 0 ∧ n = 0 ∧ cs = [] ∧ h = fun _ => none) ∨
    ∃ b off c row, v = .slice (some ⟨b, off, none⟩) n c ∧ n ≤ c ∧ off + n * size ≤ row.length ∧ cs = (row.drop off).take (n * size) ∧
      h = fun j => if j = b then some (.cells row true size) else none⟩

def IntsH (k : IntKind) (v : Value) (l : List Int) : HP := RowH 1 v l.length (l.map (Value.int k))

theorem RowH.cases {A : AW} {size n : Nat} {v : Value} {cs : List Value} {F : HP} (h : Sat A (RowH size v n cs * F)) :
    (v = .slice none 0 0 ∧ n = 0 ∧ cs = [] ∧ Sat A F) ∨
    ∃ b off c row, v = .slice (some ⟨b, off, none⟩) n c ∧ n ≤ c ∧ off + n * size ≤ row.length ∧ cs = (row.drop off).take (n * size) ∧ Sat A (pt b (.cells row true size) * F) := by
  obtain ⟨_, ⟨a, b, d, rfl, p, q⟩, hs⟩ := h
  rcases p with ⟨h1, h2, h3, rfl⟩ | ⟨b', off, c, row, h1, h2, h3, h4, rfl⟩
  · exact .inl ⟨h1, h2, h3, b, q, hs⟩
  · exact .inr ⟨b', off, c, row, h1, h2, h3, h4, _, ⟨_, b, d, rfl, rfl, q⟩, hs⟩

theorem RowH.nil {A : AW} {size : Nat} {F : HP} (h : Sat A F) : Sat A (RowH size (.slice none 0 0) 0 [] * F) := by
  obtain ⟨x, p, hs⟩ := h
  exact ⟨x, ⟨_, x, fun _ => .inl rfl, rfl, .inl ⟨rfl, rfl, rfl, rfl⟩, p⟩, hs⟩

theorem RowH.mk {A : AW} {size n b off c : Nat} {row cs : List Value} {F : HP} (hc : n ≤ c) (h1 : off + n * size ≤ row.length) (h2 : cs = (row.drop off).take (n * size))
    (h : Sat A (pt b (.cells row true size) * F)) : Sat A (RowH size (.slice (some ⟨b, off, none⟩) n c) n cs * F) :=
  h.entl fun x hx => .inr ⟨b, off, c, row, rfl, hc, h1, h2, hx⟩

theorem RowH.own {A : AW} {size n : Nat} {v : Value} {cs : List Value} {F : HP} (h : Sat A (RowH size v n cs * F)) : OwnSl 0 A size v n cs := by
  rcases RowH.cases h with ⟨rfl, rfl, rfl, _⟩ | ⟨b, off, c, row, rfl, h1, h2, h3, h4⟩
  · exact .inl ⟨rfl, rfl, rfl⟩
  · exact .inr ⟨⟨b, off, none⟩, c, row, rfl, h1, rfl, Nat.zero_le _, h4.get, h2, h3⟩
theorem RowH.is {A : AW} {size n : Nat} {v : Value} {cs : List Value} {F : HP} (h : Sat A (RowH size v n cs * F)) : IsSl A size v n cs := (RowH.own h).is
theorem IntsH.own {A : AW} {k : IntKind} {v : Value} {l : List Int} {F : HP} (h : Sat A (IntsH k v l * F)) : OwnInts 0 A k v l := RowH.own h
theorem IntsH.is {A : AW} {k : IntKind} {v : Value} {l : List Int} {F : HP} (h : Sat A (IntsH k v l * F)) : IsInts A k v l := RowH.is h
theorem IntsH.nil {A : AW} {k : IntKind} {F : HP} (h : Sat A F) : Sat A (IntsH k (.slice none 0 0) [] * F) := RowH.nil h

theorem IntsH.mk {A : AW} {k : IntKind} {b off c n : Nat} {row : List Value} {l : List Int} {F : HP} (hn : n = l.length) (hc : l.length ≤ c) (h1 : off + l.length ≤ row.length) (h2 : l.map (Value.int k) = (row.drop off).take l.length)
    (h : Sat A (pt b (.cells row true 1) * F)) : Sat A (IntsH k (.slice (some ⟨b, off, none⟩) n c) l * F) := by
  subst hn
  exact RowH.mk hc (by simpa using h1) (by simpa using h2) h

/-- What a call has made. -/
theorem RowH.of_own {A A' : AW} {size n : Nat} {v : Value} {cs : List Value} {F : HP} (h : Sat A F) (hw : A.Wf) (hl : A.le A') (ho : OwnSl A.next A' size v n cs) : Sat A' (RowH size v n cs * F) := by
  rcases ho with ⟨rfl, rfl, rfl⟩ | ⟨p, c, row, rfl, h1, hs, hB, hg, h2, h3⟩
  · exact RowH.nil (h.le hw hl)
  · obtain ⟨b, o, s⟩ := p
    simp only at hs hB hg h2 h3
    subst hs
    refine RowH.mk h1 h2 h3 (Sat.cons hg (h.of_eq fun i o hi => ?_))
    have := hw.lt hi
    rw [AW.set_get_ne (by omega)]
    exact hl.keep hw hi
theorem IntsH.of_own {A A' : AW} {k : IntKind} {v : Value} {l : List Int} {F : HP} (h : Sat A F) (hw : A.Wf) (hl : A.le A') (ho : OwnInts A.next A' k v l) : Sat A' (IntsH k v l * F) := RowH.of_own h hw hl ho

/-- The place of an element. -/
theorem IntsH.at {A : AW} {k : IntKind} {v : Value} {l : List Int} {F : HP} (h : Sat A (IntsH k v l * F)) {j : Nat} (hj : j < l.length) :
    ∃ b off c row, v = .slice (some ⟨b, off, none⟩) l.length c ∧ l.length ≤ c ∧ A.get b = some (.cells row true 1) ∧ row[off + j]? = some (.int k l[j]) ∧ off + l.length ≤ row.length ∧
      ∀ y, Sat (A.set b (some (.cells (row.set (off + j) (.int k y)) true 1))) (IntsH k v (l.set j y) * F) := by
  rcases RowH.cases h with ⟨_, h0, _⟩ | ⟨b, off, c, row, rfl, h1, h2, h3, h4⟩
  · omega
  · rw [Nat.mul_one] at h2 h3
    have hcell : ∀ q, q < l.length → row[off + q]? = (l.map (Value.int k))[q]? := fun q hq => by
      rw [h3, List.getElem?_take_of_lt hq, List.getElem?_drop]
    refine ⟨b, off, c, row, rfl, h1, h4.get, by rw [hcell j hj, List.getElem?_map, List.getElem?_eq_getElem hj]; rfl, h2, fun y => ?_⟩
    have := RowH.mk (size := 1) (n := l.length) (off := off) (c := c) (cs := (l.set j y).map (Value.int k)) h1 (by simpa using h2) ?_ (h4.set (.cells (row.set (off + j) (.int k y)) true 1))
    · unfold IntsH
      simpa using this
    · rw [Nat.mul_one]
      apply List.ext_getElem?
      intro q
      by_cases hq : q < l.length
      · rw [List.getElem?_take_of_lt hq, List.getElem?_drop, List.getElem?_map]
        by_cases e : j = q
        · subst e
          rw [List.getElem?_set_self hj, List.getElem?_set_self (by omega)]; rfl
        · rw [List.getElem?_set_ne e, List.getElem?_set_ne (by omega), hcell q hq, List.getElem?_map]
      · rw [List.getElem?_eq_none (by simp; omega), List.getElem?_eq_none (by simp; omega)]

/-- append(v, y). -/
theorem IntsH.append {P : Program} {A : AW} {t e : TypeId} {i : TypeInfo} {z : Value} {v : Value} {k : IntKind} {l : List Int} {F : HP} (y : Int)
    (hu : P.underlying t = some (.slice e)) (hi : P.info? e = some i) (hz : i.zero = some z) (hsize : i.size = 1) (hzs : z.cells.size = 1)
    (h : Sat A (IntsH k v l * F)) (hlen : l.length < 2 ^ 40) (hby : i.bytes ≤ 8) (hw : A.Wf) :
    ∃ v' A', aappend P (A.alloc (.cells [.int k y] true 1)) t t v (.slice (some ⟨A.next, 0, none⟩) 1 1) = some (v', A') ∧ Sat A' (IntsH k v' (l ++ [y]) * F) ∧ A'.Wf ∧ A.next ≤ A'.next := by
  have hnews : appNews (A.alloc (.cells [.int k y] true 1)) 1 (.slice (some ⟨A.next, 0, none⟩) 1 1) = some (1, [.int k y]) := by
    simp [appNews, AW.row]
  have hb : (l.length + 1) * i.bytes ≤ 140737488355328 := by
    have := Nat.mul_le_mul_left (l.length + 1) hby
    omega
  have hb2 : l.length + 1 ≤ 140737488355328 := by omega
  have hone : [Value.int k y].all Value.oneCell' = true := rfl
  have hll : (l ++ [y]).length = l.length + 1 := by simp
  rcases RowH.cases h with ⟨rfl, h0, h1, h2⟩ | ⟨b, off, c, row, rfl, h1, h2, h3, h4⟩
  · have : l = [] := List.eq_nil_of_length_eq_zero h0
    subst this
    refine ⟨.slice (some ⟨A.next + 1, 0, none⟩) (0 + 1) (0 + 1), (A.alloc (.cells [.int k y] true 1)).alloc (.cells ([] ++ [.int k y]) true i.size), ?_, ?_, (hw.alloc _).alloc _, by simp; omega⟩
    · simp only [aappend, hu, hi, hz, hsize, hnews, appOlds]
      rw [if_pos ⟨hzs, by omega, trivial⟩, if_neg (by omega), if_pos ⟨hb2, hb, hone⟩]
      simp
    · have := (h2.keep hw (.cells [.int k y] true 1)).alloc (hw.alloc _) (.cells ([] ++ [.int k y]) true i.size)
      rw [hsize] at this ⊢
      have h9 : Sat ((A.alloc (.cells [.int k y] true 1)).alloc (.cells ([] ++ [.int k y]) true 1)) (pt (A.next + 1) (.cells [.int k y] true 1) * F) := this
      exact RowH.mk (size := 1) (n := 1) (off := 0) (c := 1) (by simp) (by simp) (by simp) h9
  · have hg := h4.get
    have hlt := hw.lt hg
    have hg' : (A.alloc (.cells [.int k y] true 1)).get b = some (.cells row true 1) := by rw [AW.alloc_get_old _ _ (by omega)]; exact hg
    refine ⟨.slice (some ⟨A.next + 1, 0, none⟩) (l.length + 1) (l.length + 1), ((A.alloc (.cells [.int k y] true 1)).set b none).alloc (.cells ((row.drop off).take (l.length * 1) ++ [.int k y]) true i.size), ?_, ?_,
      ((hw.alloc _).set none (by simp; omega)).alloc _, by simp; omega⟩
    · simp only [aappend, hu, hi, hz, hsize, hnews, appOlds, hg']
      rw [if_pos ⟨hzs, by omega, trivial⟩, if_neg (by simp), if_pos ⟨trivial, h2⟩]
      simp only
      rw [if_neg (by omega), if_pos ⟨hb2, hb, hone⟩]
      simp
    · have h5 := ((h4.keep hw (.cells [.int k y] true 1)).kill).alloc ((hw.alloc (.cells [.int k y] true 1)).set none (by simp; omega)) (.cells ((row.drop off).take (l.length * 1) ++ [.int k y]) true i.size)
      rw [hsize] at h5 ⊢
      unfold IntsH
      rw [hll]
      refine RowH.mk (Nat.le_refl _) ?_ ?_ (by simpa using h5)
      · simp at h2 ⊢; omega
      · rw [Nat.mul_one] at h2 h3
        simp only [Nat.mul_one, List.drop_zero]
        rw [← h3, List.take_of_length_le (by simp)]
        simp

/-- append of one number that lies in a block of its own. -/
theorem IntsH.appendG {P : Program} {A : AW} {t e : TypeId} {i : TypeInfo} {z : Value} {v : Value} {k : IntKind} {l : List Int} {F : HP} (y : Int) (n : Nat)
    (hu : P.underlying t = some (.slice e)) (hi : P.info? e = some i) (hz : i.zero = some z) (hsize : i.size = 1) (hzs : z.cells.size = 1)
    (hn : A.get n = some (.cells [.int k y] true 1)) (h : Sat A (IntsH k v l * F)) (hlen : l.length < 2 ^ 40) (hby : i.bytes ≤ 8) (hw : A.Wf) :
    ∃ v' A', aappend P A t t v (.slice (some ⟨n, 0, none⟩) 1 1) = some (v', A') ∧ Sat A' (IntsH k v' (l ++ [y]) * F) ∧ A'.Wf ∧ A.next ≤ A'.next := by
  have hnews : appNews A 1 (.slice (some ⟨n, 0, none⟩) 1 1) = some (1, [.int k y]) := by
    simp [appNews, AW.row, hn]
  have hb : (l.length + 1) * i.bytes ≤ 140737488355328 := by
    have := Nat.mul_le_mul_left (l.length + 1) hby
    omega
  have hb2 : l.length + 1 ≤ 140737488355328 := by omega
  have hone : [Value.int k y].all Value.oneCell' = true := rfl
  have hll : (l ++ [y]).length = l.length + 1 := by simp
  rcases RowH.cases h with ⟨rfl, h0, h1, h2⟩ | ⟨b, off, c, row, rfl, h1, h2, h3, h4⟩
  · have : l = [] := List.eq_nil_of_length_eq_zero h0
    subst this
    refine ⟨.slice (some ⟨A.next, 0, none⟩) (0 + 1) (0 + 1), A.alloc (.cells ([] ++ [.int k y]) true i.size), ?_, ?_, hw.alloc _, by simp⟩
    · simp only [aappend, hu, hi, hz, hsize, hnews, appOlds]
      rw [if_pos ⟨hzs, by omega, trivial⟩, if_neg (by omega), if_pos ⟨hb2, hb, hone⟩]
      try simp
    · have := h2.alloc hw (.cells ([] ++ [.int k y]) true i.size)
      rw [hsize] at this ⊢
      have h9 : Sat (A.alloc (.cells [.int k y] true 1)) (pt A.next (.cells [.int k y] true 1) * F) := this
      exact RowH.mk (size := 1) (n := 1) (off := 0) (c := 1) (by simp) (by simp) (by simp) h9
  · have hg := h4.get
    have hlt := hw.lt hg
    refine ⟨.slice (some ⟨A.next, 0, none⟩) (l.length + 1) (l.length + 1), (A.set b none).alloc (.cells ((row.drop off).take (l.length * 1) ++ [.int k y]) true i.size), ?_, ?_,
      (hw.set none hlt).alloc _, by simp⟩
    · simp only [aappend, hu, hi, hz, hsize, hnews, appOlds, hg]
      rw [if_pos ⟨hzs, by omega, trivial⟩, if_neg (by simp), if_pos ⟨trivial, h2⟩]
      simp only
      rw [if_neg (by omega), if_pos ⟨hb2, hb, hone⟩]
      try simp
    · have h5 := (h4.kill).alloc (hw.set none hlt) (.cells ((row.drop off).take (l.length * 1) ++ [.int k y]) true i.size)
      rw [hsize] at h5 ⊢
      unfold IntsH
      rw [hll]
      refine RowH.mk (Nat.le_refl _) ?_ ?_ (by simpa using h5)
      · simp at h2 ⊢; omega
      · rw [Nat.mul_one] at h2 h3
        simp only [Nat.mul_one, List.drop_zero]
        rw [← h3, List.take_of_length_le (by simp)]
        simp

theorem IsInts.atg {A : AW} {k : IntKind} {o : Option Addr} {c n : Nat} {l : List Int} (h : IsInts A k (.slice o n c) l) {i : Nat} (hi : i < l.length) :
    ∃ p row own, o = some p ∧ A.get p.block = some (.cells row own 1) ∧ row[p.off + i]? = some (.int k l[i]) := by
  rcases h.cases with ⟨h1, rfl⟩ | ⟨p, c, row, own, h1, _, hg, _, hr⟩
  · simp at hi
  · injection h1 with h1 h2 h3
    exact ⟨p, row, own, h1, hg, hr i hi⟩

/-- make([]T, n). -/
theorem IntsH.make {P : Program} {A : AW} {t e : TypeId} {i : TypeInfo} {k k1 k2 : IntKind} {F : HP} (n : Nat)
    (hu : P.underlying t = some (.slice e)) (hi : P.info? e = some i) (hz : i.zero = some (.int k 0)) (hsize : i.size = 1) (hby : i.bytes ≤ 8) (hn : n < 2 ^ 40) (h : Sat A F) (hw : A.Wf) :
    ∃ v' A', amake P A t (.int k1 (n : Int)) (.int k2 (n : Int)) = some (v', A') ∧ Sat A' (IntsH k v' (List.replicate n 0) * F) ∧ A'.Wf ∧ A.le A' := by
  have hb : (n : Int) * i.bytes ≤ 140737488355328 := by
    have := Nat.mul_le_mul_left n hby
    have h2 : ((n * i.bytes : Nat) : Int) ≤ ((n * 8 : Nat) : Int) := by exact_mod_cast this
    have h3 : ((n * i.bytes : Nat) : Int) = (n : Int) * i.bytes := by push_cast; rfl
    omega
  refine ⟨.slice (some ⟨A.next, 0, none⟩) n n, A.alloc (.cells (azeros [.int k 0] n) true 1), ?_, ?_, hw.alloc _, AW.le.alloc _ _⟩
  · simp only [amake, hu, hi, hz, hsize]
    rw [if_pos ⟨rfl, by omega, rfl, by omega, by omega, by omega, hb⟩]
    simp [Value.cells]
  · have hlen : (azeros [Value.int k 0] n).length = n := by simp [length_azeros]
    have hcs : (List.replicate n (0 : Int)).map (Value.int k) = azeros [Value.int k 0] n := by
      clear hb hn hlen
      induction n with
      | zero => rfl
      | succ n ih => rw [List.replicate_succ, List.map_cons, ih]; rfl
    refine IntsH.mk (by simp) (by simp) (by simp [hlen]) ?_ (h.alloc hw _)
    rw [hcs, List.drop_zero, List.take_of_length_le (by simp [hlen])]

/-- append(v, make([]T, n)...). -/
theorem IntsH.appendZ {P : Program} {A : AW} {t u e : TypeId} {i : TypeInfo} {ku : IntKind} {v : Value} {k kq : IntKind} {l : List Int} {F : HP} (n : Nat)
    (hu : P.underlying t = some (.slice e)) (huu : P.underlying u = some (.int ku)) (hi : P.info? e = some i) (hz : i.zero = some (.int k 0)) (hsize : i.size = 1)
    (h : Sat A (IntsH k v l * F)) (hlen : l.length + n < 2 ^ 40) (hby : i.bytes ≤ 8) (hw : A.Wf) :
    ∃ v' A', aappendZ P A t u v (.int kq (n : Int)) = some (v', A') ∧ Sat A' (IntsH k v' (l ++ List.replicate n 0) * F) ∧ A'.Wf := by
  have hcs : (List.replicate n (0 : Int)).map (Value.int k) = azeros [Value.int k 0] n := by
    clear hlen
    induction n with
    | zero => rfl
    | succ n ih => rw [List.replicate_succ, List.map_cons, ih]; rfl
  have hzl : (azeros [Value.int k 0] n).length = n := by simp [length_azeros]
  have hb : (l.length + n) * i.bytes ≤ 140737488355328 := by
    have := Nat.mul_le_mul_left (l.length + n) hby
    omega
  rcases RowH.cases h with ⟨rfl, h0, h1, h2⟩ | ⟨b, off, c, row, rfl, h1, h2, h3, h4⟩
  · have : l = [] := List.eq_nil_of_length_eq_zero h0
    subst this
    by_cases hn : n = 0
    · subst hn
      refine ⟨.slice none 0 0, A, ?_, by simpa using h, hw⟩
      simp only [aappendZ, hu, huu, hi, hz, hsize, appOlds]
      rw [if_pos ⟨rfl, by omega, rfl, by omega, by simp, by simp⟩]
      simp
    · refine ⟨.slice (some ⟨A.next, 0, none⟩) (0 + n) (0 + n), A.alloc (.cells ([] ++ azeros [.int k 0] n) true 1), ?_, ?_, hw.alloc _⟩
      · simp only [aappendZ, hu, huu, hi, hz, hsize, appOlds, Int.toNat_natCast]
        rw [if_pos ⟨rfl, by omega, rfl, by omega, by simp at hlen; omega, by simpa using hb⟩, if_neg hn]
        rfl
      · refine IntsH.mk (by simp) (by simp) (by simp [hzl]) ?_ (h2.alloc hw _)
        rw [List.nil_append, List.nil_append, hcs, List.drop_zero, List.take_of_length_le (by simp [hzl])]
  · have hg := h4.get
    have hlt := hw.lt hg
    by_cases hn : n = 0
    · subst hn
      refine ⟨.slice (some ⟨b, off, none⟩) l.length c, A, ?_, by simpa using h, hw⟩
      simp only [aappendZ, hu, huu, hi, hz, hsize, appOlds, hg]
      rw [if_neg (by simp), if_pos ⟨trivial, h2⟩]
      simp only
      rw [if_pos ⟨rfl, by omega, rfl, by omega, by simp at hlen ⊢; omega, by simpa using hb⟩]
      simp
    · refine ⟨.slice (some ⟨A.next, 0, none⟩) (l.length + n) (l.length + n), (A.set b none).alloc (.cells ((row.drop off).take (l.length * 1) ++ azeros [.int k 0] n) true 1), ?_, ?_, (hw.set none hlt).alloc _⟩
      · simp only [aappendZ, hu, huu, hi, hz, hsize, appOlds, hg, Int.toNat_natCast]
        rw [if_neg (by simp), if_pos ⟨trivial, h2⟩]
        simp only
        rw [if_pos ⟨rfl, by omega, rfl, by omega, by omega, hb⟩, if_neg hn]
        rfl
      · have h5 := h4.kill.alloc (hw.set none hlt) (.cells ((row.drop off).take (l.length * 1) ++ azeros [.int k 0] n) true 1)
        rw [Nat.mul_one] at h2 h3
        refine IntsH.mk (by simp) (by simp) ?_ ?_ (by simpa using h5)
        · simp [hzl]; omega
        · rw [List.drop_zero, ← h3, ← hcs, ← List.map_append, List.take_of_length_le (by simp)]

/-! ### Many at once -/

def bstar (f : Nat → HP) : Nat → HP
  | 0 => hemp
  | n + 1 => bstar f n * f n

def updH (f : Nat → HP) (i : Nat) (Q : HP) : Nat → HP := fun j => if j = i then Q else f j

theorem bstar_congr {f g : Nat → HP} : ∀ {n : Nat}, (∀ i, i < n → f i = g i) → bstar f n = bstar g n
  | 0, _ => rfl
  | n + 1, h => by
    unfold bstar
    rw [bstar_congr (n := n) (fun i hi => h i (by omega)), h n (by omega)]

theorem bstar_pick (f : Nat → HP) {i : Nat} : ∀ {n : Nat}, i < n → bstar f n = f i * bstar (updH f i hemp) n
  | 0, h => by omega
  | n + 1, h => by
    unfold bstar
    by_cases e : i = n
    · subst e
      rw [bstar_congr (f := updH f i hemp) (g := f) (n := i) (fun j hj => by simp [updH]; omega)]
      simp only [updH, if_true, mul_hemp]
      exact HP.mul_comm _ _
    · have hin : i < n := by omega
      rw [bstar_pick f hin]
      have : updH f i hemp n = f n := by simp [updH]; omega
      rw [this, HP.mul_assoc]

theorem bstar_put (f : Nat → HP) {i n : Nat} (hi : i < n) (Q : HP) : bstar (updH f i Q) n = Q * bstar (updH f i hemp) n := by
  rw [bstar_pick _ hi]
  congr 1
  · simp [updH]
  · refine bstar_congr fun j _ => ?_
    simp only [updH]
    split <;> rfl

theorem updH_self (f : Nat → HP) (i : Nat) : updH f i (f i) = f := by
  funext j
  simp only [updH]
  split
  · rename_i e; rw [e]
  · rfl

/-- One of many, and how to put it back. -/
theorem Sat.pick {A : AW} {f : Nat → HP} {n i : Nat} {F : HP} (h : Sat A (bstar f n * F)) (hi : i < n) : Sat A (f i * (bstar (updH f i hemp) n * F)) := by
  rw [bstar_pick f hi, HP.mul_assoc] at h
  exact h
theorem Sat.put {A : AW} {f : Nat → HP} {n i : Nat} {Q F : HP} (h : Sat A (Q * (bstar (updH f i hemp) n * F))) (hi : i < n) : Sat A (bstar (updH f i Q) n * F) := by
  rw [bstar_put f hi, HP.mul_assoc]
  exact h

end Go.Stx

namespace Go.Stx
open Go
variable [Gl]
set_option linter.unusedSectionVars false
set_option linter.unusedVariables false

def assocI (es : List (Int × Value)) (a : Int) : Option Value := (es.find? fun e => e.1 == a).map (·.2)
def rowsI (k : IntKind) (es : List (Int × Value)) : List (Value × Value) := es.map fun e => (.int k e.1, e.2)

/-- The map at r sends an integer to f of it. -/
def MapI (k : IntKind) (r : Nat) (f : Int → Option Value) : HP := hex fun es : List (Int × Value) => hpr ((es.map (·.1)).Nodup ∧ ∀ a, assocI es a = f a) * pt r (.map (rowsI k es) true)

theorem noneSame_int {k0 k : IntKind} {a : Int} : ∀ (es : List (Int × Value)), (∀ e ∈ es, ¬ a = e.1) → noneSame (.int k0) (.int k a) (rowsI k es) = true
  | [], _ => rfl
  | e :: es, h => by
    have he : (a == e.1) = false := by simpa using h e (by simp)
    unfold rowsI noneSame
    simp only [List.map_cons, sameNow_int, he]
    exact noneSame_int es fun x hx => h x (by simp [hx])

theorem afindKey_int {k0 k : IntKind} {a : Int} : ∀ (es : List (Int × Value)) (i : Nat), (es.map (·.1)).Nodup → ∃ q, afindKey (.int k0) (.int k a) (rowsI k es) i = some q ∧ q.map (·.2) = assocI es a ∧
    ∀ j v, q = some (j, v) → ∃ j', j = i + j' ∧ j' < es.length ∧ (∀ v', (es.set j' (a, v')).map (·.1) = es.map (·.1)) ∧ ∀ v' b, assocI (es.set j' (a, v')) b = if b = a then some v' else assocI es b
  | [], i, _ => ⟨none, rfl, rfl, fun j v h => by cases h⟩
  | e :: es, i, hn => by
    simp only [List.map_cons, List.nodup_cons] at hn
    unfold rowsI afindKey
    simp only [List.map_cons, sameNow_int]
    by_cases h : a = e.1
    · subst h
      have hns : noneSame (.int k0) (.int k e.1) (rowsI k es) = true := noneSame_int es fun x hx h => hn.1 (by rw [h]; exact List.mem_map_of_mem hx)
      unfold rowsI at hns
      refine ⟨some (i, e.2), by simp [hns], by simp [assocI], ?_⟩
      intro j v hj
      injection hj with hj
      injection hj with h1 h2
      subst h1
      refine ⟨0, rfl, by simp, fun v' => by simp, fun v' b => ?_⟩
      simp only [List.set_cons_zero, assocI, List.find?_cons]
      by_cases hb : e.1 = b
      · subst hb; simp
      · have hb' : (e.1 == b) = false := by simpa using hb
        simp [hb', Ne.symm hb]
    · have hne : (a == e.1) = false := by simpa using h
      rw [hne]
      obtain ⟨q, h1, h2, h3⟩ := afindKey_int (k0 := k0) (k := k) (a := a) es (i + 1) hn.2
      refine ⟨q, h1, ?_, ?_⟩
      · rw [h2]
        have : ¬ e.1 = a := fun x => h x.symm
        simp [assocI, this]
      · intro j v hj
        obtain ⟨j', g1, g2, g0, g3⟩ := h3 j v hj
        refine ⟨j' + 1, by omega, by simpa using g2, fun v' => by simpa using g0 v', fun v' b => ?_⟩
        have := g3 v' b
        simp only [List.set_cons_succ, assocI, List.find?_cons] at this ⊢
        by_cases hb : e.1 = b
        · subst hb
          have : ¬ e.1 = a := fun x => h x.symm
          simp [this]
        · have hb' : (e.1 == b) = false := by simpa using hb
          rw [hb']
          simpa using this

theorem assocI_append {es : List (Int × Value)} {a : Int} {v : Value} (h : assocI es a = none) (b : Int) : assocI (es ++ [(a, v)]) b = if b = a then some v else assocI es b := by
  simp only [assocI, List.find?_append, Option.map_eq_none_iff] at h ⊢
  by_cases hb : b = a
  · subst hb
    simp [h]
  · have : ¬ a = b := fun x => hb x.symm
    simp [hb, this]

theorem MapI.get {A : AW} {k : IntKind} {r : Nat} {f : Int → Option Value} {F : HP} (h : Sat A (MapI k r f * F)) :
    ∃ es, A.get r = some (.map (rowsI k es) true) ∧ ((es.map (·.1)).Nodup ∧ ∀ a, assocI es a = f a) ∧ Sat A (pt r (.map (rowsI k es) true) * F) := by
  unfold MapI at h
  rw [Sat.ex] at h
  obtain ⟨es, h⟩ := h
  rw [HP.mul_assoc, Sat.pr] at h
  exact ⟨es, h.2.get, h.1, h.2⟩

/-- m[a]. -/
theorem MapI.lookup {P : Program} {A : AW} {t kt e : TypeId} {k0 k : IntKind} {r : Nat} {f : Int → Option Value} {F : HP} (h : Sat A (MapI k r f * F)) (ht : P.underlying t = some (.map kt e)) (hk : P.underlying kt = some (.int k0)) (a : Int) (c : Bool) :
    alookup P A t (.map (some r)) (.int k a) c = match f a with
      | some v => some (if c then .tuple #[v, .bool true] else v)
      | none => amapZero P e c := by
  obtain ⟨es, hg, ⟨hn, hf⟩, _⟩ := MapI.get h
  obtain ⟨q, h1, h2, _⟩ := afindKey_int (k0 := k0) (k := k) (a := a) es 0 hn
  simp only [alookup, ht, hk, isKeyDesc, if_true, hg, h1]
  rw [hf a] at h2
  rw [← h2]
  cases q with
  | none => rfl
  | some q => rfl

/-- What a walk is to know of a map. -/
theorem MapI.facts {A : AW} {k : IntKind} {r : Nat} {f : Int → Option Value} {F : HP} (h : Sat A (MapI k r f * F)) :
    ∃ rows, A.get r = some (.map rows true) ∧ (∀ k0 a v, f a = some v → ∃ q, afindKey (.int k0) (.int k a) rows 0 = some (some (q, v))) ∧ (∀ k0 a, f a = none → afindKey (.int k0) (.int k a) rows 0 = some none) ∧
      Sat A (pt r (.map rows true) * F) ∧ ∀ {A' : AW} {F' : HP}, Sat A' (pt r (.map rows true) * F') → Sat A' (MapI k r f * F') := by
  obtain ⟨es, hg, ⟨hn, hf⟩, hS⟩ := MapI.get h
  refine ⟨_, hg, fun k0 a v hv => ?_, fun k0 a hv => ?_, hS, fun {A' F'} h' => ?_⟩
  · obtain ⟨q, h1, h2, _⟩ := afindKey_int (k0 := k0) (k := k) (a := a) es 0 hn
    rw [hf, hv] at h2
    cases q with
    | none => cases h2
    | some q => obtain ⟨j, u⟩ := q; injection h2 with h2; simp only at h2; subst h2; exact ⟨j, h1⟩
  · obtain ⟨q, h1, h2, _⟩ := afindKey_int (k0 := k0) (k := k) (a := a) es 0 hn
    rw [hf, hv] at h2
    cases q with
    | none => exact h1
    | some q => cases h2
  · unfold MapI
    rw [Sat.ex]
    refine ⟨es, ?_⟩
    rw [HP.mul_assoc, Sat.pr]
    exact ⟨⟨hn, hf⟩, h'⟩

theorem MapI.new {A : AW} {k : IntKind} {F : HP} (h : Sat A F) (hw : A.Wf) : Sat (A.alloc (.map [] true)) (MapI k A.next (fun _ => none) * F) := by
  unfold MapI
  rw [Sat.ex]
  refine ⟨[], ?_⟩
  rw [HP.mul_assoc, Sat.pr]
  exact ⟨⟨List.nodup_nil, fun a => rfl⟩, h.alloc hw _⟩

def updI (f : Int → Option Value) (a : Int) (v : Value) : Int → Option Value := fun b => if b = a then some v else f b

/-- m[a] = v. -/
theorem MapI.update {P : Program} {A : AW} {t kt e : TypeId} {k0 k : IntKind} {r : Nat} {f : Int → Option Value} {F : HP} (h : Sat A (MapI k r f * F)) (ht : P.underlying t = some (.map kt e)) (hk : P.underlying kt = some (.int k0)) (a : Int) (v : Value) :
    ∃ A', amapUpdate P A t (.map (some r)) (.int k a) v = some A' ∧ Sat A' (MapI k r (updI f a v) * F) ∧ (A.Wf → A'.Wf) ∧ A'.next = A.next ∧ ∀ j, j ≠ r → A'.get j = A.get j := by
  obtain ⟨es, hg, ⟨hn, hf⟩, hS⟩ := MapI.get h
  obtain ⟨q, h1, h2, h3⟩ := afindKey_int (k0 := k0) (k := k) (a := a) es 0 hn
  have fin : ∀ es' : List (Int × Value), (es'.map (·.1)).Nodup → (∀ b, assocI es' b = updI f a v b) → Sat (A.set r (some (.map (rowsI k es') true))) (MapI k r (updI f a v) * F) := fun es' hn' he => by
    unfold MapI
    rw [Sat.ex]
    refine ⟨es', ?_⟩
    rw [HP.mul_assoc, Sat.pr]
    exact ⟨⟨hn', he⟩, hS.set _⟩
  cases q with
  | none =>
    refine ⟨A.set r (some (.map (rowsI k (es ++ [(a, v)])) true)), ?_, fin _ ?_ fun b => ?_, fun hw => hw.set _ (hw.lt hg), rfl, fun j hj => AW.set_get_ne hj⟩
    · simp only [amapUpdate, ht, hk, hg, isKeyDesc, if_true, h1]
      simp [rowsI]
    · rw [List.map_append, List.nodup_append]
      refine ⟨hn, by simp, fun x hx y hy e => ?_⟩
      simp only [List.map_cons, List.map_nil, List.mem_singleton] at hy
      subst hy
      subst e
      have h2' : assocI es x = none := by rw [← h2]; rfl
      simp only [assocI, Option.map_eq_none_iff, List.find?_eq_none] at h2'
      obtain ⟨q, hq, rfl⟩ := List.mem_map.1 hx
      have := h2' q hq
      simp at this
    · rw [assocI_append (by rw [← h2]; rfl)]
      simp only [updI, hf]
  | some q =>
    obtain ⟨j, u⟩ := q
    obtain ⟨j', g1, g2, g0, g3⟩ := h3 j u rfl
    refine ⟨A.set r (some (.map (rowsI k (es.set j' (a, v))) true)), ?_, fin _ (by rw [g0]; exact hn) fun b => ?_, fun hw => hw.set _ (hw.lt hg), rfl, fun j hj => AW.set_get_ne hj⟩
    · simp only [amapUpdate, ht, hk, hg, isKeyDesc, if_true, h1]
      have : j = j' := by omega
      subst this
      simp [rowsI, List.map_set]
    · rw [g3]
      simp only [updI, hf]

end Go.Stx

namespace Go.Stx
open Go
variable [Gl]
set_option linter.unusedSectionVars false
set_option linter.unusedVariables false

/-! ### What an operation looks at -/

theorem aparts_congr {r r' : Operand → Value} {ps : Array (Nat × Operand)} (h : ∀ x ∈ (ps.toList.map (·.2)).toArray, r x = r' x) : aparts r ps = aparts r' ps := by
  unfold aparts
  refine List.map_congr_left fun x hx => ?_
  rw [h x.2 (by simpa using ⟨x.1, by simpa using hx⟩)]

theorem omap_congr {r r' : Operand → Value} {x : Option Operand} (h : ∀ y ∈ x.toArray, r y = r' y) : x.map r = x.map r' := by
  cases x with
  | none => rfl
  | some y => simp [h y (by simp)]

theorem amap_congr {r r' : Operand → Value} {x : Array Operand} (h : ∀ y ∈ x, r y = r' y) : x.map r = x.map r' := Array.map_congr_left h

theorem aq_congr {P : Program} {A : AW} {r r' : Operand → Value} {op : Op} (h : ∀ x ∈ op.operands, r x = r' x) : aq P A r op = aq P A r' op := by
  cases op <;> simp only [aq, Op.operands] at h ⊢
  case move x => rw [h x (by simp)]
  case assign x => rw [h x (by simp)]
  case pick c x y => rw [h c (by simp), h x (by simp), h y (by simp)]
  case build t ps => rw [aparts_congr h]
  case load t x => rw [h x (by simp)]
  case nilCheck x => rw [h x (by simp)]
  case binOp op t x y u => rw [h x (by simp), h y (by simp)]
  case unOp op t x => rw [h x (by simp)]
  case convert s d x => rw [h x (by simp)]
  case makeInterface t x => rw [h x (by simp)]
  case slice t x lo hi mx =>
    have e1 : r x = r' x := h x (by simp)
    have e2 : lo.map r = lo.map r' := omap_congr fun y hy => h y (by simp [hy])
    have e3 : hi.map r = hi.map r' := omap_congr fun y hy => h y (by simp [hy])
    cases mx with
    | none => simp only [e1, e2, e3]
    | some q => simp only [e1, e2, e3, h q (by simp)]
  case lookup t x ix c => rw [h x (by simp), h ix (by simp)]
  case fieldAddr s x f => rw [h x (by simp)]
  case field t x f => rw [h x (by simp)]
  case indexAddr t x ix => rw [h x (by simp), h ix (by simp)]
  case index t x ix => rw [h x (by simp), h ix (by simp)]
  case extract t i => rw [h t (by simp)]
  case makeFunc fn fs cs =>
    rw [amap_congr (r := r) (r' := r') (x := fs) fun y hy => h y (by simp [hy]), amap_congr (r := r) (r' := r') (x := cs) fun y hy => h y (by simp [hy])]
  case call c =>
    have hk : ∀ x ∈ c.args.toList, r x = r' x := fun x hx => h x (by simp only [Call.operands, Array.mem_append]; exact .inr (Array.mem_toList_iff.1 hx))
    clear h
    generalize c.args.toList = l at hk ⊢
    generalize c.argTypes.toList = ts
    generalize c.callee = ce
    split <;> simp_all

theorem ae_congr {P : Program} {A : AW} {r r' : Operand → Value} {op : Op} (h : ∀ x ∈ op.operands, r x = r' x) : ae P A r op = ae P A r' op := by
  cases op <;> simp only [ae, Op.operands] at h ⊢
  case box t x => rw [h x (by simp)]
  case buildSlice t n ps => rw [aparts_congr h]
  case store t x y => rw [h x (by simp), h y (by simp)]
  case makeSlice t l c => rw [h l (by simp), h c (by simp)]
  case makeMap t x => rw [omap_congr h]
  case mapUpdate t x k v => rw [h x (by simp), h k (by simp), h v (by simp)]
  case insert t x k v => rw [h x (by simp), h k (by simp), h v (by simp)]
  case call c =>
    have hk : ∀ x ∈ c.args.toList, r x = r' x := fun x hx => h x (by simp only [Call.operands, Array.mem_append]; exact .inr (Array.mem_toList_iff.1 hx))
    clear h
    generalize c.args.toList = l at hk ⊢
    generalize c.argTypes.toList = ts
    generalize c.callee = ce
    split <;> simp_all

theorem ACallK_congr {P : Program} {A : AW} {r r' : Operand → Value} {op : Op} {k : Value → AW → Prop} (h : ∀ x ∈ op.operands, r x = r' x) : ACallK P op r A k = ACallK P op r' A k := by
  cases op <;> try rfl
  case call c =>
    obtain ⟨callee, args, ts⟩ := c
    cases callee with
    | value x =>
      have hx : r x = r' x := h x (by simp [Op.operands, Call.operands])
      have ha : args.toList.map r = args.toList.map r' := List.map_congr_left fun y hy => h y (by simp only [Op.operands, Call.operands, Array.mem_append]; exact .inr (Array.mem_toList_iff.1 hy))
      simp only [ACallK, hx, ha]
    | invoke _ _ => rfl
    | builtin _ => rfl

theorem AStep_congr {P : Program} {A : AW} {r r' : Operand → Value} {op : Op} {k : Value → AW → Prop} (h : ∀ x ∈ op.operands, r x = r' x) : AStep P op r A k = AStep P op r' A k := by
  unfold AStep
  rw [aq_congr h, ae_congr h, ACallK_congr h]

/-! ### What later memories keep -/

theorem row_keep {A A' : AW} (hk : ∀ i o, A.get i = some o → A'.get i = some o) {i : Nat} {cs : List Value} (h : A.row i = some cs) : A'.row i = some cs := by
  unfold AW.row at *
  split at h
  · rename_i hg
    rw [hk _ _ hg]
    exact h
  · cases h

theorem aload_keep {P : Program} {A A' : AW} (hk : ∀ i o, A.get i = some o → A'.get i = some o) {t : TypeId} {p : Addr} {v : Value} (h : aload P A t p = some v) : aload P A' t p = some v := by
  unfold aload at *
  split at h
  · rename_i h1 h2; rw [row_keep hk h1, h2]; exact h
  · rename_i h1 h2; rw [row_keep hk h1, h2]; exact h
  · cases h

theorem aq_keep {P : Program} {A A' : AW} (hk : ∀ i o, A.get i = some o → A'.get i = some o) {r : Operand → Value} {op : Op} {v : Value} (h : aq P A r op = some v) : aq P A' r op = some v := by
  cases op <;> simp only [aq] at h ⊢ <;> try exact h
  case convert s d x =>
    split at h
    · exact h
    · unfold abytes at h ⊢
      split at h
      · rename_i h1 h2 h3
        split at h
        · rename_i h4 h5
          rw [h4, row_keep hk h5]
          exact h
        · cases h
      · cases h
  case load t x =>
    split at h
    · rename_i p hp
      exact aload_keep hk h
    · cases h
  case slice t x lo hi mx =>
    cases mx with
    | some q => exact h
    | none =>
      simp only at h ⊢
      unfold aslice at *
      split at h
      · rename_i hu _ _
        split at h
        · rename_i e1
          split at h
          · rename_i e2
            split at h
            · rename_i e3
              exact h
            · rename_i e3
              split at h
              · rename_i q hq
                have key : ∀ {e : TypeId} {p : Addr} {l : Nat}, asliceAt P A e p l = some q → asliceAt P A' e p l = some q := by
                  intro e p l hq
                  unfold asliceAt at hq ⊢
                  split at hq
                  · rename_i hl; rw [if_pos hl]; exact hq
                  · rename_i hl
                    rw [if_neg hl]
                    split at hq
                    · rename_i g1 g2
                      rw [g1, hk _ _ g2]
                      exact hq
                    · cases hq
                rw [key hq]
                exact h
              · cases h
            · cases h
          · cases h
        · cases h
      · exact h
      · cases h
  case lookup t x ix c =>
    unfold alookup at h ⊢
    split at h <;> try (cases h; done)
    split at h <;> try (cases h; done)
    split at h <;> try (cases h; done)
    rename_i hkd
    split at h <;> try (cases h; done)
    · simp_all
    · split at h <;> try (cases h; done)
      rename_i hg
      have hg' := hk _ _ hg
      simp_all

/-- Operations whose value does not hang on the memory. -/
def memless : Op → Bool
  | .move _ | .assign _ | .pick _ _ _ | .build _ _ | .nilCheck _ | .binOp _ _ _ _ _ | .unOp _ _ _ | .makeInterface _ _ | .fieldAddr _ _ _ | .field _ _ _ | .indexAddr _ _ _ | .index _ _ _ | .extract _ _ | .makeFunc _ _ _ => true
  | .call c => match c.callee with
    | .builtin .len | .builtin .min | .builtin .max => true
    | _ => false
  | _ => false

/-- Operations that only compute or read. -/
def quietOp : Op → Bool
  | .load _ _ | .slice _ _ _ _ _ | .lookup _ _ _ _ | .convert _ _ _ => true
  | op => memless op

theorem aq_memless {P : Program} {A A' : AW} {r : Operand → Value} {op : Op} (hm : memless op = true) : aq P A' r op = aq P A r op := by
  cases op <;> first | rfl | (simp [memless] at hm; done)

end Go.Stx

namespace Go.Stx
open Go
variable [Gl]
set_option linter.unusedSectionVars false
set_option linter.unusedVariables false

section
variable {P : Program} {ops : Array Oper} {S : AW → Prop} {md : Nat → Nat} {K : Fr → AW → Prop} {anc : List Nat}

def LStp (P : Program) (ops : Array Oper) (S : AW → Prop) (md : Nat → Nat) (i : Nat) (o : Oper) (a : Fr) (A : AW) (k : Fr → AW → Prop) : Prop :=
  if gval ops a o = true then
    if md i ≤ 1 then ∃ v, aq P A (evF a) o.op = some v ∧ k (putF a o.dst v) A
    else AStep P o.op (evF a) A fun v A' => (if md i = 2 then A.le A' else (md i = 3 → S A')) ∧ k (putF a o.dst v) A'
  else k (putF a o.dst undef) A

def Rdy (L : Nat → Bool) (i : Nat) (o : Oper) : Prop := L i = false ∧ ∀ e ∈ o.after, Region.binds .any e = true → L e.on = true
def setL (L : Nat → Bool) (i : Nat) : Nat → Bool := fun j => if j = i then true else L j

def AAny (P : Program) (ops : Array Oper) (S : AW → Prop) (md : Nat → Nat) (K : Fr → AW → Prop) : Nat → (Nat → Bool) → Fr → AW → Prop
  | 0, L, a, A => (∀ i, i < ops.size → L i = true) ∧ K a A
  | n + 1, L, a, A => ((∀ i, i < ops.size → L i = true) → K a A) ∧ (A.Wf → ∀ i o, ops[i]? = some o → Rdy L i o → LStp P ops S md i o a A (AAny P ops S md K n (setL L i)))

theorem LStp.mono {i : Nat} {o : Oper} {a : Fr} {A : AW} {k k' : Fr → AW → Prop} (h : LStp P ops S md i o a A k)
    (hk : ∀ v A', (md i ≤ 1 → A' = A) → (md i = 2 → A.le A') → (md i = 3 → gval ops a o = true → S A') → (gval ops a o = false → A' = A) → k (putF a o.dst v) A' → k' (putF a o.dst v) A') : LStp P ops S md i o a A k' := by
  unfold LStp at *
  split
  · rename_i hg
    rw [if_pos hg] at h
    split
    · rename_i hm
      rw [if_pos hm] at h
      obtain ⟨v, h1, h2⟩ := h
      exact ⟨v, h1, hk v A (fun _ => rfl) (fun e => by omega) (fun e => by omega) (fun _ => rfl) h2⟩
    · rename_i hm
      rw [if_neg hm] at h
      refine h.mono fun v A' ⟨h1, h2⟩ => ⟨h1, hk v A' (fun e => by omega) (fun e => ?_) (fun e _ => ?_) (fun e => ?_) h2⟩
      · rwa [if_pos e] at h1
      · rw [if_neg (by omega)] at h1; exact h1 e
      · rw [e] at hg; cases hg
  · rename_i hg
    rw [if_neg hg] at h
    have hg' : gval ops a o = false := by simpa using hg
    exact hk undef A (fun _ => rfl) (fun _ => AW.le.refl A) (fun _ e => by rw [e] at hg'; cases hg') (fun _ => rfl) h

theorem LStp.aop1 {i : Nat} {o : Oper} {a : Fr} {A : AW} {k : Fr → AW → Prop} (h : LStp P ops S md i o a A k) : AOp1 P ops o a A k := by
  unfold LStp at h
  unfold AOp1
  split
  · rename_i hg
    rw [if_pos hg] at h
    split at h
    · obtain ⟨v, h1, h2⟩ := h
      simp only [AStep, h1]
      exact h2
    · exact h.mono fun v A' hh => hh.2
  · rename_i hg
    rw [if_neg hg] at h
    exact h

theorem awp_of_aany {n : Nat} {Q : Exit → Fr → AW → Prop} {a : Fr} {A : AW} {id : Nat} (hm : P.follows .mixedOrders = true) (hah : aheadOk ops = true) {k : Nat}
    (h : AAny P ops S md (Q .normal) k (fun _ => false) a A) : AWP P n (.region id ops true) Q a A := by
  refine awp_any hm hah (fun L a A => ∃ k, AAny P ops S md (Q .normal) k L a A) ⟨k, h⟩ ?_ ?_
  · rintro L a A i o hw ⟨k, hk⟩ ho hL hdep
    cases k with
    | zero =>
      have := hk.1 i (Array.getElem?_eq_some_iff.1 ho).1
      rw [hL] at this
      cases this
    | succ k =>
      have := (hk.2 hw i o ho ⟨hL, hdep⟩).aop1
      unfold AOp1 at this ⊢
      split
      · rename_i hg
        rw [if_pos hg] at this
        exact this.mono fun v A' hh => ⟨k, hh⟩
      · rename_i hg
        rw [if_neg hg] at this
        exact ⟨k, this⟩
  · rintro L a A _ ⟨k, hk⟩ hall
    cases k with
    | zero => exact hk.2
    | succ k => exact hk.1 hall

/-! ### What one operation sees of another -/

theorem evF_put {a : Fr} {d : Option Tmp} {v : Value} {x : Operand} (h : ∀ t, d = some t → x ≠ .tmp t) : evF (putF a d v) x = evF a x := by
  cases d with
  | none => rfl
  | some t =>
    cases x with
    | tmp q =>
      have : q ≠ t := fun e => h t rfl (by rw [e])
      simp [putF, upd, this]
    | _ => rfl

theorem gval_put {a : Fr} {d : Option Tmp} {v : Value} {o : Oper} (h : ∀ t, d = some t → t ∉ o.looksAt ops) : gval ops (putF a d v) o = gval ops a o := by
  unfold gval
  cases hg : o.guard with
  | none => rfl
  | some g =>
    obtain ⟨j, w⟩ := g
    simp only
    cases hj : (ops[j]?).bind (·.dst) with
    | none => rfl
    | some q =>
      simp only
      have hne : ∀ t, d = some t → q ≠ t := fun t ht e => h t ht (by simp [Oper.looksAt, hg, hj, e])
      have : putF a d v q = a q := by
        cases d with
        | none => rfl
        | some t => simp [putF, upd, hne t rfl]
      rw [this]

theorem operands_put {a : Fr} {d : Option Tmp} {v : Value} {o : Oper} (h : ∀ t, d = some t → t ∉ o.looksAt ops) : ∀ x ∈ o.op.operands, evF (putF a d v) x = evF a x := by
  intro x hx
  refine evF_put fun t ht e => h t ht ?_
  subst e
  simp only [Oper.looksAt, List.mem_append, List.mem_filterMap]
  exact .inl ⟨.tmp t, Array.mem_toList_iff.2 hx, rfl⟩

theorem putF_comm {a : Fr} {d e : Option Tmp} {v u : Value} (h : ∀ t, d = some t → e ≠ some t) : putF (putF a d v) e u = putF (putF a e u) d v := by
  cases d with
  | none => rfl
  | some t =>
    cases e with
    | none => rfl
    | some q =>
      have : t ≠ q := fun x => h t rfl (by rw [x])
      funext j
      simp only [putF, upd]
      by_cases h1 : j = q
      · subst h1
        have : ¬ j = t := fun x => this x.symm
        simp [this]
      · simp [h1]

/-- An operation steps alike whether or not what it does not see is there. -/
theorem LStp.unput {j : Nat} {oi oj : Oper} {a : Fr} {A : AW} {v : Value} {k : Fr → AW → Prop} (hap : oi.apart ops oj = true) (h : LStp P ops S md j oj (putF a oi.dst v) A k) :
    LStp P ops S md j oj a A fun a' A' => k (putF a' oi.dst v) A' := by
  obtain ⟨h1, h2, h3⟩ := Oper.apart_spec hap
  unfold LStp at *
  rw [gval_put h1] at h
  split
  · rename_i hg
    rw [if_pos hg] at h
    split
    · rename_i hm
      rw [if_pos hm, aq_congr (operands_put h1)] at h
      obtain ⟨u, h4, h5⟩ := h
      exact ⟨u, h4, by show k (putF (putF a oj.dst u) oi.dst v) A; rw [← putF_comm h2]; exact h5⟩
    · rename_i hm
      rw [if_neg hm, AStep_congr (operands_put h1)] at h
      refine h.mono fun u A' ⟨h4, h5⟩ => ⟨h4, by show k (putF (putF a oj.dst u) oi.dst v) A'; rw [← putF_comm h2]; exact h5⟩
  · rename_i hg
    rw [if_neg hg] at h
    rw [← putF_comm h2]
    exact h

/-! ### Who waits for whom -/

def Closed (ops : Array Oper) (L : Nat → Bool) : Prop := ∀ k o, ops[k]? = some o → L k = true → ∀ e ∈ o.after, Region.binds .any e = true → L e.on = true

def ancF (anc : List Nat) (m : Nat) (e : Edge) : Nat := if Region.binds .any e = true then (m ||| anc.getD e.on 0) ||| 2 ^ e.on else m
def ancL : List Oper → List Nat → List Nat
  | [], acc => acc
  | o :: r, acc => ancL r (acc ++ [o.after.toList.foldl (ancF acc) 0])
def ancOk (ops : Array Oper) (anc : List Nat) : Bool := (List.range ops.size).all fun i => match ops[i]? with | some o => anc.getD i 0 == o.after.toList.foldl (ancF anc) 0 | none => false

theorem ancF_bit {anc : List Nat} {q : Nat} : ∀ (l : List Edge) (m : Nat), (l.foldl (ancF anc) m).testBit q = true → m.testBit q = true ∨ ∃ e ∈ l, Region.binds .any e = true ∧ ((anc.getD e.on 0).testBit q = true ∨ e.on = q)
  | [], m, h => .inl h
  | e :: l, m, h => by
    rw [List.foldl_cons] at h
    rcases ancF_bit l _ h with h1 | ⟨e', h1, h2⟩
    · unfold ancF at h1
      split at h1
      · rename_i hb
        rw [Nat.testBit_or, Nat.testBit_or, Bool.or_eq_true, Bool.or_eq_true] at h1
        rcases h1 with (h1 | h1) | h1
        · exact .inl h1
        · exact .inr ⟨e, by simp, hb, .inl h1⟩
        · rw [Nat.testBit_two_pow] at h1
          exact .inr ⟨e, by simp, hb, .inr (by simpa using h1)⟩
      · exact .inl h1
    · exact .inr ⟨e', by simp [h1], h2⟩

theorem anc_edge (ha : ancOk ops anc = true) {i q : Nat} {o : Oper} (ho : ops[i]? = some o) (h : (anc.getD i 0).testBit q = true) :
    ∃ e ∈ o.after, Region.binds .any e = true ∧ ((anc.getD e.on 0).testBit q = true ∨ e.on = q) := by
  have := List.all_eq_true.1 ha i (List.mem_range.2 (Array.getElem?_eq_some_iff.1 ho).1)
  rw [ho] at this
  simp only [beq_iff_eq] at this
  rw [this] at h
  rcases ancF_bit _ _ h with h1 | ⟨e, h1, h2⟩
  · simp at h1
  · exact ⟨e, Array.mem_toList_iff.1 h1, h2⟩

theorem closed_anc (hah : aheadOk ops = true) (ha : ancOk ops anc = true) {L : Nat → Bool} (hc : Closed ops L) {q : Nat} : ∀ n k o, k < n → ops[k]? = some o → L k = true → (anc.getD k 0).testBit q = true → L q = true
  | 0, k, o, h, _, _, _ => by omega
  | n + 1, k, o, hk, ho, hL, hb => by
    obtain ⟨e, he, hbn, h1⟩ := anc_edge ha ho hb
    have hLe := hc k o ho hL e he hbn
    rcases h1 with h1 | h1
    · have hlt := aheadOk_lt hah ho he hbn
      have hks := (Array.getElem?_eq_some_iff.1 ho).1
      exact closed_anc hah ha hc n e.on ops[e.on] (by omega) (Array.getElem?_eq_getElem (by omega)) hLe h1
    · rw [← h1]; exact hLe

theorem ready_anc (hah : aheadOk ops = true) (ha : ancOk ops anc = true) {L : Nat → Bool} (hc : Closed ops L) {j q : Nat} {o : Oper} (ho : ops[j]? = some o) (hr : Rdy L j o) (hb : (anc.getD j 0).testBit q = true) : L q = true := by
  obtain ⟨e, he, hbn, h1⟩ := anc_edge ha ho hb
  have hLe := hr.2 e he hbn
  rcases h1 with h1 | h1
  · have hlt := aheadOk_lt hah ho he hbn
    have hks := (Array.getElem?_eq_some_iff.1 ho).1
    exact closed_anc hah ha hc _ e.on ops[e.on] (Nat.lt_succ_self _) (Array.getElem?_eq_getElem (by omega)) hLe h1
  · rw [← h1]; exact hLe

theorem Closed.set {L : Nat → Bool} (hc : Closed ops L) {i : Nat} {o : Oper} (ho : ops[i]? = some o) (hr : Rdy L i o) : Closed ops (setL L i) := by
  intro k o' ho' hk e he hb
  unfold setL at hk ⊢
  split
  · rfl
  · split at hk
    · rename_i e'
      subst e'
      rw [ho] at ho'
      injection ho' with ho'
      subst ho'
      exact hr.2 e he hb
    · exact hc k o' ho' hk e he hb

theorem Rdy.mono {L : Nat → Bool} {i j : Nat} {o : Oper} (h : Rdy L i o) (hne : i ≠ j) : Rdy (setL L j) i o := by
  refine ⟨by simp [setL, hne, h.1], fun e he hb => ?_⟩
  unfold setL
  split
  · rfl
  · exact h.2 e he hb

theorem setL_comm (L : Nat → Bool) (i j : Nat) : setL (setL L i) j = setL (setL L j) i := by
  funext k
  simp only [setL]
  split <;> split <;> rfl

/-! ### What only computes may be taken first -/

theorem aany_first (hah : aheadOk ops = true) (ha : ancOk ops anc = true) {i : Nat} {o : Oper} {v : Value} (hi : ops[i]? = some o) (hmd : md i ≤ 1) : ∀ (n : Nat) (L : Nat → Bool) (a : Fr) (A : AW), Closed ops L →
    (∀ j oj, ops[j]? = some oj → j ≠ i → L j = false → (∀ e ∈ oj.after, Region.binds .any e = true → e.on ≠ i) → o.apart ops oj = true) →
    (memless o.op = true ∨ (∀ j oj, ops[j]? = some oj → j ≠ i → 3 ≤ md j → L j = false → (anc.getD j 0).testBit i = true) ∨ ((∀ j oj, ops[j]? = some oj → j ≠ i → 4 ≤ md j → L j = false → (anc.getD j 0).testBit i = true) ∧ ∀ A', S A' → gval ops a o = true → aq P A' (evF a) o.op = some v)) →
    Rdy L i o → ((gval ops a o = true ∧ aq P A (evF a) o.op = some v) ∨ (gval ops a o = false ∧ v = undef)) →
    AAny P ops S md K n (setL L i) (putF a o.dst v) A → AAny P ops S md K (n + 1) L a A := by
  intro n
  induction n with
  | zero =>
    intro L a A hc hfree hst hr hy H
    refine ⟨fun hall => ?_, fun hw j oj hj hrj => ?_⟩
    · have := hall i (Array.getElem?_eq_some_iff.1 hi).1
      rw [hr.1] at this
      cases this
    · by_cases hji : j = i
      · subst hji
        rw [hi] at hj
        injection hj with hj
        subst hj
        unfold LStp
        rcases hy with ⟨h1, h2⟩ | ⟨h1, rfl⟩
        · rw [if_pos h1, if_pos hmd]
          exact ⟨v, h2, H⟩
        · rw [if_neg (by simp [h1])]
          exact H
      · have := H.1 j (Array.getElem?_eq_some_iff.1 hj).1
        simp [setL, hji, hrj.1] at this
  | succ n ih =>
    intro L a A hc hfree hst hr hy H
    refine ⟨fun hall => ?_, fun hw j oj hj hrj => ?_⟩
    · have := hall i (Array.getElem?_eq_some_iff.1 hi).1
      rw [hr.1] at this
      cases this
    · by_cases hji : j = i
      · subst hji
        rw [hi] at hj
        injection hj with hj
        subst hj
        unfold LStp
        rcases hy with ⟨h1, h2⟩ | ⟨h1, rfl⟩
        · rw [if_pos h1, if_pos hmd]
          exact ⟨v, h2, H⟩
        · rw [if_neg (by simp [h1])]
          exact H
      · have hnot : ∀ e ∈ oj.after, Region.binds .any e = true → e.on ≠ i := fun e he hb heq => by
          have := hrj.2 e he hb
          rw [heq, hr.1] at this
          cases this
        have hap := hfree j oj hj hji hrj.1 hnot
        obtain ⟨g1, g2, g3⟩ := Oper.apart_spec hap
        have h1 := H.2 hw j oj hj (hrj.mono hji)
        refine (LStp.unput hap h1).mono fun u A' m1 m2 m3 m4 hk => ?_
        have hgv : gval ops (putF a oj.dst u) o = gval ops a o := gval_put g3
        have hop : ∀ A0, aq P A0 (evF (putF a oj.dst u)) o.op = aq P A0 (evF a) o.op := fun A0 => aq_congr (operands_put g3)
        have hcl := hc.set hj hrj
        refine ih (setL L j) (putF a oj.dst u) A' hcl ?_ ?_ (hr.mono (Ne.symm hji)) ?_ (by rw [setL_comm]; exact hk)
        · intro q oq hq hqi hLq hno
          refine hfree q oq hq hqi ?_ hno
          unfold setL at hLq
          split at hLq
          · cases hLq
          · exact hLq
        · rcases hst with h | h | h
          · exact .inl h
          · refine .inr (.inl fun q oq hq hqi h3 hLq => h q oq hq hqi h3 ?_)
            unfold setL at hLq
            split at hLq
            · cases hLq
            · exact hLq
          · refine .inr (.inr ⟨fun q oq hq hqi h3 hLq => h.1 q oq hq hqi h3 ?_, fun A'' hS hg => by rw [hop]; exact h.2 A'' hS (by rw [← hgv]; exact hg)⟩)
            unfold setL at hLq
            split at hLq
            · cases hLq
            · exact hLq
        · rw [hgv, hop]
          rcases hy with ⟨h2, h3⟩ | h2
          · refine .inl ⟨h2, ?_⟩
            rcases Nat.lt_or_ge (md j) 2 with hj1 | hj1
            · rw [m1 (by omega)]; exact h3
            · rcases Nat.lt_or_ge (md j) 3 with hj2 | hj2
              · have hle := m2 (by omega)
                exact aq_keep (fun i o hi => hle.keep hw hi) h3
              · rcases hst with h | h | h
                · rw [aq_memless h]; exact h3
                · exfalso
                  have := ready_anc hah ha hc hj hrj (h j oj hj hji hj2 hrj.1)
                  rw [hr.1] at this
                  cases this
                · cases hgj : gval ops a oj with
                  | true =>
                    rcases Nat.lt_or_ge (md j) 4 with hj3 | hj3
                    · exact h.2 A' (m3 (by omega) hgj) h2
                    · exfalso
                      have := ready_anc hah ha hc hj hrj (h.1 j oj hj hji hj3 hrj.1)
                      rw [hr.1] at this
                      cases this
                  | false => rw [m4 hgj]; exact h3
          · exact .inr h2

/-! ### The walk -/

structure LOp where
  dst : Option Tmp
  op : Op
  guard : Option (Option Tmp × Bool)
  mode : Nat

def lop (ops : Array Oper) (x : Nat × Nat) : Option LOp := (ops[x.1]?).map fun o => ⟨o.dst, o.op, slimG ops o.guard, x.2⟩
def lops (ops : Array Oper) (ord : List (Nat × Nat)) : List LOp := ord.filterMap (lop ops)

def AqK (P : Program) (A : AW) (r : Operand → Value) (op : Op) (k : Value → Prop) : Prop :=
  match aq P A r op with
  | some v => k v
  | none => False

def LWalk (P : Program) (S : AW → Prop) (K : Fr → AW → Prop) : List LOp → Fr → AW → Prop
  | [], a, A => K a A
  | o :: rest, a, A =>
    if sg a o.guard = true then
      match o.mode with
      | 0 => AqK P A (evF a) o.op fun v => LWalk P S K rest (putF a o.dst v) A
      | 1 => AqK P A (evF a) o.op fun v => (∀ A', S A' → aq P A' (evF a) o.op = some v) ∧ LWalk P S K rest (putF a o.dst v) A
      | 2 => AStep P o.op (evF a) A fun v A' => A.le A' ∧ LWalk P S K rest (putF a o.dst v) A'
      | 3 => AStep P o.op (evF a) A fun v A' => S A' ∧ LWalk P S K rest (putF a o.dst v) A'
      | _ => AStep P o.op (evF a) A fun v A' => LWalk P S K rest (putF a o.dst v) A'
    else LWalk P S K rest (putF a o.dst undef) A

def mdOf (ord : List (Nat × Nat)) (j : Nat) : Nat := ((ord.find? fun x => x.1 == j).map (·.2)).getD 3

def readyB (M : Nat) (i : Nat) (o : Oper) : Bool := !M.testBit i && o.after.all fun e => !Region.binds .any e || M.testBit e.on
def freeB (ops : Array Oper) (M : Nat) (i : Nat) (o : Oper) : Bool := (List.range ops.size).all fun j => j == i || M.testBit j || match ops[j]? with
  | some oj => oj.after.any (fun e => Region.binds .any e && e.on == i) || o.apart ops oj
  | none => true
def forcedB (ops : Array Oper) (anc : List Nat) (ord : List (Nat × Nat)) (M i : Nat) : Bool := (List.range ops.size).all fun j => j == i || M.testBit j || !(Nat.ble 3 (mdOf ord j)) || (anc.getD j 0).testBit i
def forced4B (ops : Array Oper) (anc : List Nat) (ord : List (Nat × Nat)) (M i : Nat) : Bool := (List.range ops.size).all fun j => j == i || M.testBit j || !(Nat.ble 4 (mdOf ord j)) || (anc.getD j 0).testBit i
def soleB (ops : Array Oper) (M i : Nat) : Bool := (List.range ops.size).all fun j => j == i || match ops[j]? with
  | some oj => !readyB M j oj
  | none => true

def linGo (ops : Array Oper) (anc : List Nat) (ord : List (Nat × Nat)) : Nat → List (Nat × Nat) → Bool
  | M, [] => (List.range ops.size).all fun j => M.testBit j
  | M, (i, m) :: r => (match ops[i]? with
      | none => false
      | some o => readyB M i o && Nat.beq (mdOf ord i) m && (if Nat.ble m 1 then freeB ops M i o && ((Nat.beq m 1 && forced4B ops anc ord M i) || memless o.op || forcedB ops anc ord M i) else soleB ops M i)) && linGo ops anc ord (M ||| 2 ^ i) r

/-- The order fits the region. -/
def linB (ops : Array Oper) (ord : List (Nat × Nat)) : Bool := aheadOk ops && (let anc := ancL ops.toList []; ancOk ops anc && (linGo ops anc ord 0 ord && ord.all fun x => match ops[x.1]? with | some o => Nat.ble x.2 1 == quietOp o.op | none => false))

theorem readyB_spec {M i : Nat} {o : Oper} {L : Nat → Bool} (hi : i < ops.size) (hah : aheadOk ops = true) (ho : ops[i]? = some o) (hL : ∀ j, j < ops.size → L j = M.testBit j) : readyB M i o = true ↔ Rdy L i o := by
  unfold readyB Rdy
  rw [Bool.and_eq_true, Bool.not_eq_true', ← hL i hi, Array.all_eq_true_iff_forall_mem]
  refine and_congr Iff.rfl (forall_congr' fun e => forall_congr' fun he => ?_)
  simp only [Bool.or_eq_true, Bool.not_eq_true']
  constructor
  · rintro (h | h) hb
    · rw [h] at hb; cases hb
    · have hlt := aheadOk_lt hah ho he hb
      rw [hL e.on (by omega)]
      exact h
  · intro h
    cases hb : Region.binds .any e
    · exact .inl rfl
    · have hlt := aheadOk_lt hah ho he hb
      rw [← hL e.on (by omega)]
      exact .inr (h hb)

theorem aany_of_walk (hah : aheadOk ops = true) (ha : ancOk ops anc = true) {ord : List (Nat × Nat)} : ∀ (l : List (Nat × Nat)) (M : Nat) (L : Nat → Bool) (a : Fr) (A : AW), (∀ j, j < ops.size → L j = M.testBit j) → Closed ops L →
    linGo ops anc ord M l = true → LWalk P S K (lops ops l) a A → AAny P ops S (mdOf ord) K l.length L a A
  | [], M, L, a, A, hL, hc, hg, h => ⟨fun j hj => by rw [hL j hj]; exact List.all_eq_true.1 hg j (List.mem_range.2 hj), h⟩
  | (i, m) :: r, M, L, a, A, hL, hc, hg, h => by
    unfold linGo at hg
    rw [Bool.and_eq_true] at hg
    obtain ⟨hg1, hg2⟩ := hg
    cases hi : ops[i]? with
    | none => rw [hi] at hg1; cases hg1
    | some o =>
      rw [hi] at hg1
      simp only [Bool.and_eq_true] at hg1
      obtain ⟨⟨hr, hmd⟩, hcls⟩ := hg1
      have hil := (Array.getElem?_eq_some_iff.1 hi).1
      have hmd' : mdOf ord i = m := Nat.eq_of_beq_eq_true hmd
      have hrd : Rdy L i o := (readyB_spec hil hah hi hL).1 hr
      have hL' : ∀ j, j < ops.size → setL L i j = (M ||| 2 ^ i).testBit j := fun j hj => by
        rw [Nat.testBit_or, Nat.testBit_two_pow, ← hL j hj]
        unfold setL
        by_cases e : j = i
        · subst e; simp
        · have : ¬ i = j := fun x => e x.symm
          simp [e, this]
      have hc' := hc.set hi hrd
      have IH : ∀ a A, LWalk P S K (lops ops r) a A → AAny P ops S (mdOf ord) K r.length (setL L i) a A := fun a A h => aany_of_walk hah ha r (M ||| 2 ^ i) _ a A hL' hc' hg2 h
      have hlop : lops ops ((i, m) :: r) = ⟨o.dst, o.op, slimG ops o.guard, m⟩ :: lops ops r := by simp [lops, lop, hi]
      rw [hlop] at h
      unfold LWalk at h
      simp only [← sg_eq] at h
      have hsole : ¬ m ≤ 1 → ∀ j oj, ops[j]? = some oj → Rdy L j oj → j = i := fun hm1 j oj hj hrj => by
        rw [if_neg (by simpa [Nat.ble_eq] using hm1)] at hcls
        have h1 := List.all_eq_true.1 hcls j (List.mem_range.2 (Array.getElem?_eq_some_iff.1 hj).1)
        rw [hj] at h1
        simp only [Bool.or_eq_true, beq_iff_eq, Bool.not_eq_true'] at h1
        rcases h1 with h1 | h1
        · exact h1
        · rw [(readyB_spec (Array.getElem?_eq_some_iff.1 hj).1 hah hj hL).2 hrj] at h1
          cases h1
      have hnall : ¬ ∀ j, j < ops.size → L j = true := fun hall => by
        have := hall i hil
        rw [hrd.1] at this
        cases this
      by_cases hm1 : m ≤ 1
      · rw [if_pos (by simpa [Nat.ble_eq] using hm1)] at hcls
        simp only [Bool.and_eq_true] at hcls
        obtain ⟨hfr, hst⟩ := hcls
        have hfree : ∀ j oj, ops[j]? = some oj → j ≠ i → L j = false → (∀ e ∈ oj.after, Region.binds .any e = true → e.on ≠ i) → o.apart ops oj = true := fun j oj hj hji hLj hno => by
          have hjl := (Array.getElem?_eq_some_iff.1 hj).1
          have h1 := List.all_eq_true.1 hfr j (List.mem_range.2 hjl)
          rw [hj, ← hL j hjl, hLj] at h1
          simp only [Bool.or_eq_true, beq_iff_eq, Bool.false_eq_true, or_false] at h1
          rcases h1 with h1 | h1 | h1
          · exact absurd h1 hji
          · exfalso
            rw [Array.any_eq_true] at h1
            obtain ⟨q, hq, h2⟩ := h1
            simp only [Bool.and_eq_true, beq_iff_eq] at h2
            exact hno _ (Array.getElem_mem hq) h2.1 h2.2
          · exact h1
        have fin : ∀ v, ((gval ops a o = true ∧ aq P A (evF a) o.op = some v) ∨ (gval ops a o = false ∧ v = undef)) → (m = 1 → gval ops a o = true → ∀ A', S A' → aq P A' (evF a) o.op = some v) →
            LWalk P S K (lops ops r) (putF a o.dst v) A → AAny P ops S (mdOf ord) K (r.length + 1) L a A := by
          intro v hy hS hk
          refine aany_first hah ha hi (by omega) r.length L a A hc hfree ?_ hrd hy (IH _ _ hk)
          simp only [Bool.or_eq_true] at hst
          rcases hst with (h1 | h1) | h1
          · rw [Bool.and_eq_true] at h1
            refine .inr (.inr ⟨fun j oj hj hji h3 hLj => ?_, fun A' hA' hgv => hS (Nat.eq_of_beq_eq_true h1.1) hgv A' hA'⟩)
            have hjl := (Array.getElem?_eq_some_iff.1 hj).1
            have h2 := List.all_eq_true.1 h1.2 j (List.mem_range.2 hjl)
            rw [← hL j hjl, hLj] at h2
            have hb3 : Nat.ble 4 (mdOf ord j) = true := Nat.ble_eq_true_of_le h3
            rw [hb3] at h2
            simpa [hji] using h2
          · exact .inl h1
          · refine .inr (.inl fun j oj hj hji h3 hLj => ?_)
            have hjl := (Array.getElem?_eq_some_iff.1 hj).1
            have h2 := List.all_eq_true.1 h1 j (List.mem_range.2 hjl)
            rw [← hL j hjl, hLj] at h2
            have hb3 : Nat.ble 3 (mdOf ord j) = true := Nat.ble_eq_true_of_le h3
            rw [hb3] at h2
            simpa [hji] using h2
        split at h
        · rename_i hgv
          have : m = 0 ∨ m = 1 := by omega
          rcases this with rfl | rfl
          · simp only [AqK] at h
            split at h
            · rename_i v hv
              exact fin v (.inl ⟨hgv, hv⟩) (fun e => by omega) h
            · exact h.elim
          · simp only [AqK] at h
            split at h
            · rename_i v hv
              exact fin v (.inl ⟨hgv, hv⟩) (fun _ _ => h.1) h.2
            · exact h.elim
        · rename_i hgv
          have hgv' : gval ops a o = false := by simpa using hgv
          exact fin undef (.inr ⟨hgv', rfl⟩) (fun _ e => by rw [hgv'] at e; cases e) h
      · refine ⟨fun hall => absurd hall hnall, fun hw j oj hj hrj => ?_⟩
        have hji := hsole hm1 j oj hj hrj
        subst hji
        rw [hi] at hj
        injection hj with hj
        subst hj
        unfold LStp
        split at h
        · rename_i hgv
          rw [if_pos hgv, if_neg (by omega), hmd']
          by_cases h2 : m = 2
          · subst h2
            exact h.mono fun v A' hh => ⟨by rw [if_pos rfl]; exact hh.1, IH _ _ hh.2⟩
          · have : ∃ q, m = q + 3 := ⟨m - 3, by omega⟩
            obtain ⟨q, rfl⟩ := this
            cases q with
            | zero => exact h.mono fun v A' hh => ⟨by rw [if_neg h2]; exact fun _ => hh.1, IH _ _ hh.2⟩
            | succ q => exact h.mono fun v A' hh => ⟨by rw [if_neg h2]; exact fun e => by omega, IH _ _ hh⟩
        · rename_i hgv
          rw [if_neg hgv]
          exact IH _ _ h

end

/-- A region that draws its order, then the rest. -/
theorem awp_ls {P : Program} {n : Nat} {Q : Exit → Fr → AW → Prop} {a : Fr} {A : AW} {id : Nat} {ops : Array Oper} {y : Code} (S : AW → Prop) (ord : List (Nat × Nat)) (hm : P.follows .mixedOrders = true) (hB : linB ops ord = true)
    (h : ∀ K : Fr → AW → Prop, (∀ a A, AWP P n y Q a A → K a A) → LWalk P S K (lops ops ord) a A) : AWP P n (.seq (.region id ops true) y) Q a A := by
  simp only [linB, Bool.and_eq_true] at hB
  exact awp_seq (awp_of_aany hm hB.1 (aany_of_walk hB.1 hB.2.1 ord 0 _ a A (fun j _ => by simp) (fun k o _ hk => by cases hk) hB.2.2.1 (h _ fun _ _ h => h)))
theorem awp_l1 {P : Program} {n : Nat} {Q : Exit → Fr → AW → Prop} {a : Fr} {A : AW} {id : Nat} {ops : Array Oper} (S : AW → Prop) (ord : List (Nat × Nat)) (hm : P.follows .mixedOrders = true) (hB : linB ops ord = true)
    (h : ∀ K : Fr → AW → Prop, (∀ a A, Q .normal a A → K a A) → LWalk P S K (lops ops ord) a A) : AWP P n (.region id ops true) Q a A := by
  simp only [linB, Bool.and_eq_true] at hB
  exact awp_of_aany hm hB.1 (aany_of_walk hB.1 hB.2.1 ord 0 _ a A (fun j _ => by simp) (fun k o _ hk => by cases hk) hB.2.2.1 (h _ fun _ _ h => h))

theorem lwalk_cons {P : Program} {S : AW → Prop} {K : Fr → AW → Prop} {o : LOp} {rest : List LOp} {a : Fr} {A : AW}
    (h : ∀ R : Fr → AW → Prop, (∀ a A, LWalk P S K rest a A → R a A) →
      if sg a o.guard = true then
        match o.mode with
        | 0 => AqK P A (evF a) o.op fun v => R (putF a o.dst v) A
        | 1 => AqK P A (evF a) o.op fun v => (∀ A', S A' → aq P A' (evF a) o.op = some v) ∧ R (putF a o.dst v) A
        | 2 => AStep P o.op (evF a) A fun v A' => A.le A' ∧ R (putF a o.dst v) A'
        | 3 => AStep P o.op (evF a) A fun v A' => S A' ∧ R (putF a o.dst v) A'
        | _ => AStep P o.op (evF a) A fun v A' => R (putF a o.dst v) A'
      else R (putF a o.dst undef) A) : LWalk P S K (o :: rest) a A := h _ fun _ _ h => h
theorem lwalk_nil {P : Program} {S : AW → Prop} {K : Fr → AW → Prop} {a : Fr} {A : AW} (h : K a A) : LWalk P S K [] a A := h

attribute [simp] AqK

end Go.Stx

namespace Go.Stx
open Go
variable [Gl]
set_option linter.unusedSectionVars false
set_option linter.unusedVariables false

def updV (val : Nat → Value) (i : Nat) (v : Value) : Nat → Value := fun j => if j = i then v else val j

/-- Slots are written once, and no operation is guarded. -/
def mixOk (ops : Array Oper) : Bool := aheadOk ops && (List.range ops.size).all fun i => match ops[i]? with
  | some o => o.guard.isNone && (List.range ops.size).all fun j => j == i || match ops[j]?, o.dst with
    | some oj, some d => !(oj.dst == some d)
    | _, _ => true
  | none => false

theorem mixOk_spec {ops : Array Oper} (h : mixOk ops = true) : aheadOk ops = true ∧ (∀ (i : Nat) (o : Oper), ops[i]? = some o → o.guard = none) ∧
    ∀ (i j : Nat) (o oj : Oper) (d : Tmp), ops[i]? = some o → ops[j]? = some oj → i ≠ j → o.dst = some d → oj.dst ≠ some d := by
  simp only [mixOk, Bool.and_eq_true] at h
  refine ⟨h.1, fun i o ho => ?_, fun i j o oj d ho hoj hne hd hdj => ?_⟩
  · have := List.all_eq_true.1 h.2 i (List.mem_range.2 (Array.getElem?_eq_some_iff.1 ho).1)
    rw [ho] at this
    simp only [Bool.and_eq_true] at this
    simpa using this.1
  · have := List.all_eq_true.1 h.2 i (List.mem_range.2 (Array.getElem?_eq_some_iff.1 ho).1)
    rw [ho] at this
    simp only [Bool.and_eq_true] at this
    have h2 := List.all_eq_true.1 this.2 j (List.mem_range.2 (Array.getElem?_eq_some_iff.1 hoj).1)
    rw [hoj, hd] at h2
    simp only [Bool.or_eq_true, beq_iff_eq, Bool.not_eq_true'] at h2
    rcases h2 with h2 | h2
    · exact hne h2.symm
    · rw [hdj] at h2
      simp at h2

theorem awp_mix {P : Program} {n : Nat} {Q : Exit → Fr → AW → Prop} {a0 : Fr} {A0 : AW} {id : Nat} {ops : Array Oper} (hm : P.follows .mixedOrders = true) (hB : mixOk ops = true)
    (G : (Nat → Bool) → (Nat → Value) → HP) (φ : Nat → (Nat → Value) → Prop)
    (hG : ∀ (S : Nat → Bool) (i : Nat) (val : Nat → Value) (v : Value), Closed ops S → S i = false → G S (updV val i v) = G S val)
    (hφ : ∀ (S : Nat → Bool) (i j : Nat) (val : Nat → Value) (v : Value), Closed ops S → S i = false → S j = true → φ j val → φ j (updV val i v))
    (h0 : ∀ val, Sat A0 (G (fun _ => false) val))
    (hstep : ∀ (i : Nat) (o : Oper), ops[i]? = some o → ∀ (S : Nat → Bool) (val : Nat → Value) (a : Fr) (A : AW), S i = false → (∀ e ∈ o.after, Region.binds .any e = true → S e.on = true) → Closed ops S → (∀ j, S j = true → φ j val) → A.Wf → Sat A (G S val) →
      (∀ (j : Nat) (oj : Oper) (d : Tmp), ops[j]? = some oj → oj.dst = some d → S j = true → a d = val j) → (∀ d : Tmp, (ops.toList.all fun o => !(o.dst == some d)) = true → a d = a0 d) →
      AStep P o.op (evF a) A fun v A' => φ i (updV val i v) ∧ Sat A' (G (setL S i) (updV val i v)))
    (hend : ∀ (S : Nat → Bool) (val : Nat → Value) (a : Fr) (A : AW), (∀ i, i < ops.size → S i = true) → (∀ j, S j = true → φ j val) → A.Wf → Sat A (G S val) →
      (∀ (j : Nat) (oj : Oper) (d : Tmp), ops[j]? = some oj → oj.dst = some d → S j = true → a d = val j) → (∀ d : Tmp, (ops.toList.all fun o => !(o.dst == some d)) = true → a d = a0 d) → Q .normal a A) :
    AWP P n (.region id ops true) Q a0 A0 := by
  obtain ⟨hah, hgd, hds⟩ := mixOk_spec hB
  intro hok m w ca hs hf
  have hw0 : A0.Wf := hs.low
  refine awp_any hm hah (fun S a A => (A.Wf → Closed ops S ∧ ∃ val, (∀ j, S j = true → φ j val) ∧ Sat A (G S val) ∧ (∀ (j : Nat) (oj : Oper) (d : Tmp), ops[j]? = some oj → oj.dst = some d → S j = true → a d = val j) ∧
    (∀ d : Tmp, (ops.toList.all fun o => !(o.dst == some d)) = true → a d = a0 d) ∧ ((∀ i, i < ops.size → S i = true) → Q .normal a A))) ?_ ?_ ?_ hok m w ca hs hf
  · intro hw
    refine ⟨?_, fun _ => undef, ?_, h0 _, ?_, ?_, fun hall => ?_⟩
    · intro k o _ h; cases h
    · intro j h; cases h
    · intro j oj d _ _ h; cases h
    · intro d _; rfl
    · refine hend (fun _ => false) (fun _ => undef) a0 A0 hall ?_ hw0 (h0 _) ?_ ?_
      · intro j h; cases h
      · intro j oj d _ _ h; cases h
      · intro d _; rfl
  · intro S a A i o hw hJ ho hSi hdep
    obtain ⟨hcl, val, h1, h2, h3, h4, _⟩ := hJ hw
    have hcl' := hcl.set ho ⟨hSi, hdep⟩
    have hst := hstep i o ho S val a A hSi hdep hcl h1 hw h2 h3 h4
    unfold AOp1
    have hg : gval ops a o = true := by simp [gval, hgd i o ho]
    rw [if_pos hg]
    refine hst.mono fun v A' ⟨h5, h6⟩ hw' => ?_
    have hp : ∀ j, setL S i j = true → φ j (updV val i v) := fun j hj => by
      by_cases e : j = i
      · subst e; exact h5
      · have : S j = true := by simpa [setL, e] using hj
        exact hφ S i j val v hcl hSi this (h1 j this)
    have hfr : ∀ j oj d, ops[j]? = some oj → oj.dst = some d → setL S i j = true → putF a o.dst v d = updV val i v j := fun j oj d hj hd hSj => by
      by_cases e : j = i
      · subst e
        rw [ho] at hj
        injection hj with hj
        subst hj
        rw [hd]
        simp [putF, upd, updV]
      · have hSj' : S j = true := by simpa [setL, e] using hSj
        have hne : o.dst ≠ some d := fun x => hds i j o oj d ho hj (Ne.symm e) x hd
        have : putF a o.dst v d = a d := by
          cases hod : o.dst with
          | none => rfl
          | some q =>
            have : d ≠ q := fun x => hne (by rw [hod, x])
            simp [putF, upd, this]
        rw [this, h3 j oj d hj hd hSj']
        simp [updV, e]
    have hout : ∀ d : Tmp, (ops.toList.all fun o => !(o.dst == some d)) = true → putF a o.dst v d = a0 d := fun d hd => by
      have hne : o.dst ≠ some d := fun x => by
        have := List.all_eq_true.1 hd o (Array.mem_toList_iff.2 (Array.mem_of_getElem? ho))
        rw [x] at this
        simp at this
      have : putF a o.dst v d = a d := by
        cases hod : o.dst with
        | none => rfl
        | some q =>
          have : d ≠ q := fun x => hne (by rw [hod, x])
          simp [putF, upd, this]
      rw [this]
      exact h4 d hd
    exact ⟨hcl', updV val i v, hp, h6, hfr, hout, fun hall => hend _ _ _ _ hall hp hw' h6 hfr hout⟩
  · intro S a A hw hJ hall
    obtain ⟨_, val, _, _, _, _, h⟩ := hJ hw
    exact h hall

/-! ### The same, with the region's shape asked by Bools -/

def edgeB (ops : Array Oper) (k j : Nat) : Bool := match ops[k]? with
  | some o => o.after.toList.any fun e => Region.binds .any e && e.on == j
  | none => false
def dstB (ops : Array Oper) (j d : Nat) : Bool := match ops[j]? with
  | some o => o.dst == some d
  | none => false
def undstB (ops : Array Oper) (d : Nat) : Bool := ops.toList.all fun o => !(o.dst == some d)
def opAt (ops : Array Oper) (i : Nat) : Op := match ops[i]? with
  | some o => o.op
  | none => .alloc 0

/-- What the walk knows of the operations that are done. -/
structure MixSt (ops : Array Oper) (φ : Nat → (Nat → Value) → Prop) (a0 : Fr) (S : Nat → Bool) (val : Nat → Value) (a : Fr) : Prop where
  closed : ∀ k j, edgeB ops k j = true → S k = true → S j = true
  fact : ∀ j, S j = true → φ j val
  slot : ∀ j d, dstB ops j d = true → S j = true → a d = val j
  old : ∀ d, undstB ops d = true → a d = a0 d

theorem edge_of {ops : Array Oper} {S : Nat → Bool} (hc : Closed ops S) (k j : Nat) (h : edgeB ops k j = true) (hk : S k = true) : S j = true := by
  unfold edgeB at h
  split at h
  · rename_i o ho
    obtain ⟨e, he, h2⟩ := List.any_eq_true.1 h
    simp only [Bool.and_eq_true, beq_iff_eq] at h2
    rw [← h2.2]
    exact hc k o ho hk e (Array.mem_toList_iff.1 he) h2.1
  · cases h

theorem awp_mix' {P : Program} {n : Nat} {Q : Exit → Fr → AW → Prop} {a0 : Fr} {A0 : AW} {id : Nat} {ops : Array Oper} (hm : P.follows .mixedOrders = true) (hB : mixOk ops = true)
    (G : (Nat → Bool) → (Nat → Value) → HP) (φ : Nat → (Nat → Value) → Prop)
    (hG : ∀ (S : Nat → Bool) (i : Nat) (val : Nat → Value) (v : Value), (∀ k j, edgeB ops k j = true → S k = true → S j = true) → S i = false → G S (updV val i v) = G S val)
    (hφ : ∀ (S : Nat → Bool) (i j : Nat) (val : Nat → Value) (v : Value), (∀ k j, edgeB ops k j = true → S k = true → S j = true) → S i = false → S j = true → φ j val → φ j (updV val i v))
    (h0 : ∀ val, Sat A0 (G (fun _ => false) val))
    (hstep : ∀ (i : Nat), i < ops.size → ∀ (S : Nat → Bool) (val : Nat → Value) (a : Fr) (A : AW), S i = false → (∀ j, edgeB ops i j = true → S j = true) → MixSt ops φ a0 S val a → A.Wf → Sat A (G S val) →
      AStep P (opAt ops i) (evF a) A fun v A' => φ i (updV val i v) ∧ Sat A' (G (setL S i) (updV val i v)))
    (hend : ∀ (S : Nat → Bool) (val : Nat → Value) (a : Fr) (A : AW), (∀ i, i < ops.size → S i = true) → MixSt ops φ a0 S val a → A.Wf → Sat A (G S val) → Q .normal a A) :
    AWP P n (.region id ops true) Q a0 A0 := by
  have slots : ∀ {S : Nat → Bool} {val : Nat → Value} {a : Fr}, (∀ (j : Nat) (oj : Oper) (d : Tmp), ops[j]? = some oj → oj.dst = some d → S j = true → a d = val j) → ∀ j d, dstB ops j d = true → S j = true → a d = val j := by
    intro S val a h j d hd hj
    unfold dstB at hd
    split at hd
    · rename_i o ho
      exact h j o d ho (by simpa using hd) hj
    · cases hd
  refine awp_mix hm hB G φ (fun S i val v hc => hG S i val v (edge_of hc)) (fun S i j val v hc => hφ S i j val v (edge_of hc)) h0 ?_ ?_
  · intro i o ho S val a A hi hdep hc hp hw hs hf h0'
    have hop : opAt ops i = o.op := by unfold opAt; rw [ho]
    have hmem : ∀ j, edgeB ops i j = true → S j = true := fun j hj => by
      unfold edgeB at hj
      rw [ho] at hj
      obtain ⟨e, he, h2⟩ := List.any_eq_true.1 hj
      simp only [Bool.and_eq_true, beq_iff_eq] at h2
      rw [← h2.2]
      exact hdep e (Array.mem_toList_iff.1 he) h2.1
    have hlt : i < ops.size := (Array.getElem?_eq_some_iff.1 ho).1
    have key := hstep i hlt S val a A hi hmem ⟨edge_of hc, hp, slots hf, h0'⟩ hw hs
    rw [hop] at key
    exact key
  · intro S val a A hall hp hw hs hf h0'
    refine hend S val a A hall ⟨?_, hp, slots hf, h0'⟩ hw hs
    intro k j h hk
    unfold edgeB at h
    split at h
    · rename_i o ho
      obtain ⟨e, he, h2⟩ := List.any_eq_true.1 h
      simp only [Bool.and_eq_true, beq_iff_eq] at h2
      have hlt := aheadOk_lt (mixOk_spec hB).1 ho (Array.mem_toList_iff.1 he) h2.1
      have hk' := (Array.getElem?_eq_some_iff.1 ho).1
      exact hall j (by omega)
    · cases h

end Go.Stx

namespace Go.Stx
open Go
variable [Gl]
set_option linter.unusedSectionVars false
set_option linter.unusedVariables false

/-- The operations of a region that draws no order. -/
def nop (ops : Array Oper) (o : Oper) : LOp := ⟨o.dst, o.op, slimG ops o.guard, 3⟩
def nops (ops : Array Oper) : List LOp := ops.toList.map (nop ops)

theorem lwalk_of_aops {P : Program} {ops : Array Oper} {K : Fr → AW → Prop} : ∀ (l : List Oper) (a : Fr) (A : AW), LWalk P (fun _ => True) K (l.map (nop ops)) a A → AOps P ops K l a A
  | [], a, A, h => h
  | o :: rest, a, A, h => by
    simp only [List.map_cons, LWalk, nop] at h
    simp only [AOps, sg_eq]
    split
    · rename_i hg
      rw [if_pos hg] at h
      exact h.mono fun v A' hh => lwalk_of_aops rest _ _ hh.2
    · rename_i hg
      rw [if_neg hg] at h
      exact lwalk_of_aops rest _ _ h

section
variable {P : Program} {n : Nat} {Q : Exit → Fr → AW → Prop} {a : Fr} {A : AW} {id : Nat}

theorem wn {ops : Array Oper} (h : ∀ K : Fr → AW → Prop, (∀ a A, Q .normal a A → K a A) → LWalk P (fun _ => True) K (nops ops) a A) : AWP P n (.region id ops false) Q a A :=
  awp_region (lwalk_of_aops _ _ _ (h _ fun _ _ h => h))
theorem wl {ops : Array Oper} (hm : P.follows .mixedOrders = true) (ord : List (Nat × Nat)) (hB : linB ops ord = true)
    (h : ∀ K : Fr → AW → Prop, (∀ a A, Q .normal a A → K a A) → LWalk P (fun _ => True) K (lops ops ord) a A) : AWP P n (.region id ops true) Q a A := awp_l1 _ ord hm hB h
theorem wlS {ops : Array Oper} (S : AW → Prop) (hm : P.follows .mixedOrders = true) (ord : List (Nat × Nat)) (hB : linB ops ord = true)
    (h : ∀ K : Fr → AW → Prop, (∀ a A, Q .normal a A → K a A) → LWalk P S K (lops ops ord) a A) : AWP P n (.region id ops true) Q a A := awp_l1 S ord hm hB h
end

theorem lwc {P : Program} {S : AW → Prop} {K : Fr → AW → Prop} {o : LOp} {rest : List LOp} {a : Fr} {A : AW}
    (h : ∀ R : Fr → AW → Prop, (∀ a A, LWalk P S K rest a A → R a A) →
      if sg a o.guard = true then
        match o.mode with
        | 0 => AqK P A (evF a) o.op fun v => R (putF a o.dst v) A
        | 1 => AqK P A (evF a) o.op fun v => (∀ A', S A' → aq P A' (evF a) o.op = some v) ∧ R (putF a o.dst v) A
        | 2 => AStep P o.op (evF a) A fun v A' => A.le A' ∧ R (putF a o.dst v) A'
        | 3 => AStep P o.op (evF a) A fun v A' => S A' ∧ R (putF a o.dst v) A'
        | _ => AStep P o.op (evF a) A fun v A' => R (putF a o.dst v) A'
      else R (putF a o.dst undef) A) : LWalk P S K (o :: rest) a A := lwalk_cons h
theorem lwn {P : Program} {S : AW → Prop} {K : Fr → AW → Prop} {a : Fr} {A : AW} (h : K a A) : LWalk P S K [] a A := h
theorem lr {A : AW} {p : Prop} (h : p) : A.le A ∧ p := ⟨AW.le.refl A, h⟩
theorem la {A : AW} {o : AObj} {p : Prop} (h : p) : A.le (A.alloc o) ∧ p := ⟨AW.le.alloc A o, h⟩
theorem wb {P : Program} {n : Nat} {Q : Exit → Fr → AW → Prop} {a : Fr} {A : AW} {id : Nat} {c : Code} (h : AWP P n c (ABlock id Q) a A) : AWP P n (.block id c) Q a A := awp_block h
theorem wq {P : Program} {n : Nat} {Q : Exit → Fr → AW → Prop} {a : Fr} {A : AW} {x y : Code} (h : AWP P n x (AThen (AWP P n y Q) Q) a A) : AWP P n (.seq x y) Q a A := awp_seq h
theorem wr {P : Program} {n : Nat} {Q : Exit → Fr → AW → Prop} {a : Fr} {A : AW} (h : Q .ret a A) : AWP P n .ret Q a A := awp_ret h
theorem wk {P : Program} {n : Nat} {Q : Exit → Fr → AW → Prop} {a : Fr} {A : AW} (h : Q .normal a A) : AWP P n .skip Q a A := awp_skip h
theorem we {P : Program} {n : Nat} {Q : Exit → Fr → AW → Prop} {a : Fr} {A : AW} {id : Nat} (h : Q (.exit id) a A) : AWP P n (.exit id) Q a A := awp_exit h
theorem wc {P : Program} {n : Nat} {Q : Exit → Fr → AW → Prop} {a : Fr} {A : AW} {c : Operand} {x y : Code} {b : Bool} (hc : evF a c = .bool b) (h1 : b = true → AWP P n x Q a A) (h2 : b = false → AWP P n y Q a A) :
    AWP P n (.cond c x y) Q a A := awp_cond hc h1 h2
theorem ws {P : Program} {n : Nat} {c : Code} {Q : Exit → Fr → AW → Prop} {a : Fr} {A : AW} {k : Nat} (h : AWP P n c (AThen (ARounds P n c Q k) Q) a A) : ARounds P n c Q (k + 1) a A := h
theorem ib {c : Prop} [Decidable c] {p q : Prop} (h1 : c → p) (h2 : ¬c → q) : if c then p else q := ite_both h1 h2

/-- What lays the operations of a region out. -/
theorem wS : (∀ ops : Array Oper, nops ops = ops.toList.map (nop ops)) ∧ (∀ (ops : Array Oper) (o : Oper), nop ops o = ⟨o.dst, o.op, slimG ops o.guard, 3⟩) ∧
    (∀ (ops : Array Oper) (l : List (Nat × Nat)), lops ops l = l.filterMap (lop ops)) ∧ (∀ (ops : Array Oper) (x : Nat × Nat), lop ops x = (ops[x.1]?).map fun o => ⟨o.dst, o.op, slimG ops o.guard, x.2⟩) ∧
    (∀ (ops : Array Oper) (g : Option (Nat × Bool)), slimG ops g = g.map fun x => ((ops[x.1]?).bind (·.dst), x.2)) ∧
    (∀ (f : Oper → LOp) (a : Oper) (l : List Oper), List.map f (a :: l) = f a :: List.map f l) ∧ (∀ f : Oper → LOp, List.map f [] = []) ∧
    (∀ (f : Nat × Nat → Option LOp) (a : Nat × Nat) (l : List (Nat × Nat)), List.filterMap f (a :: l) = match f a with | none => List.filterMap f l | some b => b :: List.filterMap f l) ∧ (∀ f : Nat × Nat → Option LOp, List.filterMap f [] = []) ∧
    (∀ f : Oper → LOp, Option.map f none = none) ∧ (∀ (f : Oper → LOp) (a : Oper), Option.map f (some a) = some (f a)) ∧
    (∀ f : Nat × Bool → Option Tmp × Bool, Option.map f none = none) ∧ (∀ (f : Nat × Bool → Option Tmp × Bool) (a : Nat × Bool), Option.map f (some a) = some (f a)) ∧
    (∀ (l : List Oper) (i : Nat), l.toArray[i]? = l[i]?) ∧ (∀ (a : Oper) (l : List Oper), (a :: l)[0]? = some a) ∧ (∀ (a : Oper) (l : List Oper) (i : Nat), (a :: l)[i + 1]? = l[i]?) ∧
    (∀ (a : Oper) (f : Oper → Option Tmp), (some a).bind f = f a) := by
  refine ⟨fun _ => rfl, fun _ _ => rfl, fun _ _ => rfl, fun _ _ => rfl, fun _ _ => rfl, fun _ _ _ => rfl, fun _ => rfl, fun f a l => ?_, fun _ => rfl, fun _ => rfl, fun _ _ => rfl, fun _ => rfl, fun _ _ => rfl, fun l i => ?_, fun _ _ => rfl, fun _ _ _ => rfl, fun _ _ => rfl⟩
  · rw [List.filterMap_cons]; cases f a <;> rfl
  · simp

attribute [simp] AW.get_alloc AW.get_set Value.oneCell'

end Go.Stx

namespace Go.Stx
open Go
variable [Gl]
set_option linter.unusedSectionVars false
set_option linter.unusedVariables false

inductive OTree where
  | nil
  | one (i : Nat) (t : OTree)
  | two (i : Nat) (t : OTree) (j : Nat) (t' : OTree)

inductive LTree where
  | nil
  | one (o : LOp) (t : LTree)
  | two (o : LOp) (t : LTree) (o' : LOp) (t' : LTree)

def tlop (ops : Array Oper) (md : List Nat) (i : Nat) : LOp := match ops[i]? with
  | some o => ⟨o.dst, o.op, slimG ops o.guard, md.getD i 3⟩
  | none => ⟨none, .alloc 0, none, 3⟩
def ltree (ops : Array Oper) (md : List Nat) : OTree → LTree
  | .nil => .nil
  | .one i t => .one (tlop ops md i) (ltree ops md t)
  | .two i t j t' => .two (tlop ops md i) (ltree ops md t) (tlop ops md j) (ltree ops md t')

def LHead (P : Program) (S : AW → Prop) (o : LOp) (a : Fr) (A : AW) (R : Fr → AW → Prop) : Prop :=
  if sg a o.guard = true then
    match o.mode with
    | 0 => AqK P A (evF a) o.op fun v => R (putF a o.dst v) A
    | 1 => AqK P A (evF a) o.op fun v => (∀ A', S A' → aq P A' (evF a) o.op = some v) ∧ R (putF a o.dst v) A
    | 2 => AStep P o.op (evF a) A fun v A' => A.le A' ∧ R (putF a o.dst v) A'
    | 3 => AStep P o.op (evF a) A fun v A' => S A' ∧ R (putF a o.dst v) A'
    | _ => AStep P o.op (evF a) A fun v A' => R (putF a o.dst v) A'
  else R (putF a o.dst undef) A

def TW (P : Program) (S : AW → Prop) (K : Fr → AW → Prop) : LTree → Fr → AW → Prop
  | .nil, a, A => K a A
  | .one o t, a, A => LHead P S o a A (TW P S K t)
  | .two o t o' t', a, A => LHead P S o a A (TW P S K t) ∧ LHead P S o' a A (TW P S K t')

section
variable {P : Program} {ops : Array Oper} {S : AW → Prop} {K : Fr → AW → Prop} {anc : List Nat}

def tforcedB (ops : Array Oper) (anc md : List Nat) (M i : Nat) : Bool := (List.range ops.size).all fun j => j == i || M.testBit j || !(Nat.ble 3 (md.getD j 3)) || (anc.getD j 0).testBit i
def tforced4B (ops : Array Oper) (anc md : List Nat) (M i : Nat) : Bool := (List.range ops.size).all fun j => j == i || M.testBit j || !(Nat.ble 4 (md.getD j 3)) || (anc.getD j 0).testBit i
def onlyB (ops : Array Oper) (M i j : Nat) : Bool := (List.range ops.size).all fun k => k == i || k == j || match ops[k]? with
  | some o => !readyB M k o
  | none => true
def effOk (ops : Array Oper) (md : List Nat) (M i : Nat) : Bool := match ops[i]? with
  | some o => readyB M i o && !(Nat.ble (md.getD i 3) 1)
  | none => false

def treeGo (ops : Array Oper) (anc md : List Nat) : Nat → OTree → Bool
  | M, .nil => (List.range ops.size).all fun j => M.testBit j
  | M, .one i t => (match ops[i]? with
      | none => false
      | some o => readyB M i o && (if Nat.ble (md.getD i 3) 1 then freeB ops M i o && ((Nat.beq (md.getD i 3) 1 && tforced4B ops anc md M i) || memless o.op || tforcedB ops anc md M i) else onlyB ops M i i)) && treeGo ops anc md (M ||| 2 ^ i) t
  | M, .two i t j t' => effOk ops md M i && effOk ops md M j && onlyB ops M i j && treeGo ops anc md (M ||| 2 ^ i) t && treeGo ops anc md (M ||| 2 ^ j) t'

def treeB (ops : Array Oper) (md : List Nat) (t : OTree) : Bool := aheadOk ops && (let anc := ancL ops.toList []; ancOk ops anc && treeGo ops anc md 0 t)

def depth : OTree → Nat
  | .nil => 0
  | .one _ t => depth t + 1
  | .two _ t _ t' => max (depth t) (depth t') + 1

theorem aany_succ {md : Nat → Nat} : ∀ {n : Nat} {L : Nat → Bool} {a : Fr} {A : AW}, AAny P ops S md K n L a A → AAny P ops S md K (n + 1) L a A
  | 0, L, a, A, h => ⟨fun _ => h.2, fun _ i o ho hr => by have := h.1 i (Array.getElem?_eq_some_iff.1 ho).1; rw [hr.1] at this; cases this⟩
  | n + 1, L, a, A, h => ⟨h.1, fun hw i o ho hr => (h.2 hw i o ho hr).mono fun v A' _ _ _ _ hk => aany_succ hk⟩
theorem aany_le {md : Nat → Nat} {n m : Nat} (hnm : n ≤ m) {L : Nat → Bool} {a : Fr} {A : AW} (h : AAny P ops S md K n L a A) : AAny P ops S md K m L a A := by
  induction hnm with
  | refl => exact h
  | step _ ih => exact aany_succ ih

theorem lhead_lstp {md : List Nat} {i : Nat} {o : Oper} (hi : ops[i]? = some o) (hm : ¬ md.getD i 3 ≤ 1) {a : Fr} {A : AW} {R : Fr → AW → Prop} (h : LHead P S (tlop ops md i) a A R) : LStp P ops S (fun j => md.getD j 3) i o a A R := by
  simp only [LHead, tlop, hi, ← sg_eq] at h
  unfold LStp
  split
  · rename_i hg
    rw [if_pos hg] at h
    by_cases h2 : md.getD i 3 = 2
    · rw [h2] at h
      exact h.mono fun v A' hh => ⟨by rw [if_pos h2]; exact hh.1, hh.2⟩
    · have : ∃ q, md.getD i 3 = q + 3 := ⟨md.getD i 3 - 3, by omega⟩
      obtain ⟨q, hq⟩ := this
      rw [hq] at h
      cases q with
      | zero => exact h.mono fun v A' hh => ⟨by rw [if_neg h2]; exact fun _ => hh.1, hh.2⟩
      | succ q => exact h.mono fun v A' hh => ⟨by rw [if_neg h2]; exact fun e => by (have e' : md.getD i 3 = 3 := e); omega, hh⟩
  · rename_i hg
    rw [if_neg hg] at h
    exact h

theorem setL_mask {L : Nat → Bool} {M i : Nat} (hL : ∀ j, j < ops.size → L j = M.testBit j) : ∀ j, j < ops.size → setL L i j = (M ||| 2 ^ i).testBit j := fun j hj => by
  rw [Nat.testBit_or, Nat.testBit_two_pow, ← hL j hj]
  unfold setL
  by_cases e : j = i
  · subst e; simp
  · have : ¬ i = j := fun x => e x.symm
    simp [e, this]

theorem aany_of_tree (hah : aheadOk ops = true) (ha : ancOk ops anc = true) {md : List Nat} : ∀ (t : OTree) (M : Nat) (L : Nat → Bool) (a : Fr) (A : AW), (∀ j, j < ops.size → L j = M.testBit j) → Closed ops L →
    treeGo ops anc md M t = true → TW P S K (ltree ops md t) a A → AAny P ops S (fun j => md.getD j 3) K (depth t) L a A
  | .nil, M, L, a, A, hL, hc, hg, h => ⟨fun j hj => by rw [hL j hj]; exact List.all_eq_true.1 hg j (List.mem_range.2 hj), h⟩
  | .two i t j t', M, L, a, A, hL, hc, hg, h => by
    simp only [treeGo, Bool.and_eq_true] at hg
    obtain ⟨⟨⟨⟨hei, hej⟩, hon⟩, hgi⟩, hgj⟩ := hg
    have eff : ∀ {k : Nat}, effOk ops md M k = true → ∃ o, ops[k]? = some o ∧ Rdy L k o ∧ ¬ md.getD k 3 ≤ 1 := fun {k} hk => by
      unfold effOk at hk
      cases ho : ops[k]? with
      | none => rw [ho] at hk; cases hk
      | some o =>
        rw [ho] at hk
        simp only [Bool.and_eq_true, Bool.not_eq_true'] at hk
        refine ⟨o, rfl, (readyB_spec (Array.getElem?_eq_some_iff.1 ho).1 hah ho hL).1 hk.1, fun hle => ?_⟩
        rw [Nat.ble_eq_true_of_le hle] at hk
        exact absurd hk.2 (by simp)
    obtain ⟨oi, hi, hri, hmi⟩ := eff hei
    obtain ⟨oj, hj, hrj, hmj⟩ := eff hej
    refine ⟨fun hall => ?_, fun hw k ok hk hrk => ?_⟩
    · have := hall i (Array.getElem?_eq_some_iff.1 hi).1
      rw [hri.1] at this
      cases this
    · have hkij : k = i ∨ k = j := by
        have h1 := List.all_eq_true.1 hon k (List.mem_range.2 (Array.getElem?_eq_some_iff.1 hk).1)
        rw [hk] at h1
        simp only [Bool.or_eq_true, beq_iff_eq, Bool.not_eq_true'] at h1
        rcases h1 with (h1 | h1) | h1
        · exact .inl h1
        · exact .inr h1
        · rw [(readyB_spec (Array.getElem?_eq_some_iff.1 hk).1 hah hk hL).2 hrk] at h1
          cases h1
      rcases hkij with e | e
      · subst e
        rw [hi] at hk
        injection hk with hk
        subst hk
        exact (lhead_lstp hi hmi h.1).mono fun v A' _ _ _ _ hh => aany_le (Nat.le_max_left _ _) (aany_of_tree hah ha t _ _ _ A' (setL_mask hL) (hc.set hi hri) hgi hh)
      · subst e
        rw [hj] at hk
        injection hk with hk
        subst hk
        exact (lhead_lstp hj hmj h.2).mono fun v A' _ _ _ _ hh => aany_le (Nat.le_max_right _ _) (aany_of_tree hah ha t' _ _ _ A' (setL_mask hL) (hc.set hj hrj) hgj hh)
  | .one i t, M, L, a, A, hL, hc, hg, h => by
    unfold treeGo at hg
    rw [Bool.and_eq_true] at hg
    obtain ⟨hg1, hg2⟩ := hg
    cases hi : ops[i]? with
    | none => rw [hi] at hg1; cases hg1
    | some o =>
      rw [hi] at hg1
      simp only [Bool.and_eq_true] at hg1
      obtain ⟨hr, hcls⟩ := hg1
      have hil := (Array.getElem?_eq_some_iff.1 hi).1
      have hrd : Rdy L i o := (readyB_spec hil hah hi hL).1 hr
      have hc' := hc.set hi hrd
      have IH : ∀ a A, TW P S K (ltree ops md t) a A → AAny P ops S (fun j => md.getD j 3) K (depth t) (setL L i) a A := fun a A h => aany_of_tree hah ha t (M ||| 2 ^ i) _ a A (setL_mask hL) hc' hg2 h
      by_cases hm1 : md.getD i 3 ≤ 1
      · rw [if_pos (by simpa [Nat.ble_eq] using hm1)] at hcls
        simp only [Bool.and_eq_true] at hcls
        obtain ⟨hfr, hst⟩ := hcls
        have hfree : ∀ j oj, ops[j]? = some oj → j ≠ i → L j = false → (∀ e ∈ oj.after, Region.binds .any e = true → e.on ≠ i) → o.apart ops oj = true := fun j oj hj hji hLj hno => by
          have hjl := (Array.getElem?_eq_some_iff.1 hj).1
          have h1 := List.all_eq_true.1 hfr j (List.mem_range.2 hjl)
          rw [hj, ← hL j hjl, hLj] at h1
          simp only [Bool.or_eq_true, beq_iff_eq, Bool.false_eq_true, or_false] at h1
          rcases h1 with h1 | h1 | h1
          · exact absurd h1 hji
          · exfalso
            rw [Array.any_eq_true] at h1
            obtain ⟨q, hq, h2⟩ := h1
            simp only [Bool.and_eq_true, beq_iff_eq] at h2
            exact hno _ (Array.getElem_mem hq) h2.1 h2.2
          · exact h1
        have fin : ∀ v, ((gval ops a o = true ∧ aq P A (evF a) o.op = some v) ∨ (gval ops a o = false ∧ v = undef)) → (md.getD i 3 = 1 → gval ops a o = true → ∀ A', S A' → aq P A' (evF a) o.op = some v) →
            TW P S K (ltree ops md t) (putF a o.dst v) A → AAny P ops S (fun j => md.getD j 3) K (depth t + 1) L a A := by
          intro v hy hS hk
          refine aany_first (md := fun j => md.getD j 3) hah ha hi hm1 (depth t) L a A hc hfree ?_ hrd hy (IH _ _ hk)
          simp only [Bool.or_eq_true] at hst
          rcases hst with (h1 | h1) | h1
          · rw [Bool.and_eq_true] at h1
            refine .inr (.inr ⟨fun j oj hj hji h3 hLj => ?_, fun A' hA' hgv => hS (Nat.eq_of_beq_eq_true h1.1) hgv A' hA'⟩)
            have hjl := (Array.getElem?_eq_some_iff.1 hj).1
            have h2 := List.all_eq_true.1 h1.2 j (List.mem_range.2 hjl)
            rw [← hL j hjl, hLj] at h2
            have hb3 : Nat.ble 4 (md.getD j 3) = true := Nat.ble_eq_true_of_le h3
            rw [hb3] at h2
            simpa [hji] using h2
          · exact .inl h1
          · refine .inr (.inl fun j oj hj hji h3 hLj => ?_)
            have hjl := (Array.getElem?_eq_some_iff.1 hj).1
            have h2 := List.all_eq_true.1 h1 j (List.mem_range.2 hjl)
            rw [← hL j hjl, hLj] at h2
            have hb3 : Nat.ble 3 (md.getD j 3) = true := Nat.ble_eq_true_of_le h3
            rw [hb3] at h2
            simpa [hji] using h2
        have h' : LHead P S (tlop ops md i) a A (TW P S K (ltree ops md t)) := h
        simp only [LHead, tlop, hi, ← sg_eq] at h'
        split at h'
        · rename_i hgv
          have : md.getD i 3 = 0 ∨ md.getD i 3 = 1 := by omega
          rcases this with e | e
          · rw [e] at h'
            simp only [AqK] at h'
            split at h'
            · rename_i v hv
              exact fin v (.inl ⟨hgv, hv⟩) (fun e' => by omega) h'
            · exact h'.elim
          · rw [e] at h'
            simp only [AqK] at h'
            split at h'
            · rename_i v hv
              exact fin v (.inl ⟨hgv, hv⟩) (fun _ _ => h'.1) h'.2
            · exact h'.elim
        · rename_i hgv
          have hgv' : gval ops a o = false := by simpa using hgv
          exact fin undef (.inr ⟨hgv', rfl⟩) (fun _ e => by rw [hgv'] at e; cases e) h'
      · rw [if_neg (by simpa [Nat.ble_eq] using hm1)] at hcls
        refine ⟨fun hall => ?_, fun hw j oj hj hrj => ?_⟩
        · have := hall i hil
          rw [hrd.1] at this
          cases this
        · have hji : j = i := by
            have h1 := List.all_eq_true.1 hcls j (List.mem_range.2 (Array.getElem?_eq_some_iff.1 hj).1)
            rw [hj] at h1
            simp only [Bool.or_eq_true, beq_iff_eq, Bool.not_eq_true'] at h1
            rcases h1 with (h1 | h1) | h1
            · exact h1
            · exact h1
            · rw [(readyB_spec (Array.getElem?_eq_some_iff.1 hj).1 hah hj hL).2 hrj] at h1
              cases h1
          subst hji
          rw [hi] at hj
          injection hj with hj
          subst hj
          exact (lhead_lstp hi hm1 h).mono fun v A' _ _ _ _ hh => IH _ _ hh

end

theorem wt {P : Program} {n : Nat} {Q : Exit → Fr → AW → Prop} {a : Fr} {A : AW} {id : Nat} {ops : Array Oper} (S : AW → Prop) (hm : P.follows .mixedOrders = true) (md : List Nat) (t : OTree) (hB : treeB ops md t = true)
    (h : ∀ K : Fr → AW → Prop, (∀ a A, Q .normal a A → K a A) → TW P S K (ltree ops md t) a A) : AWP P n (.region id ops true) Q a A := by
  simp only [treeB, Bool.and_eq_true] at hB
  exact awp_of_aany hm hB.1 (aany_of_tree hB.1 hB.2.1 t 0 _ a A (fun j _ => by simp) (fun k o _ hk => by cases hk) hB.2.2 (h _ fun _ _ h => h))

theorem twc {P : Program} {S : AW → Prop} {K : Fr → AW → Prop} {o : LOp} {t : LTree} {a : Fr} {A : AW} (h : ∀ R : Fr → AW → Prop, (∀ a A, TW P S K t a A → R a A) → LHead P S o a A R) : TW P S K (.one o t) a A := h _ fun _ _ h => h
theorem tw2 {P : Program} {S : AW → Prop} {K : Fr → AW → Prop} {o o' : LOp} {t t' : LTree} {a : Fr} {A : AW} (h : ∀ R : Fr → AW → Prop, (∀ a A, TW P S K t a A → R a A) → LHead P S o a A R)
    (h' : ∀ R : Fr → AW → Prop, (∀ a A, TW P S K t' a A → R a A) → LHead P S o' a A R) : TW P S K (.two o t o' t') a A := ⟨h _ fun _ _ h => h, h' _ fun _ _ h => h⟩
theorem twn {P : Program} {S : AW → Prop} {K : Fr → AW → Prop} {a : Fr} {A : AW} (h : K a A) : TW P S K .nil a A := h
attribute [simp] LHead

end Go.Stx

namespace Go.Stx
open Go
variable [Gl]
set_option linter.unusedSectionVars false
set_option linter.unusedVariables false

/-- All that A has, B has. -/
def Keeps (A B : AW) : Prop := ∀ i o, A.get i = some o → B.get i = some o
theorem Keeps.refl (A : AW) : Keeps A A := fun _ _ h => h
theorem Keeps.trans {A B C : AW} (h : Keeps A B) (k : Keeps B C) : Keeps A C := fun i o hi => k i o (h i o hi)
theorem Keeps.of_le {A B : AW} (h : A.le B) (hw : A.Wf) : Keeps A B := fun i o hi => h.keep hw hi
theorem Keeps.of_fix {A B : AW} {F : HP} (h : Sat B (hfix A.get * F)) : Keeps A B := by
  obtain ⟨_, ⟨a, b, d, rfl, rfl, q⟩, hs⟩ := h
  intro i o hi
  exact hs i o (by simp [Hp.un, hi])
theorem IsSl.keeps {A B : AW} (hk : Keeps A B) {size : Nat} {v : Value} {n : Nat} {cs : List Value} (h : IsSl A size v n cs) : IsSl B size v n cs := by
  rcases h with h | ⟨p, c, row, own, u, h1, h2, h3, h4⟩
  · exact .inl h
  · exact .inr ⟨p, c, row, own, u, h1, h2, hk _ _ h3, h4⟩
theorem IsInts.keeps {A B : AW} (hk : Keeps A B) {k : IntKind} {v : Value} {l : List Int} (h : IsInts A k v l) : IsInts B k v l := IsSl.keeps hk h

/-- A slice of slices of integers. -/
def IsRows (A : AW) (v : Value) (ls : List (List Int)) : Prop := ∃ us : List Value, IsSl A 1 v ls.length us ∧ ∀ i (hi : i < ls.length), ∃ u, us[i]? = some u ∧ IsInts A .i64 u ls[i]

theorem IsRows.keeps {A B : AW} (hk : Keeps A B) {v : Value} {ls : List (List Int)} (h : IsRows A v ls) : IsRows B v ls := by
  obtain ⟨us, h1, h2⟩ := h
  exact ⟨us, h1.keeps hk, fun i hi => let ⟨u, h3, h4⟩ := h2 i hi; ⟨u, h3, h4.keeps hk⟩⟩
theorem IsRows.form {A : AW} {v : Value} {ls : List (List Int)} (h : IsRows A v ls) : ∃ o c, v = .slice o ls.length c ∧ ls.length ≤ c := by
  obtain ⟨us, h1, _⟩ := h
  exact h1.form
theorem IsRows.at {A : AW} {o : Option Addr} {n c : Nat} {ls : List (List Int)} (h : IsRows A (.slice o n c) ls) {i : Nat} (hi : i < ls.length) :
    ∃ p row own u, o = some p ∧ A.get p.block = some (.cells row own 1) ∧ row[p.off + i]? = some u ∧ IsInts A .i64 u ls[i] := by
  obtain ⟨us, h1, h2⟩ := h
  obtain ⟨u, h3, h4⟩ := h2 i hi
  rcases h1 with ⟨_, e, _⟩ | ⟨p, c', row, own, q, e1, e2, e3, e4, e5, e6⟩
  · omega
  · injection e1 with e1 e7 e8
    subst e4
    refine ⟨p, row, own, u, e1, e3, ?_, h4⟩
    rw [e6, Nat.mul_one, List.getElem?_take_of_lt hi, List.getElem?_drop] at h3
    exact h3

/-- What a reading of a slice of slices of integers says of the world. -/
def RowsIn (w : World) (a : Option Addr) (len cap : Nat) : Prop :=
  (a = none ∧ len = 0 ∧ cap = 0) ∨ ∃ x, a = some x ∧ len ≤ cap ∧ cap ≤ maxLen ∧ ∃ (R : Nat → Option Addr) (L C : Nat → Nat) (Z : Nat → List Int), ∀ r, r < cap → w.cell? (x.add r) = some (.slice (R r) (L r) (C r)) ∧
    ((R r = none ∧ L r = 0 ∧ C r = 0 ∧ Z r = []) ∨ ∃ y, R r = some y ∧ L r ≤ C r ∧ C r ≤ maxLen ∧ (Z r).length = C r ∧ (∀ i, i < (Z r).length → w.cell? (y.add i) = some (.int .i64 ((Z r).getD i 0))) ∧ ∀ n ∈ Z r, (Lit.int .i64 n).wf = true)

theorem intro_rows {m : Mp} {A : AW} {w : World} (hs : Sim m A w) (hno : A.NoOwn) {a : Option Addr} {len cap : Nat} (h : RowsIn w a len cap) :
    ∃ m' A' v ls, Mp.le m m' ∧ A.le A' ∧ Sim m' A' w ∧ A'.NoOwn ∧ VRel m' v (.slice a len cap) ∧ IsRows A' v ls := by
  rcases h with ⟨rfl, rfl, rfl⟩ | ⟨x, rfl, hlc, hcm, R, L, C, Z, hr⟩
  · exact ⟨m, A, .slice none 0 0, [], Mp.le_refl m, AW.le.refl A, hs, hno, .sliceNone, [], .inl ⟨⟨none, rfl⟩, rfl, rfl⟩, fun i hi => by simp at hi⟩
  · by_cases hc0 : cap = 0
    · subst hc0
      have : len = 0 := by omega
      subst this
      exact ⟨m, A, .slice (some ⟨0, 0, some 0⟩) 0 0, [], Mp.le_refl m, AW.le.refl A, hs, hno, .slice (.inr ⟨rfl, rfl, .inl rfl⟩) (Nat.le_refl _) (Nat.le_refl _), [], .inl ⟨⟨_, rfl⟩, rfl, rfl⟩, fun i hi => by simp at hi⟩
    · have rows : ∀ n, n ≤ cap → ∃ (m' : Mp) (A' : AW) (us : List Value) (ls : List (List Int)), Mp.le m m' ∧ A.le A' ∧ Sim m' A' w ∧ A'.NoOwn ∧ us.length = n ∧ ls.length = n ∧ (∀ i v, us[i]? = some v → VRel m' v (.slice (R i) (L i) (C i))) ∧
          ∀ i (hi : i < ls.length), ∃ u, us[i]? = some u ∧ IsInts A' .i64 u ls[i] := by
        intro n
        induction n with
        | zero => intro _; exact ⟨m, A, [], [], Mp.le_refl m, AW.le.refl A, hs, hno, rfl, rfl, fun i v h => by simp at h, fun i hi => by simp at hi⟩
        | succ n ih =>
          intro hn
          obtain ⟨m1, A1, us, ls, h1, h2, h3, h4, h5, h6, h7, h8⟩ := ih (by omega)
          obtain ⟨_, hrow⟩ := hr n (by omega)
          obtain ⟨m2, A2, u, g1, g2, g3, g4, g5, g6, _⟩ := intro_ints h3 h4 (k := .i64) hrow
          have hk := Keeps.of_le g2 h3.low
          refine ⟨m2, A2, us ++ [u], ls ++ [(Z n).take (L n)], Mp.le_trans h1 g1, h2.trans g2, g3, g4, by simp [h5], by simp [h6], fun i v hv => ?_, fun i hi => ?_⟩
          · rw [List.getElem?_append] at hv
            split at hv
            · exact (h7 i v hv).mono g1
            · rename_i hi
              have : i = n := by
                have := (List.getElem?_eq_some_iff.1 hv).1
                simp at this
                omega
              subst this
              rw [h5] at hv
              simp at hv
              subst hv
              exact g5
          · by_cases e : i < ls.length
            · obtain ⟨v, q1, q2⟩ := h8 i e
              refine ⟨v, by rw [List.getElem?_append_left (by omega)]; exact q1, ?_⟩
              rw [List.getElem_append_left e]
              exact q2.keeps hk
            · have : i = n := by simp at hi; omega
              subst this
              refine ⟨u, by rw [List.getElem?_append_right (by omega), h5]; simp, ?_⟩
              rw [List.getElem_append_right (by omega)]
              simpa using g6
      obtain ⟨m1, A1, us, ls, h1, h2, h3, h4, h5, h6, h7, h8⟩ := rows cap (Nat.le_refl _)
      have h0 := (hr 0 (by omega)).1
      rw [show x.add 0 = x by unfold Addr.add; simp] at h0
      have hsp : x.spot = none := by
        unfold World.cell? at h0
        split at h0
        · split at h0
          · cases h0
          · rename_i hsp; simpa using hsp
        · cases h0
      have hblk : ∃ cur e fr, w.heap[x.block]? = some (.cells cur e fr) := by
        unfold World.cell? at h0
        split at h0
        · rename_i c e fr hh; exact ⟨c, e, fr, hh⟩
        · cases h0
      obtain ⟨cur, e, fr, hblk⟩ := hblk
      have hcur : ∀ i, i < cap → cur[x.off + i]? = some (.slice (R i) (L i) (C i)) := fun i hi => by
        have h1 := (hr i hi).1
        rw [addr_add _ _ hsp] at h1
        simpa [World.cell?, hblk] using h1
      obtain ⟨hs', hno'⟩ := Sim.foreign h3 h4 us ⟨x.block, x.off, 1, cur.size⟩ hblk rfl (fun j v hv => by
        have hj := (List.getElem?_eq_some_iff.1 hv).1
        exact ⟨_, hcur j (by omega), h7 j v hv⟩)
      have hlast := (Array.getElem?_eq_some_iff.1 (hcur (cap - 1) (by omega))).1
      have hk := Keeps.of_le (AW.le.alloc A1 (.cells us false 1)) h3.low
      refine ⟨_, _, .slice (some ⟨A1.next, 0, none⟩) len len, ls.take len, Mp.le_trans h1 (h3.le_ext _), h2.trans (AW.le.alloc A1 _), hs', hno', ?_, us.take len, ?_, fun i hi => ?_⟩
      · refine .slice (.inl ⟨rfl, hsp, ⟨x.block, x.off, 1, cur.size⟩, by simp [Mp.ext], rfl, rfl, ?_⟩) (Nat.le_refl _) hlc
        show x.off + cap * 1 ≤ cur.size
        omega
      · refine .inr ⟨⟨A1.next, 0, none⟩, len, us, false, 1, ?_, ?_, AW.alloc_get_new _ _, rfl, ?_, ?_⟩
        · rw [List.length_take, Nat.min_eq_left (by omega)]
        · simp; omega
        · simp; omega
        · rw [List.drop_zero, List.length_take, Nat.min_eq_left (by omega), Nat.mul_one]
      · rw [List.length_take] at hi
        obtain ⟨u, q1, q2⟩ := h8 i (by omega)
        refine ⟨u, by rw [List.getElem?_take_of_lt (by omega)]; exact q1, ?_⟩
        rw [List.getElem_take]
        exact q2.keeps hk

end Go.Stx

namespace Go.Stx
open Go
variable [Gl]
set_option linter.unusedSectionVars false
set_option linter.unusedVariables false

/-- An item: an object at a place, or an assertion. -/
inductive It where
  | at (i : Nat) (o : AObj)
  | h (P : HP)

def It.hp : It → HP
  | .at i o => pt i o
  | .h P => P

def stars : List It → HP
  | [] => hemp
  | x :: L => x.hp * stars L

/-- The memory has all that the list names, beside others. -/
def SatL (A : AW) (L : List It) : Prop := Sat A (stars L)

theorem stars_append : ∀ (L K : List It), stars (L ++ K) = stars L * stars K
  | [], K => by show stars K = hemp * stars K; rw [hemp_mul]
  | x :: L, K => by show x.hp * stars (L ++ K) = x.hp * stars L * stars K; rw [stars_append L K, HP.mul_assoc]

/-- The item at an index, and the others. -/
def pick1 : List It → Nat → Option (It × List It)
  | [], _ => none
  | x :: L, 0 => some (x, L)
  | x :: L, k + 1 => (pick1 L k).map fun y => (y.1, x :: y.2)
theorem pick1_stars : ∀ {L : List It} {k : Nat} {x : It} {K : List It}, pick1 L k = some (x, K) → stars L = x.hp * stars K
  | [], _, _, _, h => by cases h
  | y :: L, 0, x, K, h => by injection h with h; injection h with h1 h2; subst h1; subst h2; rfl
  | y :: L, k + 1, x, K, h => by
    simp only [pick1, Option.map_eq_some_iff] at h
    obtain ⟨⟨z, M⟩, h1, h2⟩ := h
    injection h2 with h2 h3
    subst h2; subst h3
    show y.hp * stars L = _
    rw [pick1_stars h1]
    show y.hp * (z.hp * stars M) = z.hp * (y.hp * stars M)
    ac_rfl

/-- The items at some indices (each counted in the whole list), and the others. -/
def unpick (k : Nat) (j : Nat) : Nat := if j < k then j else j - 1
def picksGo : List Nat → (Nat → Nat) → List It → Option (List It × List It)
  | [], _, L => some ([], L)
  | k :: ks, f, L => match pick1 L (f k) with
    | some (x, K) => (picksGo ks (fun j => unpick (f k) (f j)) K).map fun y => (x :: y.1, y.2)
    | none => none
def picks (L : List It) (ks : List Nat) : Option (List It × List It) := picksGo ks (fun j => j) L
theorem picksGo_stars : ∀ {ks : List Nat} {f : Nat → Nat} {L J K : List It}, picksGo ks f L = some (J, K) → stars L = stars J * stars K
  | [], f, L, J, K, h => by
    injection h with h; injection h with h1 h2; subst h1; subst h2
    show stars L = hemp * stars L
    rw [hemp_mul]
  | k :: ks, f, L, J, K, h => by
    unfold picksGo at h
    split at h
    · rename_i x M hp
      rw [Option.map_eq_some_iff] at h
      obtain ⟨⟨J', K'⟩, h1, h2⟩ := h
      injection h2 with h2 h3
      subst h2; subst h3
      rw [pick1_stars hp, picksGo_stars h1]
      show x.hp * (stars J' * stars K') = x.hp * stars J' * stars K'
      rw [HP.mul_assoc]
    · cases h
theorem picks_stars {ks : List Nat} {L J K : List It} (h : picks L ks = some (J, K)) : stars L = stars J * stars K := picksGo_stars h

theorem SatL.pick {A : AW} {L J K : List It} (h : SatL A L) (ks : List Nat) (e : picks L ks = some (J, K)) : SatL A (J ++ K) := by
  unfold SatL at *
  rw [stars_append, ← picks_stars e]
  exact h
/-- Only the items at these indices. -/
theorem SatL.only {A : AW} {L J K : List It} (h : SatL A L) (ks : List Nat) (e : picks L ks = some (J, K)) : SatL A J := by
  unfold SatL at *
  rw [picks_stars e] at h
  exact h.left
theorem SatL.one {A : AW} {L K : List It} {x : It} (h : SatL A L) (k : Nat) (e : pick1 L k = some (x, K)) : Sat A (x.hp * stars K) := by
  unfold SatL at h
  rwa [pick1_stars e] at h
theorem SatL.g {A : AW} {L K : List It} {i : Nat} {o : AObj} (h : SatL A L) (k : Nat) (e : pick1 L k = some (.at i o, K)) : A.get i = some o := Sat.get (h.one k e)
theorem SatL.ints {A : AW} {L K : List It} {kk : IntKind} {v : Value} {l : List Int} (h : SatL A L) (k : Nat) (e : pick1 L k = some (.h (IntsH kk v l), K)) : IsInts A kk v l := IntsH.is (h.one k e)
theorem SatL.keeps {A B : AW} {L K : List It} (h : SatL B L) (k : Nat) (e : pick1 L k = some (.h (hfix A.get), K)) : Keeps A B := Keeps.of_fix (h.one k e)
theorem SatL.le {A A' : AW} {L : List It} (h : SatL A L) (hw : A.Wf) (hl : A.le A') : SatL A' L := Sat.le h hw hl
theorem SatL.of_eq {A A' : AW} {L : List It} (h : SatL A L) (e : ∀ i o, A.get i = some o → A'.get i = some o) : SatL A' L := Sat.of_eq h e
theorem SatL.alloc {A : AW} {L : List It} (h : SatL A L) (hw : A.Wf) (o : AObj) : SatL (A.alloc o) (.at A.next o :: L) := Sat.alloc h hw o
theorem SatL.keep {A : AW} {L : List It} (h : SatL A L) (hw : A.Wf) (o : AObj) : SatL (A.alloc o) L := Sat.keep h hw o
def setAt : List It → Nat → It → List It
  | [], _, _ => []
  | _ :: L, 0, y => y :: L
  | x :: L, k + 1, y => x :: setAt L k y
theorem setAt_stars : ∀ {L : List It} {k : Nat} {x : It} {K : List It} (y : It), pick1 L k = some (x, K) → stars (setAt L k y) = y.hp * stars K
  | [], _, _, _, _, h => by cases h
  | z :: L, 0, x, K, y, h => by injection h with h; injection h with h1 h2; subst h2; rfl
  | z :: L, k + 1, x, K, y, h => by
    simp only [pick1, Option.map_eq_some_iff] at h
    obtain ⟨⟨u, M⟩, h1, h2⟩ := h
    injection h2 with h2 h3
    subst h2; subst h3
    show z.hp * stars (setAt L k y) = _
    rw [setAt_stars y h1]
    show z.hp * (y.hp * stars M) = y.hp * (z.hp * stars M)
    ac_rfl
theorem SatL.set {A : AW} {L K : List It} {i : Nat} {o : AObj} (h : SatL A L) (k : Nat) (e : pick1 L k = some (.at i o, K)) (o' : AObj) : SatL (A.set i (some o')) (setAt L k (.at i o')) := by
  unfold SatL
  rw [setAt_stars _ e]
  exact Sat.set (h.one k e) o'
theorem SatL.kill {A : AW} {L K : List It} {i : Nat} {o : AObj} (h : SatL A L) (k : Nat) (e : pick1 L k = some (.at i o, K)) : SatL (A.set i none) K := Sat.kill (h.one k e)
theorem SatL.lt {A : AW} {L K : List It} {i : Nat} {o : AObj} (h : SatL A L) (hw : A.Wf) (k : Nat) (e : pick1 L k = some (.at i o, K)) : i < A.next := hw.lt (h.g k e)
/-- Items become one assertion, at the front. -/
theorem SatL.fold {A : AW} {L J K : List It} {P : HP} (h : SatL A L) (ks : List Nat) (e : picks L ks = some (J, K)) (hP : Ent (stars J) P) : SatL A (.h P :: K) := by
  unfold SatL at *
  rw [picks_stars e] at h
  exact h.entl hP
/-- One assertion becomes items, at the front. -/
theorem SatL.unfold {A : AW} {L K J : List It} {P : HP} (h : SatL A L) (k : Nat) (e : pick1 L k = some (.h P, K)) (hP : P = stars J) : SatL A (J ++ K) := by
  unfold SatL
  rw [stars_append, ← hP]
  exact h.one k e
theorem SatL.ex {α : Type} {A : AW} {L K : List It} {P : α → HP} (h : SatL A L) (k : Nat) (e : pick1 L k = some (.h (hex P), K)) : ∃ x, SatL A (.h (P x) :: K) := by
  have h1 := h.one k e
  exact Sat.ex.1 h1
theorem SatL.mk {A : AW} {F : HP} (h : Sat A F) : SatL A [.h F] := by
  show Sat A (F * hemp)
  rw [mul_hemp]; exact h
theorem SatL.un {A : AW} {F : HP} (h : SatL A [.h F]) : Sat A F := by
  have : Sat A (F * hemp) := h
  rwa [mul_hemp] at this

/-! ### What a walk is to know -/

def allGets (A : AW) : List It → Prop
  | [] => True
  | .at i o :: L => A.get i = some o ∧ allGets A L
  | .h _ :: L => allGets A L
def allOld (A : AW) : List It → Prop
  | [] => True
  | .at i _ :: L => ((i = A.next) = False ∧ (A.next = i) = False ∧ (∀ k, (i = A.next + k) = False) ∧ ∀ k, (A.next + k = i) = False) ∧ allOld A L
  | .h _ :: L => allOld A L
def neAll (i : Nat) : List It → Prop
  | [] => True
  | .at j _ :: L => ((i = j) = False ∧ (j = i) = False) ∧ neAll i L
  | .h _ :: L => neAll i L
def allNe : List It → Prop
  | [] => True
  | .at i _ :: L => neAll i L ∧ allNe L
  | .h _ :: L => allNe L

theorem SatL.tail {A : AW} {x : It} {L : List It} (h : SatL A (x :: L)) : SatL A L := Sat.right h
theorem SatL.gets {A : AW} : ∀ {L : List It}, SatL A L → allGets A L
  | [], _ => trivial
  | .at i o :: L, h => ⟨Sat.get h, SatL.gets h.tail⟩
  | .h P :: L, h => SatL.gets (L := L) (SatL.tail (x := .h P) h)
theorem SatL.olds {A : AW} (hw : A.Wf) : ∀ {L : List It}, SatL A L → allOld A L
  | [], _ => trivial
  | .at i o :: L, h => by
    have := hw.lt (Sat.get h)
    exact ⟨⟨eq_false (by omega), eq_false (by omega), fun k => eq_false (by omega), fun k => eq_false (by omega)⟩, SatL.olds hw h.tail⟩
  | .h P :: L, h => SatL.olds hw (L := L) (SatL.tail (x := .h P) h)
theorem SatL.neAll' {A : AW} {i : Nat} {o : AObj} : ∀ {L : List It}, SatL A (.at i o :: L) → neAll i L
  | [], _ => trivial
  | .at j p :: L, h => by
    have hne : i ≠ j := Sat.ne h
    refine ⟨⟨eq_false hne, eq_false (Ne.symm hne)⟩, SatL.neAll' (A := A) (L := L) (o := o) ?_⟩
    have h1 : Sat A (pt i o * (pt j p * stars L)) := h
    exact Sat.right (h1.cast (by ac_rfl : _ = pt j p * (pt i o * stars L)))
  | .h P :: L, h => by
    have h1 : Sat A (pt i o * (P * stars L)) := h
    exact SatL.neAll' (A := A) (L := L) (o := o) (Sat.right (h1.cast (by ac_rfl : _ = P * (pt i o * stars L))))
theorem SatL.nes {A : AW} : ∀ {L : List It}, SatL A L → allNe L
  | [], _ => trivial
  | .at i o :: L, h => ⟨SatL.neAll' h, SatL.nes h.tail⟩
  | .h P :: L, h => SatL.nes (L := L) (SatL.tail (x := .h P) h)

/-- All of it: what each place holds; that it is none of those to come; that the places differ. -/
theorem SatL.facts {A : AW} {L : List It} (h : SatL A L) (hw : A.Wf) : allGets A L ∧ allOld A L ∧ allNe L := ⟨h.gets, h.olds hw, h.nes⟩

/-! ### Contracts -/

/-- A call that needs the items of 'pre' and leaves those of 'post', and a value that φ tells: whatever lies beside stays. -/
def LCall (P : Program) (f : FuncId) (args : List Value) (pre : List It) (φ : Value → Prop) (post : Value → List It) : Prop :=
  ∀ (A : AW) (F : HP), A.Wf → SatL A (pre ++ [.h F]) → ACall P f args A fun v A' => φ v ∧ SatL A' (post v ++ [.h F])

theorem LCall.use {P : Program} {f : FuncId} {args : List Value} {pre : List It} {φ : Value → Prop} {post : Value → List It} (h : LCall P f args pre φ post) {A : AW} {L K : List It} (hw : A.Wf) (hS : SatL A L) (ks : List Nat) (e : picks L ks = some (pre, K))
    {k : Value → AW → Prop} (hk : ∀ v A', φ v → SatL A' (post v ++ K) → A'.Wf → A.next ≤ A'.next → k v A') : ACall P f args A k := by
  have hS' : SatL A (pre ++ [.h (stars K)]) := by
    unfold SatL at *
    rw [picks_stars e] at hS
    rw [stars_append]
    show Sat A (stars pre * (stars K * hemp))
    rw [mul_hemp]
    exact hS
  refine callK (h A (stars K) hw hS') ?_
  rintro v A' ⟨h1, h2⟩ hw' hn
  refine hk v A' h1 ?_ hw' hn
  unfold SatL at *
  rw [stars_append] at h2 ⊢
  have h3 : Sat A' (stars (post v) * (stars K * hemp)) := h2
  rwa [mul_hemp] at h3

/-- The elder form of a contract. -/
theorem LCall.of_scall {P : Program} {f : FuncId} {args : List Value} {pre : List It} {φ : Value → Prop} {post : Value → List It} {p : HP} {q : Value → HP} (h : SCall P f args p q) (hp : stars pre = p) (hq : ∀ v, q v = hpr (φ v) * stars (post v)) :
    LCall P f args pre φ post := by
  intro A F hw hS
  refine (h A F hw (by unfold SatL at hS; rw [stars_append, hp] at hS; have h3 : Sat A (p * (F * hemp)) := hS; rwa [mul_hemp] at h3)).mono ?_
  intro v A' hs
  rw [hq, HP.mul_assoc, Sat.pr] at hs
  refine ⟨hs.1, ?_⟩
  unfold SatL
  rw [stars_append]
  show Sat A' (stars (post v) * (F * hemp))
  rw [mul_hemp]
  exact hs.2

end Go.Stx
