/-
  Slices that the call itself has made, and append on them.
-/
import Derived.Test.YtajhaafmlnoioaaStxSimp
namespace Go.Stx
open Go
set_option linter.unusedVariables false

/-- v is nil, or a slice over a row that was made since block number B and that we may write; cs: its cells. -/
def OwnSl (B : Nat) (A : AW) (size : Nat) (v : Value) (n : Nat) (cs : List Value) : Prop :=
  (v = .slice none 0 0 ∧ n = 0 ∧ cs = []) ∨
  ∃ p c row, v = .slice (some p) n c ∧ n ≤ c ∧ p.spot = none ∧ B ≤ p.block ∧ A.get p.block = some (.cells row true size) ∧ p.off + n * size ≤ row.length ∧ cs = (row.drop p.off).take (n * size)

theorem OwnSl.is {B : Nat} {A : AW} {size : Nat} {v : Value} {n : Nat} {cs : List Value} (h : OwnSl B A size v n cs) : IsSl A size v n cs := by
  rcases h with ⟨h1, h2, h3⟩ | ⟨p, c, row, h1, h2, _, _, h3, h4, h5⟩
  · exact .inl ⟨⟨none, h1⟩, h2, h3⟩
  · exact .inr ⟨p, c, row, true, size, h1, h2, h3, rfl, h4, h5⟩

theorem OwnSl.nil (B : Nat) (A : AW) (size : Nat) : OwnSl B A size (.slice none 0 0) 0 [] := .inl ⟨rfl, rfl, rfl⟩

/-- Kept where the memory has all that it had. -/
theorem OwnSl.le {B : Nat} {A A' : AW} (hl : A.le A') (hw : A.Wf) {size : Nat} {v : Value} {n : Nat} {cs : List Value} (h : OwnSl B A size v n cs) : OwnSl B A' size v n cs := by
  rcases h with h | ⟨p, c, row, h1, h2, hs, h3, h4, h5⟩
  · exact .inl h
  · exact .inr ⟨p, c, row, h1, h2, hs, h3, hl.keep hw h4, h5⟩

/-- The block of a slice's array. -/
def slBlock : Value → Option Nat
  | .slice (some p) _ _ => some p.block
  | _ => none

theorem OwnSl.length {B : Nat} {A : AW} {size : Nat} {v : Value} {n : Nat} {cs : List Value} (h : OwnSl B A size v n cs) : cs.length = n * size := h.is.length

theorem appNews_length {A : AW} {size : Nat} {x : Value} {m : Nat} {new : List Value} (h : appNews A size x = some (m, new)) : new.length = m * size := by
  unfold appNews at h
  split at h
  · simp only [Option.some.injEq, Prod.mk.injEq] at h
    obtain ⟨rfl, rfl⟩ := h
    simp
  · split at h
    · simp only [Option.some.injEq, Prod.mk.injEq] at h
      obtain ⟨rfl, rfl⟩ := h
      simp
    · split at h
      · split at h
        · simp only [Option.some.injEq, Prod.mk.injEq] at h
          obtain ⟨rfl, rfl⟩ := h
          simp
          omega
        · cases h
      · cases h
  · cases h

theorem aappend_own {P : Program} {A : AW} {t e : TypeId} {i : TypeInfo} {z : Value} {B : Nat} {v x : Value} {n m size : Nat} {cs new : List Value}
    (hu : P.underlying t = some (.slice e)) (hi : P.info? e = some i) (hz : i.zero = some z) (hsize : i.size = size) (hzs : z.cells.size = size) (h0 : 0 < size)
    (hown : OwnSl B A size v n cs) (hnews : appNews A size x = some (m, new)) (hone : new.all Value.oneCell' = true) (hb2 : n + m ≤ 140737488355328) (hb : (n + m) * i.bytes ≤ 140737488355328)
    (hB : B ≤ A.next) (hw : A.Wf) :
    ∃ v' A', aappend P A t t v x = some (v', A') ∧ OwnSl B A' size v' (n + m) (cs ++ new) ∧ (∀ A0 : AW, A0.next ≤ B → A0.le A → A0.le A') ∧ A'.Wf ∧ A.next ≤ A'.next ∧
      (∀ j, j < A.next → slBlock v ≠ some j → A'.get j = A.get j) ∧ (v' = v ∨ slBlock v' = some A.next) := by
  subst hsize
  have hlen := hown.length
  have hnl := appNews_length hnews
  by_cases hm : m = 0
  · subst hm
    have hnew : new = [] := List.eq_nil_of_length_eq_zero (by omega)
    subst hnew
    have holds : ∃ b, appOlds A i.size v = some (b, n, cs) := by
      rcases hown with ⟨rfl, rfl, rfl⟩ | ⟨p, c, row, rfl, hc, hsp, _, hg, hle, rfl⟩
      · exact ⟨none, rfl⟩
      · exact ⟨some p, by simp [appOlds, hsp, hg, hle]⟩
    obtain ⟨b, hob⟩ := holds
    refine ⟨v, A, ?_, by simpa using hown, fun A0 _ h => h, hw, Nat.le_refl _, fun j _ _ => rfl, .inl rfl⟩
    simp [aappend, hu, hi, hz, hzs, h0, hnews, hob]
  · rcases hown with ⟨rfl, rfl, rfl⟩ | ⟨p, c, row, rfl, hc, hsp, hBp, hg, hle, rfl⟩
    · refine ⟨.slice (some ⟨A.next, 0, none⟩) (0 + m) (0 + m), A.alloc (.cells new true i.size), ?_, ?_, fun A0 _ h => h.trans (AW.le.alloc A _), hw.alloc _, by simp, fun j hj _ => AW.alloc_get_old _ _ (by omega), .inr rfl⟩
      · have hb' : (0 + m) * i.bytes ≤ 140737488355328 := hb
        have hb2' : 0 + m ≤ 140737488355328 := hb2
        simp only [aappend, hu, hi, hz, hnews, appOlds]
        rw [if_pos ⟨hzs, h0, trivial⟩, if_neg hm, if_pos ⟨hb2', hb', hone⟩]
        simp
      · refine .inr ⟨⟨A.next, 0, none⟩, 0 + m, new, rfl, Nat.le_refl _, rfl, hB, AW.alloc_get_new _ _, by simp; omega, ?_⟩
        simp only [List.nil_append, List.drop_zero, Nat.zero_add]
        rw [List.take_of_length_le (by omega)]
    · have hlt := hw.lt hg
      refine ⟨.slice (some ⟨A.next, 0, none⟩) (n + m) (n + m), (A.set p.block none).alloc (.cells ((row.drop p.off).take (n * i.size) ++ new) true i.size), ?_, ?_, ?_, (hw.set none hlt).alloc _, by simp, ?_, .inr rfl⟩
      · simp only [aappend, hu, hi, hz, hnews, appOlds, hg]
        have hsp' : ¬ (p.spot.isSome = true ∧ c = 0 ∧ n = 0) := by simp [hsp]
        rw [if_pos ⟨hzs, h0, trivial⟩, if_neg hsp', if_pos ⟨trivial, hle⟩]
        simp only
        rw [if_neg hm, if_pos ⟨hb2, hb, hone⟩]
      · refine .inr ⟨⟨A.next, 0, none⟩, n + m, (row.drop p.off).take (n * i.size) ++ new, rfl, Nat.le_refl _, rfl, hB, ?_, ?_, ?_⟩
        · have := AW.alloc_get_new (A.set p.block none) (.cells ((row.drop p.off).take (n * i.size) ++ new) true i.size)
          simpa using this
        · have : ((row.drop p.off).take (n * i.size) ++ new).length = (n + m) * i.size := by
            rw [List.length_append, hlen, hnl, Nat.add_mul]
          show 0 + (n + m) * i.size ≤ _
          omega
        · have : ((row.drop p.off).take (n * i.size) ++ new).length = (n + m) * i.size := by
            rw [List.length_append, hlen, hnl, Nat.add_mul]
          exact (List.take_of_length_le (Nat.le_of_eq this)).symm
      · intro A0 hA0 hl
        exact (hl.set (by omega) none).trans (AW.le.alloc _ _)
      · intro j hj hne
        rw [AW.alloc_get_old _ _ (by simp; omega), AW.set_get_ne (fun e => hne (by simp [slBlock, e]))]

theorem IsSl.news {A : AW} {size : Nat} {v : Value} {n : Nat} {cs : List Value} (h : IsSl A size v n cs) : appNews A size v = some (n, cs) := by
  rcases h with ⟨⟨o, rfl⟩, rfl, rfl⟩ | ⟨p, c, row, own, u, rfl, hc, hg, _, hle, rfl⟩
  · cases o <;> simp [appNews]
  · by_cases h0 : n = 0
    · subst h0; simp [appNews]
    · simp [appNews, h0, AW.row_of hg, hle]

/-- A slice of integers that the call has made. -/
def OwnInts (B : Nat) (A : AW) (k : IntKind) (v : Value) (l : List Int) : Prop := OwnSl B A 1 v l.length (l.map (Value.int k))

theorem OwnInts.is {B : Nat} {A : AW} {k : IntKind} {v : Value} {l : List Int} (h : OwnInts B A k v l) : IsInts A k v l := OwnSl.is h
theorem OwnInts.nil (B : Nat) (A : AW) (k : IntKind) : OwnInts B A k (.slice none 0 0) [] := OwnSl.nil B A 1
theorem OwnInts.le {B : Nat} {A A' : AW} (hl : A.le A') (hw : A.Wf) {k : IntKind} {v : Value} {l : List Int} (h : OwnInts B A k v l) : OwnInts B A' k v l := OwnSl.le hl hw h

/-- append(out, y) of integers: the one element lies in a row of its own, made just before. -/
theorem append_int {P : Program} {A : AW} {t e : TypeId} {i : TypeInfo} {z : Value} {B : Nat} {v : Value} {k : IntKind} {l : List Int} (y : Int)
    (hu : P.underlying t = some (.slice e)) (hi : P.info? e = some i) (hz : i.zero = some z) (hsize : i.size = 1) (hzs : z.cells.size = 1)
    (hown : OwnInts B A k v l) (hlen : l.length < 2 ^ 40) (hby : i.bytes ≤ 8) (hB : B ≤ A.next) (hw : A.Wf) :
    ∃ v' A', aappend P (A.alloc (.cells [.int k y] true 1)) t t v (.slice (some ⟨A.next, 0, none⟩) 1 1) = some (v', A') ∧ OwnInts B A' k v' (l ++ [y]) ∧
      (∀ A0 : AW, A0.next ≤ B → A0.le A → A0.le A') ∧ A'.Wf ∧ A.next ≤ A'.next := by
  have hown' := OwnInts.le (AW.le.alloc A (.cells [.int k y] true 1)) hw hown
  have hnews : appNews (A.alloc (.cells [.int k y] true 1)) 1 (.slice (some ⟨A.next, 0, none⟩) 1 1) = some (1, [.int k y]) := by
    simp [appNews, AW.row]
  have hb : (l.length + 1) * i.bytes ≤ 140737488355328 := by
    have := Nat.mul_le_mul_left (l.length + 1) hby
    omega
  obtain ⟨v', A', h1, h2, h3, h4, h5, _⟩ := aappend_own (P := P) (t := t) hu hi hz hsize hzs (by omega) hown' hnews rfl (by omega) hb (by simp; omega) (hw.alloc _)
  refine ⟨v', A', h1, ?_, fun A0 ha hl => h3 A0 ha (hl.trans (AW.le.alloc A _)), h4, by simp at h5; omega⟩
  unfold OwnInts
  simpa using h2

/-- A row that holds just these integers. -/
theorem IsInts.of_get {A : AW} {k : IntKind} {b c : Nat} {l : List Int} {own : Bool} {cs : List Value} (hg : A.get b = some (.cells cs own 1)) (hcs : cs = l.map (Value.int k)) (hc : l.length ≤ c) {n : Nat} (hn : n = l.length) :
    IsInts A k (.slice (some ⟨b, 0, none⟩) n c) l := by
  subst hcs; subst hn
  refine .inr ⟨⟨b, 0, none⟩, c, l.map (Value.int k), own, 1, rfl, hc, hg, rfl, by simp, ?_⟩
  rw [List.drop_zero, List.take_of_length_le (by simp)]

/-- A store of an integer into a row of integers. -/
theorem astore_int {P : Program} {A : AW} {t : TypeId} {i : TypeInfo} {b off : Nat} {k : IntKind} {l : List Int} (y : Int) (hi : P.info? t = some i) (hs : i.size = 1)
    (hg : A.get b = some (.cells (l.map (Value.int k)) true 1)) (ho : off < l.length) :
    astore P A t ⟨b, off, none⟩ (.int k y) = some (A.set b (some (.cells ((l.set off y).map (Value.int k)) true 1))) := by
  have h1 : off + 1 ≤ l.length := by omega
  simp [astore, hg, hi, hs, Value.oneCell', List.map_set]
  omega

/-- append(out, l...) of integers, out our own. -/
theorem append_ints {P : Program} {A : AW} {t e : TypeId} {i : TypeInfo} {z : Value} {B : Nat} {v x : Value} {k : IntKind} {l l2 : List Int}
    (hu : P.underlying t = some (.slice e)) (hi : P.info? e = some i) (hz : i.zero = some z) (hsize : i.size = 1) (hzs : z.cells.size = 1)
    (hown : OwnInts B A k v l) (hx : IsInts A k x l2) (hlen : l.length + l2.length < 2 ^ 40) (hby : i.bytes ≤ 8) (hB : B ≤ A.next) (hw : A.Wf) :
    ∃ v' A', aappend P A t t v x = some (v', A') ∧ OwnInts B A' k v' (l ++ l2) ∧ (∀ A0 : AW, A0.next ≤ B → A0.le A → A0.le A') ∧ A'.Wf ∧ A.next ≤ A'.next := by
  have hb : (l.length + l2.length) * i.bytes ≤ 140737488355328 := by
    have := Nat.mul_le_mul_left (l.length + l2.length) hby
    omega
  obtain ⟨v', A', h1, h2, h3, h4, h5, _⟩ := aappend_own (P := P) (t := t) hu hi hz hsize hzs (by omega) hown hx.news (by simp [Value.oneCell']) (by omega) hb hB hw
  refine ⟨v', A', h1, ?_, h3, h4, h5⟩
  unfold OwnInts
  simpa using h2

end Go.Stx
