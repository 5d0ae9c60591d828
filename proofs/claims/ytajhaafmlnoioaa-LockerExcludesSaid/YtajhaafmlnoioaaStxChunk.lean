/-
  Assertions on rows: slices that one holds alone.
-/
import Derived.Test.YtajhaafmlnoioaaStxSep
import Derived.Test.YtajhaafmlnoioaaStxOwn
import Derived.Test.YtajhaafmlnoioaaStxRow
namespace Go.Stx
open Go
set_option linter.unusedVariables false

/-- v is nil, or a slice of n elements of 'size' cells, whose cells are cs, over a row that is held alone. -/
def RowH (size : Nat) (v : Value) (n : Nat) (cs : List Value) : HP :=
  ⟨fun h => (v = .slice none 0 0 ∧ n = 0 ∧ cs = [] ∧ h = fun _ => none) ∨
    ∃ b off c row, v = .slice (some ⟨b, off, none⟩) n c ∧ n ≤ c ∧ off + n * size ≤ row.length ∧ cs = (row.drop off).take (n * size) ∧
      h = fun j => if j = b then some (.cells row true size) else none⟩

def IntsH (k : IntKind) (v : Value) (l : List Int) : HP := RowH 1 v l.length (l.map (Value.int k))

theorem RowH.cases {A : AW} {size n : Nat} {v : Value} {cs : List Value} {F : HP} (h : Sat A (RowH size v n cs * F)) :
    (v = .slice none 0 0 ∧ n = 0 ∧ cs = [] ∧ Sat A F) ∨
    ∃ b off c row, v = .slice (some ⟨b, off, none⟩) n c ∧ n ≤ c ∧ off + n * size ≤ row.length ∧ cs = (row.drop off).take (n * size) ∧ Sat A (pt b (.cells row true size) * F) := by
  obtain ⟨_, ⟨a, b, d, rfl, p, q⟩, hs⟩ := h
  rcases p with ⟨h1, h2, h3, rfl⟩ | ⟨b', off, c, row, h1, h2, h3, h4, rfl⟩
  · exact .inl ⟨h1, h2, h3, b, q, hs⟩
  · exact .inr ⟨b', off, c, row, h1, h2, h3, h4, _, ⟨_, b, d, rfl, rfl, q⟩, hs⟩

theorem RowH.nil {A : AW} {size : Nat} {F : HP} (h : Sat A F) : Sat A (RowH size (.slice none 0 0) 0 [] * F) := by
  obtain ⟨x, p, hs⟩ := h
  exact ⟨x, ⟨_, x, fun _ => .inl rfl, rfl, .inl ⟨rfl, rfl, rfl, rfl⟩, p⟩, hs⟩

theorem RowH.mk {A : AW} {size n b off c : Nat} {row cs : List Value} {F : HP} (hc : n ≤ c) (h1 : off + n * size ≤ row.length) (h2 : cs = (row.drop off).take (n * size))
    (h : Sat A (pt b (.cells row true size) * F)) : Sat A (RowH size (.slice (some ⟨b, off, none⟩) n c) n cs * F) :=
  h.entl fun x hx => .inr ⟨b, off, c, row, rfl, hc, h1, h2, hx⟩

theorem RowH.own {A : AW} {size n : Nat} {v : Value} {cs : List Value} {F : HP} (h : Sat A (RowH size v n cs * F)) : OwnSl 0 A size v n cs := by
  rcases RowH.cases h with ⟨rfl, rfl, rfl, _⟩ | ⟨b, off, c, row, rfl, h1, h2, h3, h4⟩
  · exact .inl ⟨rfl, rfl, rfl⟩
  · exact .inr ⟨⟨b, off, none⟩, c, row, rfl, h1, rfl, Nat.zero_le _, h4.get, h2, h3⟩
theorem RowH.is {A : AW} {size n : Nat} {v : Value} {cs : List Value} {F : HP} (h : Sat A (RowH size v n cs * F)) : IsSl A size v n cs := (RowH.own h).is
theorem IntsH.own {A : AW} {k : IntKind} {v : Value} {l : List Int} {F : HP} (h : Sat A (IntsH k v l * F)) : OwnInts 0 A k v l := RowH.own h
theorem IntsH.is {A : AW} {k : IntKind} {v : Value} {l : List Int} {F : HP} (h : Sat A (IntsH k v l * F)) : IsInts A k v l := RowH.is h
theorem IntsH.nil {A : AW} {k : IntKind} {F : HP} (h : Sat A F) : Sat A (IntsH k (.slice none 0 0) [] * F) := RowH.nil h

theorem IntsH.mk {A : AW} {k : IntKind} {b off c n : Nat} {row : List Value} {l : List Int} {F : HP} (hn : n = l.length) (hc : l.length ≤ c) (h1 : off + l.length ≤ row.length) (h2 : l.map (Value.int k) = (row.drop off).take l.length)
    (h : Sat A (pt b (.cells row true 1) * F)) : Sat A (IntsH k (.slice (some ⟨b, off, none⟩) n c) l * F) := by
  subst hn
  exact RowH.mk hc (by simpa using h1) (by simpa using h2) h

/-- What a call has made. -/
theorem RowH.of_own {A A' : AW} {size n : Nat} {v : Value} {cs : List Value} {F : HP} (h : Sat A F) (hw : A.Wf) (hl : A.le A') (ho : OwnSl A.next A' size v n cs) : Sat A' (RowH size v n cs * F) := by
  rcases ho with ⟨rfl, rfl, rfl⟩ | ⟨p, c, row, rfl, h1, hs, hB, hg, h2, h3⟩
  · exact RowH.nil (h.le hw hl)
  · obtain ⟨b, o, s⟩ := p
    simp only at hs hB hg h2 h3
    subst hs
    refine RowH.mk h1 h2 h3 (Sat.cons hg (h.of_eq fun i o hi => ?_))
    have := hw.lt hi
    rw [AW.set_get_ne (by omega)]
    exact hl.keep hw hi
theorem IntsH.of_own {A A' : AW} {k : IntKind} {v : Value} {l : List Int} {F : HP} (h : Sat A F) (hw : A.Wf) (hl : A.le A') (ho : OwnInts A.next A' k v l) : Sat A' (IntsH k v l * F) := RowH.of_own h hw hl ho

/-- The place of an element. -/
theorem IntsH.at {A : AW} {k : IntKind} {v : Value} {l : List Int} {F : HP} (h : Sat A (IntsH k v l * F)) {j : Nat} (hj : j < l.length) :
    ∃ b off c row, v = .slice (some ⟨b, off, none⟩) l.length c ∧ l.length ≤ c ∧ A.get b = some (.cells row true 1) ∧ row[off + j]? = some (.int k l[j]) ∧ off + l.length ≤ row.length ∧
      ∀ y, Sat (A.set b (some (.cells (row.set (off + j) (.int k y)) true 1))) (IntsH k v (l.set j y) * F) := by
  rcases RowH.cases h with ⟨_, h0, _⟩ | ⟨b, off, c, row, rfl, h1, h2, h3, h4⟩
  · omega
  · rw [Nat.mul_one] at h2 h3
    have hcell : ∀ q, q < l.length → row[off + q]? = (l.map (Value.int k))[q]? := fun q hq => by
      rw [h3, List.getElem?_take_of_lt hq, List.getElem?_drop]
    refine ⟨b, off, c, row, rfl, h1, h4.get, by rw [hcell j hj, List.getElem?_map, List.getElem?_eq_getElem hj]; rfl, h2, fun y => ?_⟩
    have := RowH.mk (size := 1) (n := l.length) (off := off) (c := c) (cs := (l.set j y).map (Value.int k)) h1 (by simpa using h2) ?_ (h4.set (.cells (row.set (off + j) (.int k y)) true 1))
    · unfold IntsH
      simpa using this
    · rw [Nat.mul_one]
      apply List.ext_getElem?
      intro q
      by_cases hq : q < l.length
      · rw [List.getElem?_take_of_lt hq, List.getElem?_drop, List.getElem?_map]
        by_cases e : j = q
        · subst e
          rw [List.getElem?_set_self hj, List.getElem?_set_self (by omega)]; rfl
        · rw [List.getElem?_set_ne e, List.getElem?_set_ne (by omega), hcell q hq, List.getElem?_map]
      · rw [List.getElem?_eq_none (by simp; omega), List.getElem?_eq_none (by simp; omega)]

/-- append(v, y). -/
theorem IntsH.append {P : Program} {A : AW} {t e : TypeId} {i : TypeInfo} {z : Value} {v : Value} {k : IntKind} {l : List Int} {F : HP} (y : Int)
    (hu : P.underlying t = some (.slice e)) (hi : P.info? e = some i) (hz : i.zero = some z) (hsize : i.size = 1) (hzs : z.cells.size = 1)
    (h : Sat A (IntsH k v l * F)) (hlen : l.length < 2 ^ 40) (hby : i.bytes ≤ 8) (hw : A.Wf) :
    ∃ v' A', aappend P (A.alloc (.cells [.int k y] true 1)) t t v (.slice (some ⟨A.next, 0, none⟩) 1 1) = some (v', A') ∧ Sat A' (IntsH k v' (l ++ [y]) * F) ∧ A'.Wf ∧ A.next ≤ A'.next := by
  have hnews : appNews (A.alloc (.cells [.int k y] true 1)) 1 (.slice (some ⟨A.next, 0, none⟩) 1 1) = some (1, [.int k y]) := by
    simp [appNews, AW.row]
  have hb : (l.length + 1) * i.bytes ≤ 140737488355328 := by
    have := Nat.mul_le_mul_left (l.length + 1) hby
    omega
  have hb2 : l.length + 1 ≤ 140737488355328 := by omega
  have hone : [Value.int k y].all Value.oneCell' = true := rfl
  have hll : (l ++ [y]).length = l.length + 1 := by simp
  rcases RowH.cases h with ⟨rfl, h0, h1, h2⟩ | ⟨b, off, c, row, rfl, h1, h2, h3, h4⟩
  · have : l = [] := List.eq_nil_of_length_eq_zero h0
    subst this
    refine ⟨.slice (some ⟨A.next + 1, 0, none⟩) (0 + 1) (0 + 1), (A.alloc (.cells [.int k y] true 1)).alloc (.cells ([] ++ [.int k y]) true i.size), ?_, ?_, (hw.alloc _).alloc _, by simp; omega⟩
    · simp only [aappend, hu, hi, hz, hsize, hnews, appOlds]
      rw [if_pos ⟨hzs, by omega, trivial⟩, if_neg (by omega), if_pos ⟨hb2, hb, hone⟩]
      simp
    · have := (h2.keep hw (.cells [.int k y] true 1)).alloc (hw.alloc _) (.cells ([] ++ [.int k y]) true i.size)
      rw [hsize] at this ⊢
      have h9 : Sat ((A.alloc (.cells [.int k y] true 1)).alloc (.cells ([] ++ [.int k y]) true 1)) (pt (A.next + 1) (.cells [.int k y] true 1) * F) := this
      exact RowH.mk (size := 1) (n := 1) (off := 0) (c := 1) (by simp) (by simp) (by simp) h9
  · have hg := h4.get
    have hlt := hw.lt hg
    have hg' : (A.alloc (.cells [.int k y] true 1)).get b = some (.cells row true 1) := by rw [AW.alloc_get_old _ _ (by omega)]; exact hg
    refine ⟨.slice (some ⟨A.next + 1, 0, none⟩) (l.length + 1) (l.length + 1), ((A.alloc (.cells [.int k y] true 1)).set b none).alloc (.cells ((row.drop off).take (l.length * 1) ++ [.int k y]) true i.size), ?_, ?_,
      ((hw.alloc _).set none (by simp; omega)).alloc _, by simp; omega⟩
    · simp only [aappend, hu, hi, hz, hsize, hnews, appOlds, hg']
      rw [if_pos ⟨hzs, by omega, trivial⟩, if_neg (by simp), if_pos ⟨trivial, h2⟩]
      simp only
      rw [if_neg (by omega), if_pos ⟨hb2, hb, hone⟩]
      simp
    · have h5 := ((h4.keep hw (.cells [.int k y] true 1)).kill).alloc ((hw.alloc (.cells [.int k y] true 1)).set none (by simp; omega)) (.cells ((row.drop off).take (l.length * 1) ++ [.int k y]) true i.size)
      rw [hsize] at h5 ⊢
      unfold IntsH
      rw [hll]
      refine RowH.mk (Nat.le_refl _) ?_ ?_ (by simpa using h5)
      · simp at h2 ⊢; omega
      · rw [Nat.mul_one] at h2 h3
        simp only [Nat.mul_one, List.drop_zero]
        rw [← h3, List.take_of_length_le (by simp)]
        simp

theorem IsInts.atg {A : AW} {k : IntKind} {o : Option Addr} {c n : Nat} {l : List Int} (h : IsInts A k (.slice o n c) l) {i : Nat} (hi : i < l.length) :
    ∃ p row own, o = some p ∧ A.get p.block = some (.cells row own 1) ∧ row[p.off + i]? = some (.int k l[i]) := by
  rcases h.cases with ⟨h1, rfl⟩ | ⟨p, c, row, own, h1, _, hg, _, hr⟩
  · simp at hi
  · injection h1 with h1 h2 h3
    exact ⟨p, row, own, h1, hg, hr i hi⟩

/-- make([]T, n). -/
theorem IntsH.make {P : Program} {A : AW} {t e : TypeId} {i : TypeInfo} {k k1 k2 : IntKind} {F : HP} (n : Nat)
    (hu : P.underlying t = some (.slice e)) (hi : P.info? e = some i) (hz : i.zero = some (.int k 0)) (hsize : i.size = 1) (hby : i.bytes ≤ 8) (hn : n < 2 ^ 40) (h : Sat A F) (hw : A.Wf) :
    ∃ v' A', amake P A t (.int k1 (n : Int)) (.int k2 (n : Int)) = some (v', A') ∧ Sat A' (IntsH k v' (List.replicate n 0) * F) ∧ A'.Wf ∧ A.le A' := by
  have hb : (n : Int) * i.bytes ≤ 140737488355328 := by
    have := Nat.mul_le_mul_left n hby
    have h2 : ((n * i.bytes : Nat) : Int) ≤ ((n * 8 : Nat) : Int) := by exact_mod_cast this
    have h3 : ((n * i.bytes : Nat) : Int) = (n : Int) * i.bytes := by push_cast; rfl
    omega
  refine ⟨.slice (some ⟨A.next, 0, none⟩) n n, A.alloc (.cells (azeros [.int k 0] n) true 1), ?_, ?_, hw.alloc _, AW.le.alloc _ _⟩
  · simp only [amake, hu, hi, hz, hsize]
    rw [if_pos ⟨rfl, by omega, rfl, by omega, by omega, by omega, hb⟩]
    simp [Value.cells]
  · have hlen : (azeros [Value.int k 0] n).length = n := by simp [length_azeros]
    have hcs : (List.replicate n (0 : Int)).map (Value.int k) = azeros [Value.int k 0] n := by
      clear hb hn hlen
      induction n with
      | zero => rfl
      | succ n ih => rw [List.replicate_succ, List.map_cons, ih]; rfl
    refine IntsH.mk (by simp) (by simp) (by simp [hlen]) ?_ (h.alloc hw _)
    rw [hcs, List.drop_zero, List.take_of_length_le (by simp [hlen])]

/-- append(v, make([]T, n)...). -/
theorem IntsH.appendZ {P : Program} {A : AW} {t u e : TypeId} {i : TypeInfo} {ku : IntKind} {v : Value} {k kq : IntKind} {l : List Int} {F : HP} (n : Nat)
    (hu : P.underlying t = some (.slice e)) (huu : P.underlying u = some (.int ku)) (hi : P.info? e = some i) (hz : i.zero = some (.int k 0)) (hsize : i.size = 1)
    (h : Sat A (IntsH k v l * F)) (hlen : l.length + n < 2 ^ 40) (hby : i.bytes ≤ 8) (hw : A.Wf) :
    ∃ v' A', aappendZ P A t u v (.int kq (n : Int)) = some (v', A') ∧ Sat A' (IntsH k v' (l ++ List.replicate n 0) * F) ∧ A'.Wf := by
  have hcs : (List.replicate n (0 : Int)).map (Value.int k) = azeros [Value.int k 0] n := by
    clear hlen
    induction n with
    | zero => rfl
    | succ n ih => rw [List.replicate_succ, List.map_cons, ih]; rfl
  have hzl : (azeros [Value.int k 0] n).length = n := by simp [length_azeros]
  have hb : (l.length + n) * i.bytes ≤ 140737488355328 := by
    have := Nat.mul_le_mul_left (l.length + n) hby
    omega
  rcases RowH.cases h with ⟨rfl, h0, h1, h2⟩ | ⟨b, off, c, row, rfl, h1, h2, h3, h4⟩
  · have : l = [] := List.eq_nil_of_length_eq_zero h0
    subst this
    by_cases hn : n = 0
    · subst hn
      refine ⟨.slice none 0 0, A, ?_, by simpa using h, hw⟩
      simp only [aappendZ, hu, huu, hi, hz, hsize, appOlds]
      rw [if_pos ⟨rfl, by omega, rfl, by omega, by simp, by simp⟩]
      simp
    · refine ⟨.slice (some ⟨A.next, 0, none⟩) (0 + n) (0 + n), A.alloc (.cells ([] ++ azeros [.int k 0] n) true 1), ?_, ?_, hw.alloc _⟩
      · simp only [aappendZ, hu, huu, hi, hz, hsize, appOlds, Int.toNat_natCast]
        rw [if_pos ⟨rfl, by omega, rfl, by omega, by simp at hlen; omega, by simpa using hb⟩, if_neg hn]
        rfl
      · refine IntsH.mk (by simp) (by simp) (by simp [hzl]) ?_ (h2.alloc hw _)
        rw [List.nil_append, List.nil_append, hcs, List.drop_zero, List.take_of_length_le (by simp [hzl])]
  · have hg := h4.get
    have hlt := hw.lt hg
    by_cases hn : n = 0
    · subst hn
      refine ⟨.slice (some ⟨b, off, none⟩) l.length c, A, ?_, by simpa using h, hw⟩
      simp only [aappendZ, hu, huu, hi, hz, hsize, appOlds, hg]
      rw [if_neg (by simp), if_pos ⟨trivial, h2⟩]
      simp only
      rw [if_pos ⟨rfl, by omega, rfl, by omega, by simp at hlen ⊢; omega, by simpa using hb⟩]
      simp
    · refine ⟨.slice (some ⟨A.next, 0, none⟩) (l.length + n) (l.length + n), (A.set b none).alloc (.cells ((row.drop off).take (l.length * 1) ++ azeros [.int k 0] n) true 1), ?_, ?_, (hw.set none hlt).alloc _⟩
      · simp only [aappendZ, hu, huu, hi, hz, hsize, appOlds, hg, Int.toNat_natCast]
        rw [if_neg (by simp), if_pos ⟨trivial, h2⟩]
        simp only
        rw [if_pos ⟨rfl, by omega, rfl, by omega, by omega, hb⟩, if_neg hn]
        rfl
      · have h5 := h4.kill.alloc (hw.set none hlt) (.cells ((row.drop off).take (l.length * 1) ++ azeros [.int k 0] n) true 1)
        rw [Nat.mul_one] at h2 h3
        refine IntsH.mk (by simp) (by simp) ?_ ?_ (by simpa using h5)
        · simp [hzl]; omega
        · rw [List.drop_zero, ← h3, ← hcs, ← List.map_append, List.take_of_length_le (by simp)]

/-! ### Many at once -/

def bstar (f : Nat → HP) : Nat → HP
  | 0 => hemp
  | n + 1 => bstar f n * f n

def updH (f : Nat → HP) (i : Nat) (Q : HP) : Nat → HP := fun j => if j = i then Q else f j

theorem bstar_congr {f g : Nat → HP} : ∀ {n : Nat}, (∀ i, i < n → f i = g i) → bstar f n = bstar g n
  | 0, _ => rfl
  | n + 1, h => by
    unfold bstar
    rw [bstar_congr (n := n) (fun i hi => h i (by omega)), h n (by omega)]

theorem bstar_pick (f : Nat → HP) {i : Nat} : ∀ {n : Nat}, i < n → bstar f n = f i * bstar (updH f i hemp) n
  | 0, h => by omega
  | n + 1, h => by
    unfold bstar
    by_cases e : i = n
    · subst e
      rw [bstar_congr (f := updH f i hemp) (g := f) (n := i) (fun j hj => by simp [updH]; omega)]
      simp only [updH, if_true, mul_hemp]
      exact HP.mul_comm _ _
    · have hin : i < n := by omega
      rw [bstar_pick f hin]
      have : updH f i hemp n = f n := by simp [updH]; omega
      rw [this, HP.mul_assoc]

theorem bstar_put (f : Nat → HP) {i n : Nat} (hi : i < n) (Q : HP) : bstar (updH f i Q) n = Q * bstar (updH f i hemp) n := by
  rw [bstar_pick _ hi]
  congr 1
  · simp [updH]
  · refine bstar_congr fun j _ => ?_
    simp only [updH]
    split <;> rfl

theorem updH_self (f : Nat → HP) (i : Nat) : updH f i (f i) = f := by
  funext j
  simp only [updH]
  split
  · rename_i e; rw [e]
  · rfl

/-- One of many, and how to put it back. -/
theorem Sat.pick {A : AW} {f : Nat → HP} {n i : Nat} {F : HP} (h : Sat A (bstar f n * F)) (hi : i < n) : Sat A (f i * (bstar (updH f i hemp) n * F)) := by
  rw [bstar_pick f hi, HP.mul_assoc] at h
  exact h
theorem Sat.put {A : AW} {f : Nat → HP} {n i : Nat} {Q F : HP} (h : Sat A (Q * (bstar (updH f i hemp) n * F))) (hi : i < n) : Sat A (bstar (updH f i Q) n * F) := by
  rw [bstar_put f hi, HP.mul_assoc]
  exact h

end Go.Stx
