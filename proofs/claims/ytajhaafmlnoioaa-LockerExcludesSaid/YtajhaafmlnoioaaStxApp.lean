/-
  The built-in append in the abstract memory: a new abstract block takes the place of the old one, whether the model grows the array or writes behind its end.
-/
import Derived.Test.YtajhaafmlnoioaaStxMem
namespace Go.Stx
open Go

theorem Evo.kill {m : Mp} {A : AW} {w : World} (hs : Sim m A w) (i : Nat) : Evo m A w m (A.set i none) w := by
  have key : ∀ {j o}, (A.set i none).get j = some o → A.get j = some o := fun {j o} h => by
    by_cases hj : j = i
    · subst hj; rw [AW.set_get_same] at h; cases h
    · rwa [AW.set_get_ne hj] at h
  refine ⟨Mp.le_refl m, ⟨fun j o h => hs.obj j o (key h), fun a b o o' p p' h1 h2 h3 h4 h5 h6 => hs.inj a b o o' p p' (key h1) h2 (key h3) h4 h5 h6, hs.fresh, ?_⟩,
    Nat.le_refl _, rfl, rfl, rfl, Nat.le_refl _, fun _ _ _ => rfl, ?_⟩
  · intro j hj
    by_cases hji : j = i
    · subst hji; exact AW.set_get_same
    · rw [AW.set_get_ne hji]; exact hs.low j hj
  · rintro b ⟨j, o, p, h1, h2, h3, h4⟩
    exact .inl ⟨j, o, p, key h1, h2, h3, h4⟩

/-- A new abstract block at the concrete block of one that is given up. -/
theorem Evo.adopt {m : Mp} {A : AW} {w w' : World} (hs : Sim m A w) {i : Nat} {p p' : Pl} {cs cs' : List Value} {unit : Nat} {cur' : Array Value} {e : TypeId}
    (hg : A.get i = some (.cells cs true unit)) (hm : m i = some p) (hpb : p'.block = p.block) (hu : unit = p'.unit)
    (hsz : w'.heap.size = w.heap.size) (hos : w'.os = w.os) (ht : w'.tape = w.tape) (ho : w'.output = w.output)
    (hb : w'.heap[p.block]? = some (.cells cur' e (0, 0))) (htot : cur'.size = p'.total) (hother : ∀ j, j ≠ p.block → w'.heap[j]? = w.heap[j]?)
    (hrel : ∀ (k : Nat) (v : Value), cs'[k]? = some v → ∃ v', cur'[p'.base + k]? = some v' ∧ VRel m v v') :
    Evo m A w (m.ext A.next p') ((A.set i none).alloc (.cells cs' true unit)) w' := by
  have hle := hs.le_ext p'
  have old : ∀ {j o}, A.get j = some o → j ≠ A.next := fun {j o} h e => by
    subst e
    rw [hs.low _ (Nat.le_refl _)] at h
    cases h
  have mold : ∀ {j}, j ≠ A.next → (m.ext A.next p') j = m j := fun {j} h => by simp [Mp.ext, h]
  have mnew : (m.ext A.next p') A.next = some p' := by simp [Mp.ext]
  have gnew : ((A.set i none).alloc (.cells cs' true unit)).get A.next = some (.cells cs' true unit) := by simp [AW.alloc, AW.set]
  have gold : ∀ {j o}, j ≠ A.next → ((A.set i none).alloc (.cells cs' true unit)).get j = some o → A.get j = some o ∧ j ≠ i := fun {j o} h1 h2 => by
    have e : ((A.set i none).alloc (.cells cs' true unit)).get j = (A.set i none).get j := by
      exact if_neg h1
    rw [e] at h2
    by_cases hji : j = i
    · subst hji; rw [AW.set_get_same] at h2; cases h2
    · rw [AW.set_get_ne hji] at h2; exact ⟨h2, hji⟩
  refine ⟨hle, ⟨?_, ?_, ?_, ?_⟩, by simp [AW.alloc, AW.set], hos, ht, ho, by omega, ?_, ?_⟩
  · intro j o hj
    by_cases hn : j = A.next
    · subst hn
      rw [gnew] at hj
      simp only [Option.some.injEq] at hj
      subst hj
      refine ⟨p', mnew, cur', e, (0, 0), by rw [hpb]; exact hb, fun _ => rfl, hu, htot, fun k v hv => ?_⟩
      obtain ⟨v', h1, h2⟩ := hrel k v hv
      exact ⟨v', h1, h2.mono hle⟩
    · obtain ⟨hj', hji⟩ := gold hn hj
      obtain ⟨q, h1, h2⟩ := hs.obj j o hj'
      have hne : q.block ≠ p.block := fun e' => hs.inj i j _ o p q hg rfl hj' (Ne.symm hji) hm h1 e'.symm
      exact ⟨q, by rw [mold hn]; exact h1, (h2.heap (hother _ hne)).mono hle⟩
  · intro a b o o' p1 p2 ha how hb' hne hma hmb
    by_cases han : a = A.next
    · subst han
      rw [mnew] at hma
      simp only [Option.some.injEq] at hma
      subst hma
      obtain ⟨hb1, hbi⟩ := gold (Ne.symm hne) hb'
      rw [mold (Ne.symm hne)] at hmb
      rw [hpb]
      exact hs.inj i b _ o' p p2 hg rfl hb1 (Ne.symm hbi) hm hmb
    · obtain ⟨ha1, hai⟩ := gold han ha
      rw [mold han] at hma
      by_cases hbn : b = A.next
      · subst hbn
        rw [mnew] at hmb
        simp only [Option.some.injEq] at hmb
        subst hmb
        rw [hpb]
        exact hs.inj a i o _ p1 p ha1 how hg hai hma hm
      · obtain ⟨hb1, _⟩ := gold hbn hb'
        rw [mold hbn] at hmb
        exact hs.inj a b o o' p1 p2 ha1 how hb1 hne hma hmb
  · intro j hj
    have : j ≠ A.next := by simp [AW.alloc, AW.set] at hj; omega
    rw [mold this]
    exact hs.fresh j (by simp [AW.alloc, AW.set] at hj; omega)
  · intro j hj
    have h0 : A.next + 1 ≤ j := by simpa [AW.alloc, AW.set] using hj
    have h1 : j ≠ A.next := by omega
    cases hx : ((A.set i none).alloc (.cells cs' true unit)).get j with
    | none => rfl
    | some o =>
      have := (gold h1 hx).1
      rw [hs.low j (by omega)] at this
      cases this
  · intro b' _ ho'
    refine hother b' (fun e' => ho' ?_)
    subst e'
    exact ⟨i, _, p, hg, rfl, hm, rfl⟩
  · rintro b ⟨j, o, q, hj, how, hmj, hbj⟩
    by_cases hn : j = A.next
    · subst hn
      rw [mnew] at hmj
      simp only [Option.some.injEq] at hmj
      subst hmj
      exact .inl ⟨i, _, p, hg, rfl, hm, by rw [← hpb]; exact hbj⟩
    · obtain ⟨hj', _⟩ := gold hn hj
      rw [mold hn] at hmj
      exact .inl ⟨j, o, q, hj', how, hmj, hbj⟩

theorem take_drop_get (cs : List Value) (o n : Nat) (j : Nat) (v : Value) (h : ((cs.drop o).take n)[j]? = some v) : cs[o + j]? = some v ∧ j < n := by
  rw [List.getElem?_take] at h
  split at h
  · rename_i hj
    rw [List.getElem?_drop] at h
    exact ⟨h, hj⟩
  · cases h

/-- What a list of abstract values in a row is in the world. -/
theorem row_conc {m : Mp} {A : AW} {w : World} (hs : Sim m A w) {a a' : Addr} (ha : ARel m a a') {cs : List Value} (hr : A.row a.block = some cs) (n : Nat) (hn : a.off + n ≤ cs.length) :
    ∃ l', l'.length = n ∧ LRel m ((cs.drop a.off).take n) l' ∧ ∀ (j : Nat) (v : Value), l'[j]? = some v → w.cell? (a'.add j) = some v := by
  have h : ∀ j, j < n → ∃ v', w.cell? (a'.add j) = some v' ∧ VRel m (cs.getD (a.off + j) undef) v' := fun j hj =>
    cell_rel hs ha hr (by rw [List.getD_eq_getElem?_getD, List.getElem?_eq_getElem (by omega)]; rfl)
  refine ⟨(List.range n).map fun j => (w.cell? (a'.add j)).getD undef, by simp, ⟨by simp; omega, ?_⟩, ?_⟩
  · intro i v v' h1 h2
    obtain ⟨h3, hi⟩ := take_drop_get _ _ _ _ _ h1
    obtain ⟨v1, h4, h5⟩ := h i hi
    rw [List.getD_eq_getElem?_getD, h3] at h5
    simp [hi, h4] at h2
    subst h2
    exact h5
  · intro j v hv
    have hj : j < n := by
      have := (List.getElem?_eq_some_iff.1 hv).1
      simpa using this
    obtain ⟨v1, h4, _⟩ := h j hj
    simp [hj, h4] at hv
    subst hv
    exact h4

/-- The elements that an append adds: how many, and their cells. -/
def appNews (A : AW) (size : Nat) (x : Value) : Option (Nat × List Value) :=
  match x with
  | .slice none 0 0 => some (0, [])
  | .slice (some b) n _ =>
    if n = 0 then some (0, []) else
    match A.row b.block with
    | some cs => if b.off + n * size ≤ cs.length then some (n, (cs.drop b.off).take (n * size)) else none
    | none => none
  | _ => none

def appOlds (A : AW) (size : Nat) (s : Value) : Option (Option Addr × Nat × List Value) :=
  match s with
  | .slice none 0 0 => some (none, 0, [])
  | .slice (some a) n c =>
    if a.spot.isSome ∧ c = 0 ∧ n = 0 then some (none, 0, []) else
    match A.get a.block with
    | some (.cells cs true unit) => if unit = size ∧ a.off + n * size ≤ cs.length then some (some a, n, (cs.drop a.off).take (n * size)) else none
    | _ => none
  | _ => none

/-- append(s, x...). -/
def aappend (P : Program) (A : AW) (t u : TypeId) (s x : Value) : Option (Value × AW) :=
  match P.underlying t with
  | some (.slice e) =>
    match P.info? e with
    | some i =>
      match i.zero with
      | some z =>
        if z.cells.size = i.size ∧ 0 < i.size ∧ t = u then
          match appNews A i.size x, appOlds A i.size s with
          | some (n, news), some (base, k, olds) =>
            if n = 0 then some (s, A)
            else if k + n ≤ 140737488355328 ∧ (k + n) * i.bytes ≤ 140737488355328 ∧ news.all Value.oneCell' then
              some (.slice (some ⟨A.next, 0, none⟩) (k + n) (k + n),
                ((match base with | some a => A.set a.block none | none => A)).alloc (.cells (olds ++ news) true i.size))
            else none
          | _, _ => none
        else none
      | none => none
    | none => none
  | _ => none

/-- What the model does at an append of no element. -/
theorem run_append_zero {P : Program} (w : World) (t ty e : TypeId) (i : TypeInfo) (ht : P.underlying t = some (.slice e)) (hi : P.info? e = some i)
    (base : Option Addr) (n c : Nat) (hc : n ≤ c) (xb : Option Addr) (xc : Nat) :
    (Builtin.append_ #[t, t] ty #[.slice base n c, .slice xb 0 xc]).run P w = .ok (.slice base n c) w := by
  cases base <;> cases xb <;> simp [Builtin.append_, run_underlying ht, sizeOf, typeInfo, hi, Builtin.lenOf, hc, Builtin.firstCells, loadCells, loadCellsFrom, storeCells]

theorem appNews_conc {m : Mp} {A : AW} {w : World} (hs : Sim m A w) {size n : Nat} {x x' : Value} {news : List Value} (h : appNews A size x = some (n, news)) (hx : VRel m x x') :
    (n = 0 ∧ ∃ xb xc, x' = .slice xb 0 xc) ∨
    (∃ a c l', x' = .slice (some a) n c ∧ l'.length = n * size ∧ LRel m news l' ∧ ∀ (j : Nat) (v : Value), l'[j]? = some v → w.cell? (a.add j) = some v) := by
  unfold appNews at h
  split at h
  · simp only [Option.some.injEq, Prod.mk.injEq] at h
    obtain ⟨rfl, rfl⟩ := h
    cases hx
    exact .inl ⟨rfl, _, _, rfl⟩
  · rename_i b k c
    split at h
    · rename_i h0
      simp only [Option.some.injEq, Prod.mk.injEq] at h
      obtain ⟨rfl, rfl⟩ := h
      subst h0
      cases hx
      exact .inl ⟨rfl, _, _, rfl⟩
    · rename_i h0
      split at h
      · rename_i cs hr
        split at h
        · rename_i hle
          simp only [Option.some.injEq, Prod.mk.injEq] at h
          obtain ⟨rfl, rfl⟩ := h
          cases hx with
          | slice hh h1 h2 =>
            rename_i a' cap'
            have ha : ARel m b a' := by
              rcases hh with hh | hh
              · exact hh.arel
              · exact absurd hh.1 h0
            obtain ⟨l', e1, e2, e3⟩ := row_conc hs ha hr (k * size) hle
            exact .inr ⟨a', cap', l', rfl, e1, e2, e3⟩
        · cases h
      · cases h
  · cases h

theorem LRel.one {m : Mp} {l l' : List Value} (h : LRel m l l') (h1 : ∀ v ∈ l, v.oneCell' = true) : ∀ v ∈ l', v.oneCell' = true := by
  intro v hv
  obtain ⟨i, hi⟩ := List.getElem?_of_mem hv
  have hlt := (List.getElem?_eq_some_iff.1 hi).1
  rw [← h.1] at hlt
  have e := List.getElem?_eq_getElem hlt
  rw [(h.2 i _ v e hi).oneCell]
  exact h1 _ (List.getElem_mem hlt)

/-- There is room behind the slice's end. -/
theorem run_append_room_at {P : Program} (w : World) (t ty e : TypeId) (i : TypeInfo) (ht : P.underlying t = some (.slice e)) (hi : P.info? e = some i)
    (g o sLen sCap : Nat) (cur : Array Value) (e' : TypeId) (hg : w.heap[g]? = some (.cells cur e' (0, 0)))
    (a : Addr) (m c : Nat) (news : List Value) (hl : news.length = m * i.size) (hnews : ∀ j u, news[j]? = some u → w.cell? (a.add j) = some u) (h1 : ∀ u ∈ news, u.oneCell' = true)
    (hroom : sLen + m ≤ sCap) (hfit : o + sLen * i.size + news.length ≤ cur.size) :
    (Builtin.append_ #[t, t] ty #[.slice (some ⟨g, o, none⟩) sLen sCap, .slice (some a) m c]).run P w =
      .ok (.slice (some ⟨g, o, none⟩) (sLen + m) sCap) (w.setRow g (cur.toList.take (o + sLen * i.size) ++ news ++ cur.toList.drop (o + sLen * i.size + news.length)).toArray) := by
  have hf := run_firstCells_some (P := P) w i.size m a m c news hl hnews
  have hst := run_storeCells_at P g (o + sLen * i.size) e' news 0 cur w hg (by simpa using hfit) h1
  simp only [Nat.add_zero] at hst
  have ea : (⟨g, o, none⟩ : Addr).add (sLen * i.size) = ⟨g, o + sLen * i.size, none⟩ := addr_add _ _ rfl
  simp [Builtin.append_, run_underlying ht, sizeOf, typeInfo, hi, Builtin.lenOf, hroom, hf, ea, hst]

/-- An append that adds cells, whatever they come from: the old array is given up for a new abstract block. -/
theorem append_core {P : Program} {m : Mp} {A : AW} {w : World} (hs : Sim m A w) {ty e : TypeId} {i : TypeInfo} {z : Value} {ts : Array TypeId} {X : Value} {s s' : Value} {n k : Nat} {news l' olds : List Value} {base : Option Addr}
    (hzs : z.cells.size = i.size)
    (hn0 : ¬ n = 0) (hb1 : k + n ≤ 140737488355328) (hb2 : (k + n) * i.bytes ≤ 140737488355328) (hone : ∀ v ∈ news, v.oneCell' = true) (hl : l'.length = n * i.size) (hlr : LRel m news l')
    (ho : appOlds A i.size s = some (base, k, olds)) (hvs : VRel m s s')
    (Hnil : ∀ k', k' = 0 → k = 0 → (Builtin.append_ ts ty #[.slice none 0 0, X]).run P w = .ok (.slice (some ⟨w.heap.size, 0, none⟩) n (grownCap w n 0 e)) (w.drew.alloc (.cells (l'.toArray ++ Builtin.zeroCells z.cells (grownCap w n 0 e - n)) e)))
    (Hgrow : ∀ (b : Addr) (sLen sCap : Nat) (olds : List Value), sLen = k → olds.length = sLen * i.size → (∀ (j : Nat) (v : Value), olds[j]? = some v → w.cell? (b.add j) = some v) → sCap < sLen + n →
      (Builtin.append_ ts ty #[.slice (some b) sLen sCap, X]).run P w = .ok (.slice (some ⟨w.heap.size, 0, none⟩) (sLen + n) (grownCap w (sLen + n) sCap e))
        (w.drew.alloc (.cells (olds.toArray ++ l'.toArray ++ Builtin.zeroCells z.cells (grownCap w (sLen + n) sCap e - (sLen + n))) e)))
    (Hroom : ∀ (g o sLen sCap : Nat) (cur : Array Value) (e' : TypeId), w.heap[g]? = some (.cells cur e' (0, 0)) → sLen + n ≤ sCap → o + sLen * i.size + l'.length ≤ cur.size →
      (Builtin.append_ ts ty #[.slice (some ⟨g, o, none⟩) sLen sCap, X]).run P w = .ok (.slice (some ⟨g, o, none⟩) (sLen + n) sCap)
        (w.setRow g (cur.toList.take (o + sLen * i.size) ++ l' ++ cur.toList.drop (o + sLen * i.size + l'.length)).toArray)) :
    ∃ v' w' m', (Builtin.append_ ts ty #[s', X]).run P w = .ok v' w' ∧
      Evo m A w m' ((match base with | some a => A.set a.block none | none => A).alloc (.cells (olds ++ news) true i.size)) w' ∧ VRel m' (.slice (some ⟨A.next, 0, none⟩) (k + n) (k + n)) v' := by
  have hone' := hlr.one hone
  -- what the grown array is, whatever capacity is drawn
  have grown : ∀ (old : Nat) (A0 : AW) (hs0 : Sim m A0 w) (hn0 : A0.next = A.next) (lo : List Value) (hlo : LRel m olds lo) (hlen : lo.length = k * i.size),
      Evo m A0 w (m.ext A.next ⟨w.heap.size, 0, i.size, (lo.toArray ++ l'.toArray ++ Builtin.zeroCells z.cells (grownCap w (k + n) old e - (k + n))).size⟩)
          (A0.alloc (.cells (olds ++ news) true i.size)) (w.drew.alloc (.cells (lo.toArray ++ l'.toArray ++ Builtin.zeroCells z.cells (grownCap w (k + n) old e - (k + n))) e)) ∧
        VRel (m.ext A.next ⟨w.heap.size, 0, i.size, (lo.toArray ++ l'.toArray ++ Builtin.zeroCells z.cells (grownCap w (k + n) old e - (k + n))).size⟩)
          (.slice (some ⟨A.next, 0, none⟩) (k + n) (k + n)) (.slice (some ⟨w.heap.size, 0, none⟩) (k + n) (grownCap w (k + n) old e)) := by
    intro old A0 hs0 hnx lo hlo hlen
    have hge := grownCap_ge w (k + n) old e
    constructor
    · have hs1 : Sim m A0 w.drew := hs0.of_heap rfl
      have ev := Evo.alloc hs1 (olds ++ news) (lo.toArray ++ l'.toArray ++ Builtin.zeroCells z.cells (grownCap w (k + n) old e - (k + n))) e i.size (fun j v hv => by
        obtain ⟨v', h1, h2⟩ := (hlo.append hlr).get hv
        refine ⟨v', ?_, h2⟩
        have hlt := (List.getElem?_eq_some_iff.1 h1).1
        rw [Array.getElem?_append_left (by simpa using hlt)]
        simpa using h1)
      rw [hnx] at ev
      exact (Evo.drew hs0).trans ev
    · refine .slice (.inl ⟨rfl, rfl, ⟨w.heap.size, 0, i.size, (lo.toArray ++ l'.toArray ++ Builtin.zeroCells z.cells (grownCap w (k + n) old e - (k + n))).size⟩, if_pos rfl, rfl, rfl, ?_⟩) (Nat.le_refl _) hge
      simp only [Array.size_append, List.size_toArray, size_zeroCells, hlen, hl, hzs, ← Nat.add_mul]
      rw [show k + n + (grownCap w (k + n) old e - (k + n)) = grownCap w (k + n) old e by omega]
      omega
  unfold appOlds at ho
  split at ho
  · -- the nil slice
    simp only [Option.some.injEq, Prod.mk.injEq] at ho
    obtain ⟨rfl, rfl, rfl⟩ := ho
    cases hvs
    have hr := Hnil 0 rfl rfl
    obtain ⟨g1, g2⟩ := grown 0 A hs rfl [] LRel.nil (by simp)
    simp only [Nat.zero_add, List.nil_append, Array.empty_append] at g1 g2 ⊢
    exact ⟨_, _, _, hr, g1, g2⟩
  · rename_i sa k0 c0
    split at ho
    · -- a slice whose capacity is known to be none
      rename_i hx0
      obtain ⟨hx1, hx2, hx3⟩ := hx0
      subst hx2; subst hx3
      simp only [Option.some.injEq, Prod.mk.injEq] at ho
      obtain ⟨rfl, rfl, rfl⟩ := ho
      cases hvs with
      | slice hh h1 h2 =>
        rename_i a' cap'
        have hcap : cap' = 0 := by
          rcases hh with hh | hh
          · have h9 := hh.1
            rw [h9] at hx1
            cases hx1
          · exact hh.2.1
        subst hcap
        have hr := Hgrow a' 0 0 [] rfl (by simp) (fun j u h => by simp at h) (by omega)
        obtain ⟨g1, g2⟩ := grown 0 A hs rfl [] LRel.nil (by simp)
        simp only [Nat.zero_add, List.nil_append, Array.empty_append] at g1 g2 hr ⊢
        exact ⟨_, _, _, hr, g1, g2⟩
    split at ho <;> try (cases ho; done)
    rename_i cs unit hg
    split at ho <;> try (cases ho; done)
    rename_i hc2
    obtain ⟨rfl, hfit⟩ := hc2
    simp only [Option.some.injEq, Prod.mk.injEq] at ho
    obtain ⟨rfl, rfl, rfl⟩ := ho
    cases hvs with
    | slice hh h1 h2 =>
      rename_i a' cap'
      have hrow : A.row sa.block = some cs := by unfold AW.row; rw [hg]
      -- the old elements in the world
      have holds : ∃ lo, lo.length = k0 * i.size ∧ LRel m ((cs.drop sa.off).take (k0 * i.size)) lo ∧ ∀ (j : Nat) (v : Value), lo[j]? = some v → w.cell? (a'.add j) = some v := by
        rcases hh with hh | ⟨rfl, _⟩
        · exact row_conc hs hh.arel hrow (k0 * i.size) hfit
        · exact ⟨[], by simp, by simp [LRel.nil], by simp⟩
      obtain ⟨lo, hlo1, hlo2, hlo3⟩ := holds
      by_cases hroom : k0 + n ≤ cap'
      · -- there is room
        have hh' : SRel m sa a' cap' := by
          rcases hh with hh | ⟨_, hc0⟩
          · exact hh
          · omega
        obtain ⟨hsp, hsp', p, hm, hpb, hpo, hpt⟩ := hh'
        obtain ⟨p', hm', cur, e', fr, hw, hfr, hpu, htot, hcells⟩ := hs.obj _ _ hg
        rw [hm] at hm'
        simp only [Option.some.injEq] at hm'
        subst hm'
        obtain rfl := hfr rfl
        obtain ⟨sb, so, ss⟩ := a'
        simp only at hpb hpo hpt hsp'
        subst hsp'
        have hfit2 : so + k0 * i.size + l'.length ≤ cur.size := by
          rw [htot, hl, Nat.add_assoc, ← Nat.add_mul]
          have := Nat.mul_le_mul_right i.size hroom
          rw [← hpu] at hpt
          omega
        have hw' : w.heap[sb]? = some (.cells cur e' (0, 0)) := by rw [hpb]; exact hw
        have hr := Hroom sb so k0 cap' cur e' hw' hroom hfit2
        have hcz : (cur.toList.take (so + k0 * i.size) ++ l' ++ cur.toList.drop (so + k0 * i.size + l'.length)).length = cur.size := by
          simp only [List.length_append, List.length_take, List.length_drop, Array.length_toList]
          omega
        refine ⟨_, _, m.ext A.next ⟨p.block, so, i.size, p.total⟩, hr, ?_, ?_⟩
        · refine Evo.adopt hs (p' := ⟨p.block, so, i.size, p.total⟩) (e := e') hg hm rfl rfl (by simp) rfl rfl rfl
            (cur' := (cur.toList.take (so + k0 * i.size) ++ l' ++ cur.toList.drop (so + k0 * i.size + l'.length)).toArray) ?_ ?_ ?_ ?_
          · rw [← hpb]; exact setRow_heap w sb cur _ e' _ hw'
          · simpa [htot] using hcz
          · intro j hj
            exact setRow_other w sb j _ (by rw [hpb]; exact hj)
          · intro j v hv
            rw [List.getElem?_append] at hv
            simp only [List.length_take, List.length_drop] at hv
            have e1 : min (k0 * i.size) (cs.length - sa.off) = k0 * i.size := by omega
            rw [e1] at hv
            by_cases hj : j < k0 * i.size
            · rw [if_pos hj] at hv
              obtain ⟨h3, _⟩ := take_drop_get _ _ _ _ _ hv
              obtain ⟨v', h4, h5⟩ := hcells _ _ h3
              refine ⟨v', ?_, h5⟩
              have hlt := (Array.getElem?_eq_some_iff.1 h4).1
              simp only [List.getElem?_toArray, List.append_assoc]
              rw [List.getElem?_append_left (by simp; omega), List.getElem?_take_of_lt (by omega), Array.getElem?_toList, hpo, Nat.add_assoc]
              exact h4
            · rw [if_neg hj] at hv
              obtain ⟨v', h4, h5⟩ := hlr.get hv
              refine ⟨v', ?_, h5⟩
              have hlt := (List.getElem?_eq_some_iff.1 h4).1
              simp only [List.getElem?_toArray, List.append_assoc]
              have e2 : (cur.toList.take (so + k0 * i.size)).length = so + k0 * i.size := by simp; omega
              rw [List.getElem?_append_right (by omega), e2, List.getElem?_append_left (by omega)]
              rw [show so + j - (so + k0 * i.size) = j - k0 * i.size by omega]
              exact h4
        · refine .slice (.inl ⟨rfl, rfl, ⟨p.block, so, i.size, p.total⟩, by simp [Mp.ext], hpb, rfl, ?_⟩) (Nat.le_refl _) hroom
          simpa [hpu] using hpt
      · -- the array grows
        have hr := Hgrow a' k0 cap' lo rfl hlo1 hlo3 (by omega)
        have ek := Evo.kill hs sa.block
        obtain ⟨g1, g2⟩ := grown cap' (A.set sa.block none) ek.sim rfl lo hlo2 hlo1
        exact ⟨_, _, _, hr, ek.trans g1, g2⟩
  · cases ho


theorem append_sound {P : Program} {m : Mp} {A A1 : AW} {w : World} (hs : Sim m A w) {t u ty : TypeId} {s x s' x' v : Value} (h : aappend P A t u s x = some (v, A1))
    (hvs : VRel m s s') (hvx : VRel m x x') :
    ∃ v' w' m', (Builtin.append_ #[t, u] ty #[s', x']).run P w = .ok v' w' ∧ Evo m A w m' A1 w' ∧ VRel m' v v' := by
  unfold aappend at h
  split at h <;> try (cases h; done)
  rename_i e hu
  split at h <;> try (cases h; done)
  rename_i i hi
  split at h <;> try (cases h; done)
  rename_i z hz
  split at h <;> try (cases h; done)
  rename_i hcond
  obtain ⟨hzs, hsz, rfl⟩ := hcond
  split at h <;> try (cases h; done)
  rename_i n news base k olds hn ho
  have hnews := appNews_conc hs hn hvx
  by_cases hn0 : n = 0
  · -- nothing is added
    subst hn0
    rw [if_pos rfl] at h
    simp only [Option.some.injEq, Prod.mk.injEq] at h
    obtain ⟨rfl, rfl⟩ := h
    have hx0 : ∃ xb xc, x' = .slice xb 0 xc := by
      rcases hnews with ⟨_, h1⟩ | ⟨a, c, l', h1, _⟩
      · exact h1
      · exact ⟨_, _, h1⟩
    obtain ⟨xb, xc, rfl⟩ := hx0
    have hs0 : ∃ b' n' c', s' = .slice b' n' c' ∧ n' ≤ c' := by
      unfold appOlds at ho
      split at ho
      · cases hvs; exact ⟨_, _, _, rfl, Nat.le_refl _⟩
      · cases hvs with
        | slice _ h1 h2 => exact ⟨_, _, _, rfl, Nat.le_trans h1 h2⟩
      · cases ho
    obtain ⟨b', n', c', rfl, hle⟩ := hs0
    exact ⟨_, w, m, run_append_zero w t ty e i hu hi b' n' c' hle xb xc, Evo.refl hs, hvs⟩
  · rw [if_neg hn0] at h
    split at h
    case isFalse => cases h
    rename_i hb
    obtain ⟨hb1, hb2, hb3⟩ := hb
    simp only [Option.some.injEq, Prod.mk.injEq] at h
    obtain ⟨rfl, rfl⟩ := h
    rcases hnews with ⟨h0, _⟩ | ⟨a, c, l', rfl, hl, hlr, hlc⟩
    · exact absurd h0 hn0
    have hone : ∀ v ∈ news, v.oneCell' = true := by simpa using hb3
    have hone' := hlr.one hone
    refine append_core hs (e := e) (i := i) (z := z) hzs hn0 hb1 hb2 hone hl hlr ho hvs
      (fun _ _ hk => run_append_nil (P := P) w t ty e i z hu hi hz a n c l' hl hlc (by omega) (by omega) (by subst hk; simp only [Nat.zero_add] at hb2; omega))
      (fun b sLen sCap lo hk h1 h2 h3 => run_append_grow (P := P) w t ty e i z hu hi hz b sLen sCap lo h1 h2 a n c l' hl hlc h3 (by omega) (growslice_fits h3 (by subst hk; exact hb2)))
      (fun g o sLen sCap cur e' h1 h2 h3 => run_append_room_at (P := P) w t ty e i hu hi g o sLen sCap cur e' h1 a n c l' hl hlc hone' h2 h3)

end Go.Stx
