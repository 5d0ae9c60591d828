/-
  Operations on memory: loads, stores, boxes, fields, elements, slices; and all operations under one name, 'aop'.
-/
import Derived.Test.YtajhaafmlnoioaaStxOps
namespace Go.Stx
open Go

def isAggT (P : Program) (t : TypeId) : Option Bool :=
  match P.underlying t with
  | some (.struct _) => some true
  | some (.array _ _) => some true
  | some _ => some false
  | none => none

theorem run_isAgg {P : Program} {t : TypeId} {b : Bool} (h : isAggT P t = some b) (w : World) : (isAgg t).run P w = .ok b w := by
  unfold isAggT at h
  cases hu : P.underlying t with
  | none => simp [hu] at h
  | some d =>
    rw [hu] at h
    simp only [isAgg, Sem.run_bind, run_underlying hu, Result.andThen_ok]
    cases d <;> simp only [Option.some.injEq] at h <;> subst h <;> rfl

theorem run_sizeOf {P : Program} {t : TypeId} {i : TypeInfo} (h : P.info? t = some i) (w : World) : (sizeOf t).run P w = .ok i.size w := by
  simp [sizeOf, typeInfo, h]

/-! ### Loads and stores of variables -/

def aload (P : Program) (A : AW) (t : TypeId) (p : Addr) : Option Value :=
  match A.row p.block, isAggT P t with
  | some cs, some false => cs[p.off]?
  | some cs, some true =>
    match P.info? t with
    | some i => if p.off + i.size ≤ cs.length then some (.agg ((cs.drop p.off).take i.size).toArray) else none
    | none => none
  | _, _ => none

theorem VRel.of_LRel_agg {m : Mp} {l l' : List Value} (h : LRel m l l') : VRel m (.agg l.toArray) (.agg l'.toArray) :=
  .agg (by simpa using h.1) fun i v v' a b => h.2 i v v' (by simpa using a) (by simpa using b)

theorem aload_sound {P : Program} {m : Mp} {A : AW} {w : World} (hs : Sim m A w) {t : TypeId} {p p' : Addr} {v : Value} (h : aload P A t p = some v) (hp : ARel m p p') :
    ∃ v', (loadVar t p').run P w = .ok v' w ∧ VRel m v v' := by
  unfold aload at h
  split at h
  · rename_i cs hr ha
    obtain ⟨v', h1, h2⟩ := load_rel (P := P) hs hp hr h
    exact ⟨v', by simp only [loadVar, Sem.run_bind, run_isAgg ha, Result.andThen_ok, Bool.false_eq_true, if_false, h1], h2⟩
  · rename_i cs hr ha
    split at h
    · rename_i i hi
      split at h
      · rename_i hle
        injection h with h
        subst h
        obtain ⟨l', h1, h2⟩ := loadCells_rel (P := P) hs hp hr i.size hle
        refine ⟨.agg l'.toArray, ?_, .of_LRel_agg h2⟩
        simp only [loadVar, Sem.run_bind, run_isAgg ha, Result.andThen_ok, if_true, run_sizeOf hi, h1, Sem.run_pure]
      · cases h
    · cases h
  · cases h

def astore (P : Program) (A : AW) (t : TypeId) (p : Addr) (v : Value) : Option AW :=
  match A.get p.block, P.info? t with
  | some (.cells cs true unit), some i =>
    if v.cells.size = i.size ∧ p.off + i.size ≤ cs.length ∧ v.cells.toList.all Value.oneCell' then
      some (A.set p.block (some (.cells (setCells cs p.off v.cells.toList) true unit)))
    else none
  | _, _ => none

theorem astore_sound {P : Program} {m : Mp} {A A1 : AW} {w : World} (hs : Sim m A w) {t : TypeId} {p p' : Addr} {v v' : Value} (h : astore P A t p v = some A1) (hp : ARel m p p') (hv : VRel m v v') :
    ∃ w', (storeVar t p' v').run P w = .ok () w' ∧ Evo m A w m A1 w' := by
  unfold astore at h
  split at h
  · rename_i cs unit i hg hi
    split at h
    · rename_i hc
      obtain ⟨h1, h2, h3⟩ := hc
      injection h with h
      subst h
      obtain ⟨hsp, hsp', q, hm, hb, ho⟩ := hp
      have hcl := hv.cells
      obtain ⟨w', hr, ev⟩ := storeCells_rel (P := P) (o := p.off) hm v.cells.toList v'.cells.toList 0 cs A w hs hg hcl (fun x hx => List.all_eq_true.1 h3 x hx) (by simp; omega)
      refine ⟨w', ?_, by simpa using ev⟩
      have hsz : v'.cells.size = i.size := by have := hcl.1; simp at this; omega
      have ea : p' = ⟨q.block, q.base + p.off, none⟩ := by rw [addr_eta p' hsp', hb, ho]
      subst ea
      simp only [storeVar, Sem.run_bind, run_sizeOf hi, Result.andThen_ok, hsz, ne_eq, not_true_eq_false, if_false, hr]
    · cases h
  · cases h

/-! ### New variables -/

theorem newRow_sound {P : Program} {m : Mp} {A : AW} {w : World} (hs : Sim m A w) (e : TypeId) (unit : Nat) {l : List Value} {cur : Array Value} (hl : LRel m l cur.toList) :
    ∃ w' m', (newRow e cur).run P w = .ok ⟨w.heap.size, 0, none⟩ w' ∧ Evo m A w m' (A.alloc (.cells l true unit)) w' ∧ m' = m.ext A.next ⟨w.heap.size, 0, unit, cur.size⟩ := by
  refine ⟨w.alloc (.cells cur e), _, ?_, Evo.alloc hs l cur e unit (fun k v hv => ?_), rfl⟩
  · simp only [newRow, Sem.run_bind, run_newObj, Result.andThen_ok, Sem.run_pure]; rfl
  · obtain ⟨v', h1, h2⟩ := hl.get hv
    exact ⟨v', by simpa using h1, h2⟩

def abox (A : AW) (v : Value) : Value × AW := (.pointer (some ⟨A.next, 0, none⟩), A.alloc (.cells v.cells.toList true 1))

theorem abox_sound {P : Program} {m : Mp} {A : AW} {w : World} (hs : Sim m A w) (e : TypeId) {v v' : Value} (hv : VRel m v v') :
    ∃ p' w' m', (Instr.box e v').run P w = .ok p' w' ∧ Evo m A w m' (abox A v).2 w' ∧ VRel m' (abox A v).1 p' := by
  obtain ⟨w', m', h1, h2, h3⟩ := newRow_sound (P := P) hs e 1 hv.cells
  refine ⟨.pointer (some ⟨w.heap.size, 0, none⟩), w', m', ?_, h2, ?_⟩
  · simp only [Instr.box, newVar, Sem.run_bind, h1, Result.andThen_ok, Sem.run_pure]
  · rw [h3]
    exact .ptr (ARel.new m A.next ⟨w.heap.size, 0, 1, _⟩ 0)

/-! ### Fields and elements -/

def afieldAddr (P : Program) (s : TypeId) (x : Value) (f : Nat) : Option Value :=
  match P.underlying s, x with
  | some (.struct fs), .pointer (some p) =>
    match fs[f]? with
    | some fd =>
      match P.info? fd.type with
      | some i => if i.size = 0 then none else some (.pointer (some ⟨p.block, p.off + fd.offset, none⟩))
      | none => none
    | none => none
  | _, _ => none

theorem ARel.plus {m : Mp} {a a' : Addr} (h : ARel m a a') (n : Nat) : ARel m ⟨a.block, a.off + n, none⟩ (a'.add n) := by
  obtain ⟨h1, h2, p, h3, h4, h5⟩ := h
  rw [addr_add _ _ h2]
  exact ⟨rfl, rfl, p, h3, h4, by simp only [h5, Nat.add_assoc]⟩

theorem afieldAddr_sound {P : Program} {m : Mp} {s : TypeId} {x x' v : Value} {f : Nat} (h : afieldAddr P s x f = some v) (hx : VRel m x x') :
    ∃ v', VRel m v v' ∧ ∀ w, (Instr.fieldAt s x' f).run P w = .ok v' w := by
  unfold afieldAddr at h
  split at h
  · rename_i fs p hu
    cases hx with
    | ptr ha =>
      rename_i p'
      split at h
      · rename_i fd hf
        split at h
        · rename_i i hi
          split at h
          · cases h
          · rename_i h0
            injection h with h
            subst h
            refine ⟨.pointer (some (p'.add fd.offset)), .ptr (ha.plus _), fun w => ?_⟩
            simp [Instr.fieldAt, run_underlying hu, hf, Instr.sureAddr, fieldPlace, run_sizeOf hi, h0]
        · cases h
      · cases h
  · cases h

def apart (P : Program) (t : TypeId) (cs : Array Value) (off : Nat) : Option Value :=
  match isAggT P t with
  | some false => cs[off]?
  | some true =>
    match P.info? t with
    | some i => some (.agg (cs.extract off (off + i.size)))
    | none => none
  | none => none

theorem apart_sound {P : Program} {m : Mp} {t : TypeId} {cs cs' : Array Value} {off : Nat} {v : Value} (h : apart P t cs off = some v) (hc : VRel m (.agg cs) (.agg cs')) :
    ∃ v', VRel m v v' ∧ ∀ w, (part t cs' off).run P w = .ok v' w := by
  cases hc with
  | agg hx h1 =>
    unfold apart at h
    split at h
    · rename_i ha
      have hlt : off < cs'.size := by rw [← hx]; exact (Array.getElem?_eq_some_iff.1 h).1
      have e := Array.getElem?_eq_getElem hlt
      refine ⟨cs'[off], h1 off v _ h e, fun w => ?_⟩
      simp only [part, Sem.run_bind, run_isAgg ha, Result.andThen_ok, Bool.false_eq_true, if_false]
      rw [e]
      rfl
    · rename_i ha
      split at h
      · rename_i i hi
        injection h with h
        subst h
        refine ⟨.agg (cs'.extract off (off + i.size)), .agg (by simp [hx]) ?_, fun w => ?_⟩
        · intro j v v' h2 h3
          rw [Array.getElem?_extract] at h2 h3
          split at h2
          · rename_i hj
            rw [if_pos (by rw [← hx]; exact hj)] at h3
            exact h1 _ v v' h2 h3
          · cases h2
        · simp only [part, Sem.run_bind, run_isAgg ha, Result.andThen_ok, if_true, run_sizeOf hi, Sem.run_pure]
      · cases h
    · cases h

def afield (P : Program) (t : TypeId) (x : Value) (f : Nat) : Option Value :=
  match P.underlying t, x with
  | some (.struct fs), .agg cs =>
    match fs[f]? with
    | some fd => apart P fd.type cs fd.offset
    | none => none
  | _, _ => none

theorem afield_sound {P : Program} {m : Mp} {t : TypeId} {x x' v : Value} {f : Nat} (h : afield P t x f = some v) (hx : VRel m x x') :
    ∃ v', VRel m v v' ∧ ∀ w, (Instr.field t x' f).run P w = .ok v' w := by
  unfold afield at h
  split at h
  · rename_i fs cs hu
    split at h
    · rename_i fd hf
      have hx0 := hx
      cases hx with
      | agg hsz h1 =>
        obtain ⟨v', h3, h2⟩ := apart_sound (P := P) h hx0
        refine ⟨v', h3, fun w => ?_⟩
        simp only [Instr.field, Sem.run_bind, run_underlying hu, Result.andThen_ok, hf, asAgg, Sem.run_pure, h2]
    · cases h
  · cases h

def aindexAddr (P : Program) (t : TypeId) (x ix : Value) : Option Value :=
  match P.underlying t, x, ix with
  | some (.slice e), .slice (some p) len _, .int _ n =>
    match P.info? e with
    | some i => if 0 ≤ n ∧ n < len then some (.pointer (some ⟨p.block, p.off + n.toNat * i.size, none⟩)) else none
    | none => none
  | some (.array len e), .pointer (some p), .int _ n =>
    match P.info? e with
    | some i => if 0 ≤ n ∧ n < len then some (.pointer (some ⟨p.block, p.off + n.toNat * i.size, none⟩)) else none
    | none => none
  | _, _, _ => none

theorem aindexAddr_sound {P : Program} {m : Mp} {t : TypeId} {x x' y y' v : Value} (h : aindexAddr P t x y = some v) (hx : VRel m x x') (hy : VRel m y y') :
    ∃ v', VRel m v v' ∧ ∀ w, (Instr.indexAt t x' y').run P w = .ok v' w := by
  unfold aindexAddr at h
  split at h
  · rename_i e p len cap k n hu
    cases hy
    split at h
    · rename_i i hi
      split at h
      · rename_i hb
        injection h with h
        subst h
        cases hx with
        | slice hh h1 h2 =>
          rename_i p' cap'
          have ha : ARel m p p' := by
            rcases hh with hh | hh
            · exact hh.arel
            · omega
          refine ⟨.pointer (some (p'.add (n.toNat * i.size))), .ptr (ha.plus _), fun w => ?_⟩
          simp [Instr.indexAt, run_underlying hu, asIntOf, run_sizeOf hi, hb.1, hb.2]
      · cases h
    · cases h
  · rename_i len e p k n hu
    cases hy
    split at h
    · rename_i i hi
      split at h
      · rename_i hb
        injection h with h
        subst h
        cases hx with
        | ptr ha =>
          rename_i p'
          refine ⟨.pointer (some (p'.add (n.toNat * i.size))), .ptr (ha.plus _), fun w => ?_⟩
          simp [Instr.indexAt, run_underlying hu, asIntOf, run_sizeOf hi, hb.1, hb.2, Instr.sureAddr]
      · cases h
    · cases h
  · cases h

def aindex (P : Program) (t : TypeId) (x ix : Value) : Option Value :=
  match P.underlying t, x, ix with
  | some (.array len e), .agg cs, .int _ n =>
    match P.info? e with
    | some i => if 0 ≤ n ∧ n < len then apart P e cs (n.toNat * i.size) else none
    | none => none
  | some .string, .string s, .int _ n =>
    if 0 ≤ n then
      match s[n.toNat]? with
      | some b => some (.int .u8 b.toNat)
      | none => none
    else none
  | _, _, _ => none

theorem aindex_sound {P : Program} {m : Mp} {t : TypeId} {x x' y y' v : Value} (h : aindex P t x y = some v) (hx : VRel m x x') (hy : VRel m y y') :
    ∃ v', VRel m v v' ∧ ∀ w, (Instr.index t x' y').run P w = .ok v' w := by
  unfold aindex at h
  split at h
  · rename_i len e cs k n hu
    cases hy
    split at h
    · rename_i i hi
      split at h
      · rename_i hb
        have hx0 := hx
        cases hx with
        | agg hsz h1 =>
          obtain ⟨v', h3, h2⟩ := apart_sound (P := P) h hx0
          exact ⟨v', h3, fun w => by simp [Instr.index, run_underlying hu, asIntOf, run_sizeOf hi, hb.1, hb.2, h2]⟩
      · cases h
    · cases h
  · rename_i s k n hu
    cases hx; cases hy
    split at h
    · rename_i h0
      split at h
      · rename_i b hb
        injection h with h
        subst h
        exact ⟨.int .u8 b.toNat, by constructor, fun w => by simp [Instr.index, run_underlying hu, asIntOf, h0, hb]⟩
      · cases h
    · cases h
  · cases h

/-! ### Slices of slices -/

/-- A bound of a slice expression. -/
def abound (v : Option Value) (d lim : Nat) : Option Nat :=
  match v with
  | none => some d
  | some (.int _ n) => if 0 ≤ n ∧ n ≤ lim then some n.toNat else none
  | some _ => none

def asliceAt (P : Program) (A : AW) (e : TypeId) (p : Addr) (l : Nat) : Option Addr :=
  if l = 0 then some p else
  match P.info? e, A.get p.block with
  | some i, some (.cells _ _ unit) => if unit = i.size then some ⟨p.block, p.off + l * i.size, none⟩ else none
  | _, _ => none

def aslice (P : Program) (A : AW) (t : TypeId) (x : Value) (lo hi mx : Option Value) : Option Value :=
  match P.underlying t, x, mx with
  | some (.slice e), .slice a len cap, none =>
    match abound hi len cap with
    | some h =>
      match abound lo 0 h with
      | some l =>
        match P.info? e, a with
        | some _, none => some (.slice none (h - l) (cap - l))
        | some _, some p =>
          match asliceAt P A e p l with
          | some q => some (.slice (some q) (h - l) (cap - l))
          | none => none
        | none, _ => none
      | none => none
    | none => none
  | some .string, .string s, none =>
    match abound hi s.size s.size with
    | some h =>
      match abound lo 0 h with
      | some l => some (.string (s.extract l h))
      | none => none
    | none => none
  | _, _, _ => none

end Go.Stx
