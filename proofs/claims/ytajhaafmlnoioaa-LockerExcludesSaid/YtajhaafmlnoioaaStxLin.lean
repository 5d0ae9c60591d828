/-
  Regions that draw their order: what only computes may be taken as soon as it may come up; what writes comes up alone.
-/
import Derived.Test.YtajhaafmlnoioaaStxAny
import Derived.Test.YtajhaafmlnoioaaStxSimp
namespace Go.Stx
open Go
set_option linter.unusedVariables false

/-! ### What an operation looks at -/

theorem aparts_congr {r r' : Operand → Value} {ps : Array (Nat × Operand)} (h : ∀ x ∈ (ps.toList.map (·.2)).toArray, r x = r' x) : aparts r ps = aparts r' ps := by
  unfold aparts
  refine List.map_congr_left fun x hx => ?_
  rw [h x.2 (by simpa using ⟨x.1, by simpa using hx⟩)]

theorem omap_congr {r r' : Operand → Value} {x : Option Operand} (h : ∀ y ∈ x.toArray, r y = r' y) : x.map r = x.map r' := by
  cases x with
  | none => rfl
  | some y => simp [h y (by simp)]

theorem amap_congr {r r' : Operand → Value} {x : Array Operand} (h : ∀ y ∈ x, r y = r' y) : x.map r = x.map r' := Array.map_congr_left h

theorem aq_congr {P : Program} {A : AW} {r r' : Operand → Value} {op : Op} (h : ∀ x ∈ op.operands, r x = r' x) : aq P A r op = aq P A r' op := by
  cases op <;> simp only [aq, Op.operands] at h ⊢
  case move x => rw [h x (by simp)]
  case assign x => rw [h x (by simp)]
  case pick c x y => rw [h c (by simp), h x (by simp), h y (by simp)]
  case build t ps => rw [aparts_congr h]
  case load t x => rw [h x (by simp)]
  case nilCheck x => rw [h x (by simp)]
  case binOp op t x y u => rw [h x (by simp), h y (by simp)]
  case unOp op t x => rw [h x (by simp)]
  case convert s d x => rw [h x (by simp)]
  case makeInterface t x => rw [h x (by simp)]
  case slice t x lo hi mx =>
    have e1 : r x = r' x := h x (by simp)
    have e2 : lo.map r = lo.map r' := omap_congr fun y hy => h y (by simp [hy])
    have e3 : hi.map r = hi.map r' := omap_congr fun y hy => h y (by simp [hy])
    cases mx with
    | none => simp only [e1, e2, e3]
    | some q => simp only [e1, e2, e3, h q (by simp)]
  case lookup t x ix c => rw [h x (by simp), h ix (by simp)]
  case fieldAddr s x f => rw [h x (by simp)]
  case field t x f => rw [h x (by simp)]
  case indexAddr t x ix => rw [h x (by simp), h ix (by simp)]
  case index t x ix => rw [h x (by simp), h ix (by simp)]
  case extract t i => rw [h t (by simp)]
  case makeFunc fn fs cs =>
    rw [amap_congr (r := r) (r' := r') (x := fs) fun y hy => h y (by simp [hy]), amap_congr (r := r) (r' := r') (x := cs) fun y hy => h y (by simp [hy])]
  case call c =>
    have hk : ∀ x ∈ c.args.toList, r x = r' x := fun x hx => h x (by simp only [Call.operands, Array.mem_append]; exact .inr (Array.mem_toList_iff.1 hx))
    clear h
    generalize c.args.toList = l at hk ⊢
    generalize c.argTypes.toList = ts
    generalize c.callee = ce
    split <;> simp_all

theorem ae_congr {P : Program} {A : AW} {r r' : Operand → Value} {op : Op} (h : ∀ x ∈ op.operands, r x = r' x) : ae P A r op = ae P A r' op := by
  cases op <;> simp only [ae, Op.operands] at h ⊢
  case box t x => rw [h x (by simp)]
  case buildSlice t n ps => rw [aparts_congr h]
  case store t x y => rw [h x (by simp), h y (by simp)]
  case makeSlice t l c => rw [h l (by simp), h c (by simp)]
  case makeMap t x => rw [omap_congr h]
  case mapUpdate t x k v => rw [h x (by simp), h k (by simp), h v (by simp)]
  case insert t x k v => rw [h x (by simp), h k (by simp), h v (by simp)]
  case call c =>
    have hk : ∀ x ∈ c.args.toList, r x = r' x := fun x hx => h x (by simp only [Call.operands, Array.mem_append]; exact .inr (Array.mem_toList_iff.1 hx))
    clear h
    generalize c.args.toList = l at hk ⊢
    generalize c.argTypes.toList = ts
    generalize c.callee = ce
    split <;> simp_all

theorem ACallK_congr {P : Program} {A : AW} {r r' : Operand → Value} {op : Op} {k : Value → AW → Prop} (h : ∀ x ∈ op.operands, r x = r' x) : ACallK P op r A k = ACallK P op r' A k := by
  cases op <;> try rfl
  case call c =>
    obtain ⟨callee, args, ts⟩ := c
    cases callee with
    | value x =>
      have hx : r x = r' x := h x (by simp [Op.operands, Call.operands])
      have ha : args.toList.map r = args.toList.map r' := List.map_congr_left fun y hy => h y (by simp only [Op.operands, Call.operands, Array.mem_append]; exact .inr (Array.mem_toList_iff.1 hy))
      simp only [ACallK, hx, ha]
    | invoke _ _ => rfl
    | builtin _ => rfl

theorem AStep_congr {P : Program} {A : AW} {r r' : Operand → Value} {op : Op} {k : Value → AW → Prop} (h : ∀ x ∈ op.operands, r x = r' x) : AStep P op r A k = AStep P op r' A k := by
  unfold AStep
  rw [aq_congr h, ae_congr h, ACallK_congr h]

/-! ### What later memories keep -/

theorem row_keep {A A' : AW} (hk : ∀ i o, A.get i = some o → A'.get i = some o) {i : Nat} {cs : List Value} (h : A.row i = some cs) : A'.row i = some cs := by
  unfold AW.row at *
  split at h
  · rename_i hg
    rw [hk _ _ hg]
    exact h
  · cases h

theorem aload_keep {P : Program} {A A' : AW} (hk : ∀ i o, A.get i = some o → A'.get i = some o) {t : TypeId} {p : Addr} {v : Value} (h : aload P A t p = some v) : aload P A' t p = some v := by
  unfold aload at *
  split at h
  · rename_i h1 h2; rw [row_keep hk h1, h2]; exact h
  · rename_i h1 h2; rw [row_keep hk h1, h2]; exact h
  · cases h

theorem aq_keep {P : Program} {A A' : AW} (hk : ∀ i o, A.get i = some o → A'.get i = some o) {r : Operand → Value} {op : Op} {v : Value} (h : aq P A r op = some v) : aq P A' r op = some v := by
  cases op <;> simp only [aq] at h ⊢ <;> try exact h
  case load t x =>
    split at h
    · rename_i p hp
      exact aload_keep hk h
    · cases h
  case slice t x lo hi mx =>
    cases mx with
    | some q => exact h
    | none =>
      simp only at h ⊢
      unfold aslice at *
      split at h
      · rename_i hu _ _
        split at h
        · rename_i e1
          split at h
          · rename_i e2
            split at h
            · rename_i e3
              exact h
            · rename_i e3
              split at h
              · rename_i q hq
                have key : ∀ {e : TypeId} {p : Addr} {l : Nat}, asliceAt P A e p l = some q → asliceAt P A' e p l = some q := by
                  intro e p l hq
                  unfold asliceAt at hq ⊢
                  split at hq
                  · rename_i hl; rw [if_pos hl]; exact hq
                  · rename_i hl
                    rw [if_neg hl]
                    split at hq
                    · rename_i g1 g2
                      rw [g1, hk _ _ g2]
                      exact hq
                    · cases hq
                rw [key hq]
                exact h
              · cases h
            · cases h
          · cases h
        · cases h
      · exact h
      · cases h
  case lookup t x ix c =>
    unfold alookup at h ⊢
    split at h <;> try (cases h; done)
    split at h <;> try (cases h; done)
    split at h <;> try (cases h; done)
    rename_i hkd
    split at h <;> try (cases h; done)
    · simp_all
    · split at h <;> try (cases h; done)
      rename_i hg
      have hg' := hk _ _ hg
      simp_all

/-- Operations whose value does not hang on the memory. -/
def memless : Op → Bool
  | .move _ | .assign _ | .pick _ _ _ | .build _ _ | .nilCheck _ | .binOp _ _ _ _ _ | .unOp _ _ _ | .convert _ _ _ | .makeInterface _ _ | .fieldAddr _ _ _ | .field _ _ _ | .indexAddr _ _ _ | .index _ _ _ | .extract _ _ | .makeFunc _ _ _ => true
  | .call c => match c.callee with
    | .builtin .len | .builtin .min | .builtin .max => true
    | _ => false
  | _ => false

/-- Operations that only compute or read. -/
def quietOp : Op → Bool
  | .load _ _ | .slice _ _ _ _ _ | .lookup _ _ _ _ => true
  | op => memless op

theorem aq_memless {P : Program} {A A' : AW} {r : Operand → Value} {op : Op} (hm : memless op = true) : aq P A' r op = aq P A r op := by
  cases op <;> first | rfl | (simp [memless] at hm; done)

end Go.Stx
