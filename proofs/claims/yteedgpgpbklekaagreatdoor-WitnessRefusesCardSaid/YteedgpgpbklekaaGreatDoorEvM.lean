/-
  maps.Clone over the abstract memory.
-/
import Derived.Test.YteedgpgpbklekaaGreatDoorFbK
import Derived.Test.YteedgpgpbklekaaGreatDoorEvalF
import Derived.Shelf.SlGeneric
import Derived.Shelf.SlMaps.Clone
namespace Go.Proofs
open Go.Shelf
def Tryz.laysMC_ren : Go.Shelf.Ren := ⟨fun | 5 => 89 | 7 => 122 | n => n, fun | 23 => 135 | 25 => 3 | 3 => 4 | 4 => 4 | 20 => 20 | n => n, fun | n => n⟩
theorem Tryz.laysMC : Go.Proofs.SlLaysW.n5 Tryz.prog Tryz.laysMC_ren := {
  mixed := by kernel_rfl
  f5 := ⟨Tryz.f89.name, by decide, Tryz.func89.trans (congrArg some (by kernel_rfl))⟩
  f7 := Tryz.func122.trans (congrArg some (by kernel_rfl))
  t4 := Tryz.underlying4
  a4 := Tryz.isAgg4
  z4 := Tryz.sizeOf4
  v4 := Tryz.zeroValue4
  t20 := Tryz.underlying20
  a20 := Tryz.isAgg20
  z20 := Tryz.sizeOf20
  v20 := Tryz.zeroValue20
  t23 := Tryz.underlying135
  a23 := Tryz.isAgg135
  z23 := Tryz.sizeOf135
  v23 := Tryz.zeroValue135 }
end Go.Proofs
namespace Go.Stx
open Go
open Go.Proofs
set_option linter.unusedVariables false
set_option linter.unusedSimpArgs false
set_option linter.unusedSectionVars false
variable [Gl]

theorem mapsClone_call {b : Nat} {es : List (Value × Value)} {own : Bool} {A : AW} (h : A.get b = some (.map es own)) :
    ACall Tryz.prog 89 [.map (some b)] A (fun u A' => u = .map (some A.next) ∧ A' = A.alloc (.map es true)) := by
  refine ⟨by kernel_rfl, fun m w cargs hs hl => ?_⟩
  obtain ⟨x, t, hx, hv, ht⟩ := hl.inv_cons
  have ht := ht.inv_nil
  subst ht
  have hc : cargs = #[x] := by cases cargs; simp_all
  subst hc
  cases hv with
  | map hm =>
    rename_i r'
    obtain ⟨p, hp, rfl⟩ := hm
    obtain ⟨p', hp', ents, clock, es', hpm, hh, hlen, hrel⟩ := hs.obj _ _ h
    rw [hp] at hp'
    injection hp' with hp'
    subst hp'
    refine (AnyW.maps_Clone Tryz.laysMC p.block ents clock w hh).mono ?_
    rintro e w' ⟨rfl, rfl⟩
    exact ⟨.map (some A.next), _, m.ext A.next ⟨w.heap.size, 0, 0, 0⟩, A.alloc (.map es true), rfl, Evo.freshO hs (.map es true) ⟨w.heap.size, 0, 0, 0⟩ rfl rfl rfl (by simp) (fun b hb => heapAllocOld w _ b hb) (Nat.le_refl _)
      ⟨ents, clock, es', hpm, heapAllocNew w _, hlen, hrel⟩, .map ⟨⟨w.heap.size, 0, 0, 0⟩, by simp [Mp.ext], rfl⟩, rfl, rfl⟩

/-! ### What the evaluator is told of calls that it does not run -/

noncomputable section
def insDec : List Value → Option InsV
  | [.int .i64 op, .int .i64 a, .int .i64 b, .int .i64 c, .int .i64 imm] => some ⟨op, a, b, c, imm⟩
  | _ => none
theorem insDec_cells {l : List Value} {x : InsV} (h : insDec l = some x) : l = insCells x := by
  unfold insDec at h
  split at h
  · injection h with h
    subst h
    rfl
  · cases h

def baseIsa (args : List Value) (m : EM) : Option (Value × EM) :=
  match args with
  | [.agg ⟨l⟩] =>
    match insDec l with
    | some x => fInt (insErr x) fun e => some (.int .i64 e, m)
    | none => none
  | _ => none
def baseMap (args : List Value) (m : EM) : Option (Value × EM) :=
  match args with
  | [.map (some b)] =>
    match m.t.get (b + 1) with
    | some (.map es _) =>
      match Nat.ble m.next 1000000 with
      | true => fTr (m.t.put 24 (m.next + 1) (some (.map es true))) fun t => fNat (m.next + 1) fun n => some (.map (some m.next), ⟨n, t⟩)
      | false => none
    | _ => none
  | _ => none
def baseIM : ECall := fun f args m =>
  match Nat.beq f 98 with
  | true => baseIsa args m
  | false =>
    match Nat.beq f 89 with
    | true => baseMap args m
    | false => none

theorem baseIM_ok (hF : FOK) : baseIM.Ok Tryz.prog := by
  intro f args m v m' h
  unfold baseIM at h
  split at h
  · rename_i e
    have e := Nat.eq_of_beq_eq_true e
    subst e
    unfold baseIsa at h
    split at h
    · rename_i l
      split at h
      · rename_i x hx
        rw [fInt_eq] at h
        simp only [Option.some.injEq, Prod.mk.injEq] at h
        obtain ⟨rfl, rfl⟩ := h
        rw [insDec_cells hx]
        exact (isaCheck_call hF x m.aw).mono fun u A' h => ⟨h.1, h.2.symm⟩
      · cases h
    · cases h
  · split at h
    · rename_i e
      have e := Nat.eq_of_beq_eq_true e
      subst e
      unfold baseMap at h
      split at h
      · rename_i b
        split at h
        · rename_i es own hg
          split at h
          · rename_i hb
            rw [fTr_eq, fNat_eq] at h
            simp only [Option.some.injEq, Prod.mk.injEq] at h
            obtain ⟨rfl, rfl⟩ := h
            refine (mapsClone_call (A := m.aw) (b := b) (es := es) (own := own) hg).mono ?_
            rintro u A' ⟨rfl, rfl⟩
            refine ⟨rfl, ?_⟩
            have hj : m.next ≤ 1000000 := Nat.le_of_ble_eq_true hb
            unfold EM.aw AW.alloc
            congr 1
            funext i
            simp only
            rw [Tr.get_put 24 m.t (m.next + 1) _ (i + 1) (Nat.le_add_left 1 m.next) (Nat.lt_of_le_of_lt (Nat.succ_le_succ hj) (by decide)) (Nat.le_add_left 1 i)]
            by_cases e : i = m.next
            · subst e; simp
            · rw [if_neg e, if_neg (by omega)]
          · cases h
        · cases h
      · cases h
    · cases h
end
end Go.Stx
