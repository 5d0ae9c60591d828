/-
  What the package-level variable holds.
-/
import Derived.Test.YtcffnkgjmneaeaaGreatDoorFbIp
import Derived.Lib.LaidU8
import Derived.Shelf.Vars
import Derived.LaidMore
import Derived.Test.YtcffnkgjmneaeaaGreatDoorRows
namespace Go.Stx
open Go Go.Proofs
attribute [local irreducible] AWP LWalk ACall ARounds lops nops
open Go.RowKit
set_option linter.unusedVariables false
set_option linter.unusedSimpArgs false
set_option linter.unusedSectionVars false
set_option maxRecDepth 20000

theorem forms_laid : (YtcffnkgjmneaeaaGreatDoor.Rows.laid_strongtx_isa_forms : DataW Unit) = .agg (formNames.map fun x => .agg [.lit (.string x.1), .lit (.string x.2)]) := by rfl

theorem forms_of_reads {W : World} (h : Lib.VarReads Tryz.prog W "strongtx/isa.forms" YtcffnkgjmneaeaaGreatDoor.Rows.laid_strongtx_isa_forms) : ∃ e fr, W.heap[0]? = some (.cells formCells.toArray e fr) := by
  rw [forms_laid] at h
  obtain ⟨g, t, cs, fuel, p, hg, ht, hv, hd⟩ := h
  have hg0 : Tryz.prog.globalNamed "strongtx/isa.forms" = some 0 := by kernel_rfl
  obtain rfl := Option.some.inj (hg0.symm.trans hg)
  have ht0 : (Tryz.prog.globals[0]?).map (·.type) = some 222 := by kernel_rfl
  obtain rfl := Option.some.inj (ht0.symm.trans ht)
  have hcs : ∃ e fr, W.heap[0]? = some (.cells cs e fr) := by
    unfold World.var? at hv
    rw [hg0] at hv
    simp only [Option.bind_some] at hv
    split at hv
    · rename_i c e fr hh
      injection hv with hv
      subst hv
      exact ⟨e, fr, hh⟩
    · cases hv
  obtain ⟨e, fr, hh⟩ := hcs
  refine ⟨e, fr, ?_⟩
  rw [hh]
  congr 2
  obtain ⟨xs, m, _, hx, hl, hlen, hf⟩ := DataW.trod_array (P := Tryz.prog) (n := 18) (e := 221) Tryz.underlying222 hd
  have c89 : Tryz.prog.cellsOf 221 = 2 := by kernel_rfl
  have c9 : Tryz.prog.cellsOf 9 = 1 := by kernel_rfl
  have c90 : Tryz.prog.cellsOf 222 = 36 := by kernel_rfl
  rw [c89] at hf
  injection hx with hx _
  injection hx with hx
  have key : ∀ i (hi : i < 18), cs.toList[i * 2]? = some (.string (bs (formNames.getD i ([], [])).1)) ∧ cs.toList[i * 2 + 1]? = some (.string (bs (formNames.getD i ([], [])).2)) := by
    intro i hi
    obtain ⟨y, hy⟩ : ∃ y, xs[i]? = some y := ⟨_, List.getElem?_eq_getElem (by rw [hlen]; exact hi)⟩
    have h1 := (hf i hi).trans hy
    obtain ⟨zs, m2, _, hz, hl2, hlen2, hf2⟩ := DataW.trod_struct Tryz.underlying221 h1
    have hzs : ∀ i, i < 2 → ∃ y, zs[i]? = some y := fun i hi => ⟨_, List.getElem?_eq_getElem (by rw [hlen2]; exact hi)⟩
    obtain ⟨z0, d0⟩ := hzs 0 (by omega)
    obtain ⟨z1, d1⟩ := hzs 1 (by omega)
    have r0 : DataW.trod (fun _ => ()) Tryz.prog W 0 (fun _ => true) false m2 9 ((((cs.toList.drop (i * 2)).take 2).drop 0).take (Tryz.prog.cellsOf 9)) = some z0 := (hf2 0 _ rfl).trans d0
    have r1 : DataW.trod (fun _ => ()) Tryz.prog W 0 (fun _ => true) false m2 9 ((((cs.toList.drop (i * 2)).take 2).drop 1).take (Tryz.prog.cellsOf 9)) = some z1 := (hf2 1 _ rfl).trans d1
    rw [c9] at r0 r1
    obtain ⟨s0, q0, x0, _⟩ := DataW.trod_string Tryz.underlying9 r0
    obtain ⟨s1, q1, x1, _⟩ := DataW.trod_string Tryz.underlying9 r1
    have g0 := congrArg (·[0]?) q0
    have g1 := congrArg (·[0]?) q1
    simp [List.getElem?_take, List.getElem?_drop] at g0 g1
    have hyz : y.1 = .agg [.lit (.string s0.data.toList), .lit (.string s1.data.toList)] := by
      rw [hz]
      have : zs = [z0, z1] := by
        apply List.ext_getElem?
        intro j
        have hl3 : zs.length = 2 := hlen2
        by_cases h0 : j = 0
        · subst h0; rw [d0]; rfl
        · by_cases h1 : j = 1
          · subst h1; rw [d1]; rfl
          · rw [List.getElem?_eq_none (by omega), List.getElem?_eq_none (by simp; omega)]
      rw [this, x0, x1]
      rfl
    have hxi := congrArg (·[i]?) hx
    simp only [List.getElem?_map, hy, Option.map_some] at hxi
    have hfi : formNames[i]? = some (formNames.getD i ([], [])) := by
      rw [List.getD_eq_getElem?_getD, List.getElem?_eq_getElem (show i < formNames.length from hi)]
      rfl
    rw [hfi] at hxi
    simp only [Option.map_some, Option.some.injEq] at hxi
    have hxi' := hxi.trans hyz
    generalize formNames.getD i ([], []) = nm at hxi' ⊢
    simp only [DataW.agg.injEq, List.cons.injEq, DataW.lit.injEq, Lit.string.injEq, and_true] at hxi'
    obtain ⟨u0, u1⟩ := hxi'
    rw [u0, u1]
    exact ⟨by rw [Array.getElem?_toList]; exact g0, by rw [Array.getElem?_toList]; exact g1⟩
  have hcl : cs.toList.length = 36 := by rw [hl, c90]
  apply Array.ext'
  show cs.toList = formCells
  apply List.ext_getElem?
  intro j
  by_cases hj : j < 36
  · have hk := key (j / 2) (by omega)
    have hfc : ∀ i, i < 18 → formCells[i * 2]? = some (.string (bs (formNames.getD i ([], [])).1)) ∧ formCells[i * 2 + 1]? = some (.string (bs (formNames.getD i ([], [])).2)) := by
      intro i hi
      have : i = 0 ∨ i = 1 ∨ i = 2 ∨ i = 3 ∨ i = 4 ∨ i = 5 ∨ i = 6 ∨ i = 7 ∨ i = 8 ∨ i = 9 ∨ i = 10 ∨ i = 11 ∨ i = 12 ∨ i = 13 ∨ i = 14 ∨ i = 15 ∨ i = 16 ∨ i = 17 := by omega
      rcases this with rfl | rfl | rfl | rfl | rfl | rfl | rfl | rfl | rfl | rfl | rfl | rfl | rfl | rfl | rfl | rfl | rfl | rfl <;> exact ⟨rfl, rfl⟩
    have hf := hfc (j / 2) (by omega)
    by_cases hm : j % 2 = 0
    · have e : j = j / 2 * 2 := by omega
      rw [e, hk.1, hf.1]
    · have e : j = j / 2 * 2 + 1 := by omega
      rw [e, hk.2, hf.2]
  · rw [List.getElem?_eq_none (by omega), List.getElem?_eq_none (by show formCells.length ≤ j; have : formCells.length = 36 := rfl; omega)]

/-- What lies in the package-level variables of a world. -/
@[reducible] def glOf (W : World) : Gl := { B := fun b => if b < 4 then W.heap[b]? else none, ok := fun g => g == 0, N := 4, lt := fun g h => by have := eq_of_beq h; omega }
theorem laid_self (W : World) : ∀ b x, (glOf W).B b = some x → W.heap[b]? = some x := fun b x h => by
  have h' : (if b < 4 then W.heap[b]? else none) = some x := h
  split at h'
  · exact h'
  · cases h'
theorem fok_of {W : World} (h : Lib.VarReads Tryz.prog W "strongtx/isa.forms" YtcffnkgjmneaeaaGreatDoor.Rows.laid_strongtx_isa_forms) : @FOK (glOf W) := by
  obtain ⟨e, fr, hh⟩ := forms_of_reads h
  exact @FOK.mk (glOf W) rfl rfl ⟨e, fr, hh⟩
end Go.Stx
