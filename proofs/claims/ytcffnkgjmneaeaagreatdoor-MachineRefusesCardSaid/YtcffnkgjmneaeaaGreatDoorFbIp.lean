/-
  Programs and scripts that came in: what a reading of them says of the world.
-/
import Derived.Test.YtcffnkgjmneaeaaGreatDoorFbIo
namespace Go.Stx
open Go Go.Proofs
attribute [local irreducible] AWP LWalk ACall ARounds lops nops

open Go.RowKit Go.ChangeShapes Go.WideShapes Go.ChangeAt
set_option linter.unusedVariables false
set_option linter.unusedSimpArgs false
set_option linter.unusedSectionVars false

def IntsIn (k : IntKind) (w : World) (a : Option Addr) (len cap : Nat) (zs : List Int) : Prop :=
  (a = none ∧ len = 0 ∧ cap = 0 ∧ zs = []) ∨ ∃ x, a = some x ∧ len ≤ cap ∧ cap ≤ maxLen ∧ zs.length = cap ∧ (∀ i, i < zs.length → w.cell? (x.add i) = some (.int k (zs.getD i 0))) ∧ ∀ n ∈ zs, (Lit.int k n).wf = true

section
variable {H : Type} {enc : TypeId × Value → H} {w : World} {base : Nat} {held : Bool}

theorem one_int {k : IntKind} {t : TypeId} {f off : Nat} {cs : List Value} {x : Option (DataW H × List MemPlace)} {y : DataW H × List MemPlace} (hu : Tryz.prog.underlying t = some (.int k)) (hc : Tryz.prog.cellsOf t = 1)
    (h : DataW.trod enc Tryz.prog w base (fun _ => true) held f t ((cs.drop off).take (Tryz.prog.cellsOf t)) = x) (hx : x = some y) : ∃ z, cs[off]? = some (.int k z) := by
  rw [hx, hc] at h
  obtain ⟨z, h1, _, h2⟩ := DataW.trod_int hu h
  refine ⟨z, ?_⟩
  have := congrArg (·[0]?) h1
  simpa [List.getElem?_take, List.getElem?_drop] using this
theorem one_bool {t : TypeId} {f off : Nat} {cs : List Value} {x : Option (DataW H × List MemPlace)} {y : DataW H × List MemPlace} (hu : Tryz.prog.underlying t = some .bool) (hc : Tryz.prog.cellsOf t = 1)
    (h : DataW.trod enc Tryz.prog w base (fun _ => true) held f t ((cs.drop off).take (Tryz.prog.cellsOf t)) = x) (hx : x = some y) : ∃ z, cs[off]? = some (.bool z) := by
  rw [hx, hc] at h
  obtain ⟨z, h1, _⟩ := DataW.trod_bool hu h
  refine ⟨z, ?_⟩
  have := congrArg (·[0]?) h1
  simpa [List.getElem?_take, List.getElem?_drop] using this

theorem open_instr {fuel : Nat} {cs : List Value} {x : DataW H × List MemPlace} (h : DataW.trod enc Tryz.prog w base (fun _ => true) held fuel 36 cs = some x) : ∃ s : InsV, ∀ j, j < 5 → cs[j]? = (insCells s)[j]? := by
  have c3 : Tryz.prog.cellsOf 3 = 1 := by kernel_rfl
  obtain ⟨xs, n, _, _, hl, hlen, hf⟩ := DataW.trod_struct Tryz.underlying36 h
  have hxs : ∀ i, i < 5 → ∃ y, xs[i]? = some y := fun i hi => ⟨_, List.getElem?_eq_getElem (by rw [hlen]; exact hi)⟩
  obtain ⟨y0, e0⟩ := hxs 0 (by omega)
  obtain ⟨y1, e1⟩ := hxs 1 (by omega)
  obtain ⟨y2, e2⟩ := hxs 2 (by omega)
  obtain ⟨y3, e3⟩ := hxs 3 (by omega)
  obtain ⟨y4, e4⟩ := hxs 4 (by omega)
  obtain ⟨a0, g0⟩ := one_int Tryz.underlying3 c3 (hf 0 _ rfl) e0
  obtain ⟨a1, g1⟩ := one_int Tryz.underlying3 c3 (hf 1 _ rfl) e1
  obtain ⟨a2, g2⟩ := one_int Tryz.underlying3 c3 (hf 2 _ rfl) e2
  obtain ⟨a3, g3⟩ := one_int Tryz.underlying3 c3 (hf 3 _ rfl) e3
  obtain ⟨a4, g4⟩ := one_int Tryz.underlying3 c3 (hf 4 _ rfl) e4
  refine ⟨⟨a0, a1, a2, a3, a4⟩, fun j hj => ?_⟩
  have hj' : j = 0 ∨ j = 1 ∨ j = 2 ∨ j = 3 ∨ j = 4 := by omega
  rcases hj' with rfl | rfl | rfl | rfl | rfl
  · exact g0
  · exact g1
  · exact g2
  · exact g3
  · exact g4

theorem open_ins {fuel : Nat} {cs : List Value} {x : DataW H × List MemPlace} (h : DataW.trod enc Tryz.prog w base (fun _ => true) held fuel 25 cs = some x) : ∃ a len cap, cs = [.slice a len cap] ∧ InsIn w a len cap := by
  rcases Go.Deep.open_slice Tryz.underlying25 h with ⟨h0, _⟩ | ⟨b, l, c, m, n, D, Pl, h0, hb, hl, hm, hmm, _, hx⟩
  · exact ⟨_, _, _, h0, .inl ⟨rfl, rfl, rfl⟩⟩
  · simp only [if_true] at hmm
    subst hmm
    have ce : Tryz.prog.cellsOf 36 = 5 := by kernel_rfl
    have each : ∀ i, i < m → ∃ q : InsV, ∀ j, j < 5 → w.cell? (b.add (i * 5 + j)) = (insCells q)[j]? := by
      intro i hi
      obtain ⟨cs', h1, h2⟩ := hx i hi
      rw [ce] at h1
      obtain ⟨_, hlen, hcell⟩ := World.cells?_some h1
      obtain ⟨q, hc⟩ := open_instr h2
      refine ⟨q, fun j hj => ?_⟩
      have := hcell j (by omega)
      rw [Go.Deep.add_add] at this
      rw [this, ← hc j hj]
    refine ⟨_, _, _, h0, .inr ⟨b, rfl, hl, hm, fun i => if hi : i < m then (each i hi).choose else ⟨0, 0, 0, 0, 0⟩, fun i hi => ?_⟩⟩
    dsimp only
    rw [dif_pos hi]
    exact (each i hi).choose_spec

theorem open_progs {fuel : Nat} {cs : List Value} {x : DataW H × List MemPlace} (h : DataW.trod enc Tryz.prog w base (fun _ => true) held fuel 39 cs = some x) : ∃ a len cap, cs = [.slice a len cap] ∧ ProgsIn w a len cap := by
  rcases Go.Deep.open_slice1 Tryz.underlying39 (by kernel_rfl) h with ⟨h0, _⟩ | ⟨b, l, c, m, n, V, D, Pl, h0, hb, hl, hm, hmm, _, hx⟩
  · exact ⟨_, _, _, h0, .inl ⟨rfl, rfl, rfl⟩⟩
  · simp only [if_true] at hmm
    subst hmm
    have each : ∀ i, i < m → ∃ z : Option Addr × Nat × Nat, w.cell? (b.add i) = some (.slice z.1 z.2.1 z.2.2) ∧ InsIn w z.1 z.2.1 z.2.2 := by
      intro i hi
      obtain ⟨h1, h2⟩ := hx i hi
      obtain ⟨a', len', cap', e, hI⟩ := open_ins h2
      injection e with e _
      exact ⟨(a', len', cap'), by rw [h1, e], hI⟩
    refine ⟨_, _, _, h0, .inr ⟨b, rfl, hl, hm, fun i => if hi : i < m then (each i hi).choose.1 else none, fun i => if hi : i < m then (each i hi).choose.2.1 else 0, fun i => if hi : i < m then (each i hi).choose.2.2 else 0, fun i hi => ?_⟩⟩
    dsimp only
    rw [dif_pos hi, dif_pos hi, dif_pos hi]
    exact (each i hi).choose_spec

theorem open_nums {k : IntKind} {t e : TypeId} {fuel : Nat} {cs : List Value} {x : DataW H × List MemPlace} (hu : Tryz.prog.underlying t = some (.slice e)) (he : Tryz.prog.underlying e = some (.int k)) (hc : Tryz.prog.cellsOf e = 1)
    (h : DataW.trod enc Tryz.prog w base (fun _ => true) held fuel t cs = some x) : ∃ a len cap zs, cs = [.slice a len cap] ∧ IntsIn k w a len cap zs := by
  rcases open_ints hu he hc h with ⟨h0, _⟩ | ⟨a, l, c, zs, h0, _, hl, hm, hz, _, hcell, hwz⟩
  · exact ⟨_, _, _, [], h0, .inl ⟨rfl, rfl, rfl, rfl⟩⟩
  · exact ⟨_, _, _, zs, h0, .inr ⟨a, rfl, hl, hm, by simpa using hz, hcell, hwz⟩⟩

/-- A script's cells. -/
def ScrIn (w : World) (cs : List Value) : Prop := ∃ (c : CfgS) (a1 : Option Addr) (l1 c1 : Nat) (z1 : List Int) (a2 : Option Addr) (l2 c2 : Nat) (a3 : Option Addr) (l3 c3 : Nat) (z3 : List Int),
  cs = scCells c (.slice a1 l1 c1) (.slice a2 l2 c2) (.slice a3 l3 c3) ∧ IntsIn .u64 w a1 l1 c1 z1 ∧ ProgsIn w a2 l2 c2 ∧ IntsIn .i64 w a3 l3 c3 z3

theorem open_cfg {fuel : Nat} {cs : List Value} {x : DataW H × List MemPlace} (h : DataW.trod enc Tryz.prog w base (fun _ => true) held fuel 24 cs = some x) : ∃ c : CfgS, ∀ j, j < 13 → cs[j]? = (CfgS.cells c)[j]? := by
  have c3 : Tryz.prog.cellsOf 3 = 1 := by kernel_rfl
  have c4 : Tryz.prog.cellsOf 4 = 1 := by kernel_rfl
  have cA : Tryz.prog.cellsOf 22 = 4 := by kernel_rfl
  obtain ⟨xs, n, _, _, hl, hlen, hf⟩ := DataW.trod_struct Tryz.underlying24 h
  have hxs : ∀ i, i < 10 → ∃ y, xs[i]? = some y := fun i hi => ⟨_, List.getElem?_eq_getElem (by rw [hlen]; exact hi)⟩
  obtain ⟨y0, e0⟩ := hxs 0 (by omega)
  obtain ⟨y1, e1⟩ := hxs 1 (by omega)
  obtain ⟨y2, e2⟩ := hxs 2 (by omega)
  obtain ⟨y3, e3⟩ := hxs 3 (by omega)
  obtain ⟨y4, e4⟩ := hxs 4 (by omega)
  obtain ⟨y5, e5⟩ := hxs 5 (by omega)
  obtain ⟨y6, e6⟩ := hxs 6 (by omega)
  obtain ⟨y7, e7⟩ := hxs 7 (by omega)
  obtain ⟨y8, e8⟩ := hxs 8 (by omega)
  obtain ⟨y9, e9⟩ := hxs 9 (by omega)
  obtain ⟨a0, g0⟩ := one_int Tryz.underlying3 c3 (hf 0 _ rfl) e0
  obtain ⟨a1, g1⟩ := one_int Tryz.underlying3 c3 (hf 1 _ rfl) e1
  obtain ⟨a2, g2⟩ := one_int Tryz.underlying3 c3 (hf 2 _ rfl) e2
  obtain ⟨a4, g4⟩ := one_int Tryz.underlying3 c3 (hf 4 _ rfl) e4
  obtain ⟨a5, g5⟩ := one_int Tryz.underlying3 c3 (hf 5 _ rfl) e5
  obtain ⟨a6, g6⟩ := one_int Tryz.underlying3 c3 (hf 6 _ rfl) e6
  obtain ⟨a7, g7⟩ := one_int Tryz.underlying3 c3 (hf 7 _ rfl) e7
  obtain ⟨a8, g8⟩ := one_int Tryz.underlying3 c3 (hf 8 _ rfl) e8
  obtain ⟨a9, g9⟩ := one_bool Tryz.underlying4 c4 (hf 9 _ rfl) e9
  have h3 : DataW.trod enc Tryz.prog w base (fun _ => true) held n 22 ((cs.drop 3).take (Tryz.prog.cellsOf 22)) = some y3 := (hf 3 _ rfl).trans e3
  rw [cA] at h3
  obtain ⟨zs, n2, _, _, hl2, hlen2, hf2⟩ := DataW.trod_array Tryz.underlying22 h3
  rw [c3] at hf2
  have hzs : ∀ i, i < 4 → ∃ z, cs[3 + i]? = some (.int .i64 z) := fun i hi => by
    obtain ⟨y, e⟩ : ∃ y, zs[i]? = some y := ⟨_, List.getElem?_eq_getElem (by rw [hlen2]; exact hi)⟩
    obtain ⟨z, h1, _⟩ := DataW.trod_int Tryz.underlying3 ((hf2 i hi).trans e)
    refine ⟨z, ?_⟩
    have := congrArg (·[0]?) h1
    have h4 : i < 4 := hi
    simpa [List.getElem?_take, List.getElem?_drop, h4] using this
  obtain ⟨k0, d0⟩ := hzs 0 (by omega)
  obtain ⟨k1, d1⟩ := hzs 1 (by omega)
  obtain ⟨k2, d2⟩ := hzs 2 (by omega)
  obtain ⟨k3, d3⟩ := hzs 3 (by omega)
  refine ⟨⟨a0, a1, a2, k0, k1, k2, k3, a4, a5, a6, a7, a8, a9⟩, fun j hj => ?_⟩
  have hj' : j = 0 ∨ j = 1 ∨ j = 2 ∨ j = 3 ∨ j = 4 ∨ j = 5 ∨ j = 6 ∨ j = 7 ∨ j = 8 ∨ j = 9 ∨ j = 10 ∨ j = 11 ∨ j = 12 := by omega
  rcases hj' with rfl | rfl | rfl | rfl | rfl | rfl | rfl | rfl | rfl | rfl | rfl | rfl | rfl
  · exact g0
  · exact g1
  · exact g2
  · exact d0
  · exact d1
  · exact d2
  · exact d3
  · exact g4
  · exact g5
  · exact g6
  · exact g7
  · exact g8
  · exact g9

theorem open_script {fuel : Nat} {cs : List Value} {x : DataW H × List MemPlace} (hcl : cs.length = 16) (h : DataW.trod enc Tryz.prog w base (fun _ => true) held fuel 42 cs = some x) : ScrIn w cs := by
  have cC : Tryz.prog.cellsOf 24 = 13 := by kernel_rfl
  have c1 : Tryz.prog.cellsOf 38 = 1 := by kernel_rfl
  have c2 : Tryz.prog.cellsOf 39 = 1 := by kernel_rfl
  have c3 : Tryz.prog.cellsOf 40 = 1 := by kernel_rfl
  obtain ⟨xs, n, _, _, hl, hlen, hf⟩ := DataW.trod_struct Tryz.underlying42 h
  have hxs : ∀ i, i < 4 → ∃ y, xs[i]? = some y := fun i hi => ⟨_, List.getElem?_eq_getElem (by rw [hlen]; exact hi)⟩
  obtain ⟨y0, e0⟩ := hxs 0 (by omega)
  obtain ⟨y1, e1⟩ := hxs 1 (by omega)
  obtain ⟨y2, e2⟩ := hxs 2 (by omega)
  obtain ⟨y3, e3⟩ := hxs 3 (by omega)
  have r0 : DataW.trod enc Tryz.prog w base (fun _ => true) held n 24 ((cs.drop 0).take (Tryz.prog.cellsOf 24)) = some y0 := (hf 0 _ rfl).trans e0
  have r1 : DataW.trod enc Tryz.prog w base (fun _ => true) held n 38 ((cs.drop 13).take (Tryz.prog.cellsOf 38)) = some y1 := (hf 1 _ rfl).trans e1
  have r2 : DataW.trod enc Tryz.prog w base (fun _ => true) held n 39 ((cs.drop 14).take (Tryz.prog.cellsOf 39)) = some y2 := (hf 2 _ rfl).trans e2
  have r3 : DataW.trod enc Tryz.prog w base (fun _ => true) held n 40 ((cs.drop 15).take (Tryz.prog.cellsOf 40)) = some y3 := (hf 3 _ rfl).trans e3
  rw [cC] at r0
  rw [c1] at r1
  rw [c2] at r2
  rw [c3] at r3
  obtain ⟨c, hc⟩ := open_cfg r0
  obtain ⟨a1, l1, p1, z1, q1, i1⟩ := open_nums (k := .u64) Tryz.underlying38 Tryz.underlying59 (by kernel_rfl) r1
  obtain ⟨a2, l2, p2, q2, i2⟩ := open_progs r2
  obtain ⟨a3, l3, p3, z3, q3, i3⟩ := open_nums (k := .i64) Tryz.underlying40 Tryz.underlying3 (by kernel_rfl) r3
  have g1 := congrArg (·[0]?) q1
  have g2 := congrArg (·[0]?) q2
  have g3 := congrArg (·[0]?) q3
  simp only [List.getElem?_take, List.getElem?_drop] at hc g1 g2 g3
  refine ⟨c, a1, l1, p1, z1, a2, l2, p2, a3, l3, p3, z3, ?_, i1, i2, i3⟩
  apply List.ext_getElem?
  intro j
  by_cases hj : j < 16
  · by_cases h13 : j < 13
    · have h1 := hc j h13
      rw [if_pos h13] at h1
      have h2 : (scCells c (.slice a1 l1 p1) (.slice a2 l2 p2) (.slice a3 l3 p3))[j]? = (CfgS.cells c)[j]? := by
        unfold scCells
        rw [List.getElem?_append_left (by simpa [CfgS.cells] using h13)]
      rw [h2, ← h1]
      simp
    · have hj' : j = 13 ∨ j = 14 ∨ j = 15 := by omega
      rcases hj' with rfl | rfl | rfl
      · simpa [scCells, CfgS.cells] using g1
      · simpa [scCells, CfgS.cells] using g2
      · simpa [scCells, CfgS.cells] using g3
  · rw [List.getElem?_eq_none (by omega), List.getElem?_eq_none (by simp [scCells, CfgS.cells]; omega)]
end
end Go.Stx
