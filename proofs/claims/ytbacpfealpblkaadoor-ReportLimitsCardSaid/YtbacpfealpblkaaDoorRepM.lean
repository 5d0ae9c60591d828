/-
  Steps that came in: from the model's world to the abstract memory; what the package-level variables hold.
-/
import Derived.Test.YtbacpfealpblkaaDoorRepL
import Derived.Deep.Slices
import Derived.Lib.SmallJoins
import Derived.Lib.LaidU8
import Derived.Shelf.Vars
import Derived.LaidMore
namespace Go.Stx
open Go Go.Proofs
attribute [local irreducible] AWP LWalk ACall ARounds lops nops
open Go.RowKit
set_option linter.unusedVariables false
set_option linter.unusedSimpArgs false
set_option linter.unusedSectionVars false

def StepsIn (w : World) (a : Option Addr) (len cap : Nat) : Prop :=
  (a = none ∧ len = 0 ∧ cap = 0) ∨ ∃ x, a = some x ∧ len ≤ cap ∧ cap ≤ maxLen ∧ ∃ Q : Nat → StepV, ∀ i, i < cap → (Q i).Ok ∧ ∀ j, j < 9 → w.cell? (x.add (i * 9 + j)) = (stepCells (Q i))[j]?

theorem i64R_wf {n : Int} (h : (Lit.int .i64 n).wf = true) : i64R n := by
  simp [Lit.wf, IntKind.has, IntKind.min, IntKind.max, IntKind.signed, IntKind.bits] at h
  unfold i64R; omega
theorem u64_wf {n : Int} (h : (Lit.int .u64 n).wf = true) : 0 ≤ n ∧ n < 18446744073709551616 := by
  simp [Lit.wf, IntKind.has, IntKind.min, IntKind.max, IntKind.signed, IntKind.bits] at h
  omega

section
variable {H : Type} {enc : TypeId × Value → H} {w : World} {base : Nat} {sp : Nat → Bool} {held : Bool}

theorem one_int {k : IntKind} {t : TypeId} {f off : Nat} {cs : List Value} {x : Option (DataW H × List MemPlace)} {y : DataW H × List MemPlace} (hu : Tryd.prog.underlying t = some (.int k)) (hc : Tryd.prog.cellsOf t = 1)
    (h : DataW.trod enc Tryd.prog w base sp held f t ((cs.drop off).take (Tryd.prog.cellsOf t)) = x) (hx : x = some y) : ∃ z, cs[off]? = some (.int k z) ∧ (Lit.int k z).wf = true := by
  rw [hx, hc] at h
  obtain ⟨z, h1, _, h2⟩ := DataW.trod_int hu h
  refine ⟨z, ?_, h2⟩
  have := congrArg (·[0]?) h1
  simpa [List.getElem?_take, List.getElem?_drop] using this
theorem one_bool {t : TypeId} {f off : Nat} {cs : List Value} {x : Option (DataW H × List MemPlace)} {y : DataW H × List MemPlace} (hu : Tryd.prog.underlying t = some .bool) (hc : Tryd.prog.cellsOf t = 1)
    (h : DataW.trod enc Tryd.prog w base sp held f t ((cs.drop off).take (Tryd.prog.cellsOf t)) = x) (hx : x = some y) : ∃ z, cs[off]? = some (.bool z) := by
  rw [hx, hc] at h
  obtain ⟨z, h1, _⟩ := DataW.trod_bool hu h
  refine ⟨z, ?_⟩
  have := congrArg (·[0]?) h1
  simpa [List.getElem?_take, List.getElem?_drop] using this

theorem open_step {fuel : Nat} {cs : List Value} {x : DataW H × List MemPlace} (h : DataW.trod enc Tryd.prog w base sp held fuel 40 cs = some x) : ∃ s : StepV, s.Ok ∧ ∀ j, j < 9 → cs[j]? = (stepCells s)[j]? := by
  have c3 : Tryd.prog.cellsOf 3 = 1 := by kernel_rfl
  have c4 : Tryd.prog.cellsOf 4 = 1 := by kernel_rfl
  have cU : Tryd.prog.cellsOf 36 = 1 := by kernel_rfl
  have cA : Tryd.prog.cellsOf 38 = 6 := by kernel_rfl
  obtain ⟨xs, n, _, _, hl, hlen, hf⟩ := DataW.trod_struct Tryd.underlying40 h
  have hxs : ∀ i, i < 4 → ∃ y, xs[i]? = some y := fun i hi => ⟨_, List.getElem?_eq_getElem (by rw [hlen]; exact hi)⟩
  obtain ⟨y0, e0⟩ := hxs 0 (by omega)
  obtain ⟨y1, e1⟩ := hxs 1 (by omega)
  obtain ⟨y2, e2⟩ := hxs 2 (by omega)
  obtain ⟨y3, e3⟩ := hxs 3 (by omega)
  obtain ⟨t, g0, w0⟩ := one_int Tryd.underlying3 c3 (hf 0 _ rfl) e0
  obtain ⟨p, g1, w1⟩ := one_int Tryd.underlying3 c3 (hf 1 _ rfl) e1
  obtain ⟨a, g2, w2⟩ := one_int Tryd.underlying3 c3 (hf 2 _ rfl) e2
  have h3 := (hf 3 _ rfl).trans e3
  obtain ⟨zs, n2, _, _, hl2, hlen2, hf2⟩ := DataW.trod_struct Tryd.underlying38 h3
  have hzs : ∀ i, i < 6 → ∃ y, zs[i]? = some y := fun i hi => ⟨_, List.getElem?_eq_getElem (by rw [hlen2]; exact hi)⟩
  obtain ⟨z0, d0⟩ := hzs 0 (by omega)
  obtain ⟨z1, d1⟩ := hzs 1 (by omega)
  obtain ⟨z2, d2⟩ := hzs 2 (by omega)
  obtain ⟨z3, d3⟩ := hzs 3 (by omega)
  obtain ⟨z4, d4⟩ := hzs 4 (by omega)
  obtain ⟨z5, d5⟩ := hzs 5 (by omega)
  obtain ⟨k, g3, w3⟩ := one_int Tryd.underlying3 c3 (hf2 0 _ rfl) d0
  obtain ⟨c, g4, w4⟩ := one_int Tryd.underlying3 c3 (hf2 1 _ rfl) d1
  obtain ⟨i, g5, w5⟩ := one_int Tryd.underlying3 c3 (hf2 2 _ rfl) d2
  obtain ⟨g, g6, w6⟩ := one_int Tryd.underlying36 cU (hf2 3 _ rfl) d3
  obtain ⟨u, g7, w7⟩ := one_int Tryd.underlying36 cU (hf2 4 _ rfl) d4
  obtain ⟨d, g8⟩ := one_bool Tryd.underlying4 c4 (hf2 5 _ rfl) d5
  obtain ⟨u0, u1⟩ := u64_wf w6
  obtain ⟨v0, v1⟩ := u64_wf w7
  simp only [cA, List.getElem?_take, List.getElem?_drop] at g3 g4 g5 g6 g7 g8
  refine ⟨⟨t, p, a, k, c, i, g.toNat, u.toNat, d⟩, ⟨i64R_wf w0, i64R_wf w1, i64R_wf w2, i64R_wf w3, i64R_wf w4, i64R_wf w5, by simp only; omega, by simp only; omega⟩, fun j hj => ?_⟩
  have hj' : j = 0 ∨ j = 1 ∨ j = 2 ∨ j = 3 ∨ j = 4 ∨ j = 5 ∨ j = 6 ∨ j = 7 ∨ j = 8 := by omega
  rcases hj' with rfl | rfl | rfl | rfl | rfl | rfl | rfl | rfl | rfl
  · exact g0
  · exact g1
  · exact g2
  · simpa [stepCells, cA] using g3
  · simpa [stepCells, cA] using g4
  · simpa [stepCells, cA] using g5
  · simpa [stepCells, cA, Int.toNat_of_nonneg u0] using g6
  · simpa [stepCells, cA, Int.toNat_of_nonneg v0] using g7
  · simpa [stepCells, cA] using g8

theorem open_steps {fuel : Nat} {cs : List Value} {x : DataW H × List MemPlace} (h : DataW.trod enc Tryd.prog w base (fun _ => true) held fuel 22 cs = some x) {a : Option Addr} {len cap : Nat} (hcs : cs = [.slice a len cap]) : StepsIn w a len cap := by
  rcases Go.Deep.open_slice Tryd.underlying22 h with ⟨h0, _⟩ | ⟨b, l, c, m, n, D, Pl, h0, hb, hl, hm, hmm, _, hx⟩
  · rw [hcs] at h0
    injection h0 with h0 _
    injection h0 with e1 e2 e3
    exact .inl ⟨e1, e2, e3⟩
  · rw [hcs] at h0
    injection h0 with h0 _
    injection h0 with e1 e2 e3
    subst e2 e3
    simp only [if_true] at hmm
    subst hmm
    have ce : Tryd.prog.cellsOf 40 = 9 := by kernel_rfl
    have each : ∀ i, i < m → ∃ q : StepV, q.Ok ∧ ∀ j, j < 9 → w.cell? (b.add (i * 9 + j)) = (stepCells q)[j]? := by
      intro i hi
      obtain ⟨cs', h1, h2⟩ := hx i hi
      rw [ce] at h1
      obtain ⟨_, hlen, hcell⟩ := World.cells?_some h1
      obtain ⟨q, hq, hc⟩ := open_step h2
      refine ⟨q, hq, fun j hj => ?_⟩
      have := hcell j (by omega)
      rw [Go.Deep.add_add] at this
      rw [this, ← hc j hj]
    refine .inr ⟨b, e1, hl, hm, ?_⟩
    refine ⟨fun i => if hi : i < m then (each i hi).choose else zeroS, fun i hi => ?_⟩
    dsimp only
    rw [dif_pos hi]
    exact (each i hi).choose_spec

end

variable [Gl]

theorem stepCells_len (s : StepV) : (stepCells s).length = 9 := rfl
theorem flat_len : ∀ l : List StepV, (l.flatMap stepCells).length = l.length * 9
  | [] => rfl
  | s :: l => by rw [List.flatMap_cons, List.length_append, flat_len l, stepCells_len]; simp; omega
theorem flat_at (l : List StepV) (i : Nat) (hi : i < l.length) (j : Nat) (hj : j < 9) : (l.flatMap stepCells)[i * 9 + j]? = (stepCells l[i])[j]? := by
  have h := congrArg (·[j]?) (flat_get l i hi)
  simpa [List.getElem?_take, List.getElem?_drop, hj] using h
theorem flat_take (l : List StepV) (n : Nat) (h : n ≤ l.length) : (l.flatMap stepCells).take (n * 9) = (l.take n).flatMap stepCells := by
  have e : l = l.take n ++ l.drop n := (List.take_append_drop n l).symm
  have hl : ((l.take n).flatMap stepCells).length = n * 9 := by rw [flat_len, List.length_take, Nat.min_eq_left h]
  calc (l.flatMap stepCells).take (n * 9) = ((l.take n ++ l.drop n).flatMap stepCells).take (n * 9) := by rw [← e]
    _ = ((l.take n).flatMap stepCells ++ (l.drop n).flatMap stepCells).take (n * 9) := by rw [List.flatMap_append]
    _ = (l.take n).flatMap stepCells := by rw [← hl, List.take_left']; rfl
theorem stepCells_scalar {s : StepV} {j : Nat} {v : Value} (h : (stepCells s)[j]? = some v) : scalarV v = true := by
  have hj := (List.getElem?_eq_some_iff.1 h).1
  rw [stepCells_len] at hj
  have hj' : j = 0 ∨ j = 1 ∨ j = 2 ∨ j = 3 ∨ j = 4 ∨ j = 5 ∨ j = 6 ∨ j = 7 ∨ j = 8 := by omega
  rcases hj' with rfl | rfl | rfl | rfl | rfl | rfl | rfl | rfl | rfl <;> (simp [stepCells] at h; subst h; rfl)

theorem intro_steps {m : Mp} {A : AW} {w : World} (hs : Sim m A w) (hno : A.NoOwn) {a : Option Addr} {len cap : Nat} (h : StepsIn w a len cap) :
    ∃ m' A' v l, Mp.le m m' ∧ A.le A' ∧ Sim m' A' w ∧ A'.NoOwn ∧ VRel m' v (.slice a len cap) ∧ IsSteps A' v l ∧ ∀ s ∈ l, s.Ok := by
  rcases h with ⟨rfl, rfl, rfl⟩ | ⟨x, rfl, hlc, hcm, Q, hcell⟩
  · exact ⟨m, A, .slice none 0 0, [], Mp.le_refl m, AW.le.refl A, hs, hno, .sliceNone, .inl ⟨⟨none, rfl⟩, rfl, rfl⟩, by simp⟩
  · by_cases hc0 : cap = 0
    · subst hc0
      have : len = 0 := by omega
      subst this
      exact ⟨m, A, .slice (some ⟨0, 0, some 0⟩) 0 0, [], Mp.le_refl m, AW.le.refl A, hs, hno, .slice (.inr ⟨rfl, rfl, .inl rfl⟩) (Nat.le_refl _) (Nat.le_refl _), .inl ⟨⟨_, rfl⟩, rfl, rfl⟩, by simp⟩
    · have h0 : w.cell? (x.add (0 * 9 + 0)) = some (.int .i64 (Q 0).t) := (hcell 0 (by omega)).2 0 (by omega)
      rw [show x.add (0 * 9 + 0) = x by unfold Addr.add; simp] at h0
      have hsp : x.spot = none := by
        unfold World.cell? at h0
        split at h0
        · split at h0
          · cases h0
          · rename_i hsp; simpa using hsp
        · cases h0
      have hblk : ∃ cur e fr, w.heap[x.block]? = some (.cells cur e fr) := by
        unfold World.cell? at h0
        split at h0
        · rename_i c e fr hh; exact ⟨c, e, fr, hh⟩
        · cases h0
      obtain ⟨cur, e, fr, hblk⟩ := hblk
      have hcur : ∀ i, i < cap → ∀ j, j < 9 → cur[x.off + (i * 9 + j)]? = (stepCells (Q i))[j]? := fun i hi j hj => by
        have h1 := (hcell i hi).2 j hj
        rw [addr_add _ _ hsp] at h1
        simpa [World.cell?, hblk] using h1
      obtain ⟨qs, hqs⟩ : ∃ qs, qs = (List.range cap).map Q := ⟨_, rfl⟩
      have hql : qs.length = cap := by rw [hqs]; simp
      obtain ⟨hs', hno'⟩ := Sim.foreign hs hno (qs.flatMap stepCells) ⟨x.block, x.off, 9, cur.size⟩ hblk rfl (fun j v hv => by
        have hj := (List.getElem?_eq_some_iff.1 hv).1
        rw [flat_len, hql] at hj
        have hi : j / 9 < qs.length := by omega
        have h1 := flat_at qs (j / 9) hi (j % 9) (by omega)
        rw [show j / 9 * 9 + j % 9 = j by omega, hv] at h1
        have h2 := hcur (j / 9) (by omega) (j % 9) (by omega)
        rw [show x.off + (j / 9 * 9 + j % 9) = x.off + j by omega] at h2
        have h3 : qs[j / 9] = Q (j / 9) := by simp [hqs]
        rw [h3] at h1
        exact ⟨v, h2.trans h1.symm, .of_scalar (stepCells_scalar h1.symm) _⟩)
      have hlast : x.off + cap * 9 ≤ cur.size := by
        have h1 : cur[x.off + ((cap - 1) * 9 + 8)]? = some (.bool (Q (cap - 1)).d) := hcur (cap - 1) (by omega) 8 (by omega)
        have := (Array.getElem?_eq_some_iff.1 h1).1
        omega
      refine ⟨_, _, .slice (some ⟨A.next, 0, none⟩) len len, qs.take len, hs.le_ext _, AW.le.alloc A _, hs', hno', ?_, ?_, ?_⟩
      · refine .slice (.inl ⟨rfl, hsp, ⟨x.block, x.off, 9, cur.size⟩, by simp [Mp.ext], rfl, rfl, ?_⟩) (Nat.le_refl _) hlc
        exact hlast
      · have hl : (qs.take len).length = len := by rw [List.length_take, Nat.min_eq_left (by omega)]
        refine .inr ⟨⟨A.next, 0, none⟩, len, qs.flatMap stepCells, false, 9, ?_, ?_, AW.alloc_get_new _ _, rfl, ?_, ?_⟩
        · rw [hl]
        · rw [hl]; exact Nat.le_refl _
        · rw [hl, flat_len, hql]; show 0 + len * 9 ≤ cap * 9; omega
        · rw [List.drop_zero, hl, flat_take _ _ (by omega)]
      · intro s hsm
        have := List.mem_of_mem_take hsm
        rw [hqs, List.mem_map] at this
        obtain ⟨i, hi, rfl⟩ := this
        exact (hcell i (List.mem_range.1 hi)).1

end Go.Stx

namespace Go.Stx
open Go Go.Proofs

/-- What lies in the package-level variables of a world. -/
@[reducible] def glOf (W : World) : Gl := ⟨fun b => if b < 8 then W.heap[b]? else none⟩

theorem laid_same {W w : World} (h : @Laid (glOf W) w) {b : Nat} (hb : b < 8) (hW : (W.heap[b]?).isSome = true) : w.heap[b]? = W.heap[b]? := by
  obtain ⟨x, hx⟩ := Option.isSome_iff_exists.1 hW
  rw [hx]
  refine h b x ?_
  show (if b < 8 then W.heap[b]? else none) = some x
  rw [if_pos hb, hx]

theorem heap_of_cell {W : World} {b : Nat} {v : Value} (h : W.cell? ⟨b, 0, none⟩ = some v) : (W.heap[b]?).isSome = true := by
  unfold World.cell? at h
  split at h
  · rename_i e; rw [e]; rfl
  · cases h

theorem cell_same {W w : World} (h : @Laid (glOf W) w) {b : Nat} (hb : b < 8) {v : Value} (hv : W.cell? ⟨b, 0, none⟩ = some v) : w.cell? ⟨b, 0, none⟩ = some v := by
  rw [World.cell?_of_block (laid_same h hb (heap_of_cell hv))]
  exact hv

theorem gok_of {W : World} {n : Int} {t2 t3 : TypeId} {p2 p3 : Value} (h0 : W.cell? ⟨0, 0, none⟩ = some (.int .i64 n)) (hT : Lib.TabIs Tryd.prog W "internal/strconv.uint64pow10" .u64 Lib.pow10Tab)
    (h2 : W.cell? ⟨2, 0, none⟩ = some (.iface t2 p2)) (h3 : W.cell? ⟨3, 0, none⟩ = some (.iface t3 p3)) : @GOK (glOf W) := by
  refine @GOK.mk (glOf W) (fun w hw => ?_) ⟨n, fun w hw => cell_same hw (by omega) h0⟩ ⟨_, .inr ⟨t2, p2, rfl⟩, fun w hw => cell_same hw (by omega) h2⟩ ⟨_, .inr ⟨t3, p3, rfl⟩, fun w hw => cell_same hw (by omega) h3⟩
  have hg : Tryd.prog.globalNamed "internal/strconv.uint64pow10" = some 1 := by kernel_rfl
  unfold Lib.TabIs World.var? at *
  rw [hg] at hT ⊢
  simp only [Option.bind_some] at hT ⊢
  have hs : (W.heap[1]?).isSome = true := by
    cases hh : W.heap[1]? with
    | none => rw [hh] at hT; cases hT
    | some x => rfl
  rw [laid_same hw (by omega) hs]
  exact hT

theorem laid_self (W : World) : ∀ b x, (glOf W).B b = some x → W.heap[b]? = some x := fun b x h => by
  have h' : (if b < 8 then W.heap[b]? else none) = some x := h
  split at h'
  · exact h'
  · cases h'

theorem iface_of_reads {W : World} {nm name : String} {d : DataW Unit} {g : Nat} {t : TypeId} {ms : Array (String × TypeId)} (h : Lib.VarReads Tryd.prog W nm (.iface name d)) (hg : Tryd.prog.globalNamed nm = some g)
    (ht : (Tryd.prog.globals[g]?).map (·.type) = some t) (hu : Tryd.prog.underlying t = some (.interface ms)) : ∃ te pe, W.cell? ⟨g, 0, none⟩ = some (.iface te pe) := by
  obtain ⟨g', t', cs, fuel, p, hg', ht', hv, hd⟩ := h
  obtain rfl := Option.some.inj (hg.symm.trans hg')
  obtain rfl := Option.some.inj (ht.symm.trans ht')
  have hc := World.var?_cell hg hv 0
  cases fuel with
  | zero => simp [DataW.trod] at hd
  | succ n =>
    unfold DataW.trod at hd
    rw [hu] at hd
    obtain ⟨l⟩ := cs
    simp only at hd hc
    split at hd <;> try (simp_all; done)

theorem tab_of_reads {W : World} {nm : String} {k : IntKind} {zs : List Int} {g : Nat} {t e : TypeId} {n : Nat} (h : Lib.VarReads Tryd.prog W nm (Lib.tabData k zs))
    (hg : Tryd.prog.globalNamed nm = some g) (hty : (Tryd.prog.globals[g]?).map (·.type) = some t) (ht : Tryd.prog.underlying t = some (.array n e)) (he : Tryd.prog.underlying e = some (.int k)) (hce : Tryd.prog.cellsOf e = 1) (hct : Tryd.prog.cellsOf t = n) :
    Lib.TabIs Tryd.prog W nm k zs := by
  obtain ⟨g', t', cs, fuel, p, hg', ht', hvar, hd⟩ := h
  obtain rfl := Option.some.inj (hg.symm.trans hg')
  obtain rfl := Option.some.inj (hty.symm.trans ht')
  unfold Lib.TabIs
  rw [hvar, ← Lib.cells_of_tab ht he hce hct hd]

end Go.Stx
