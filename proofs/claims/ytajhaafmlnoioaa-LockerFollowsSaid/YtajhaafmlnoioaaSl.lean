/-
  The library's functions on slices of integers that the program calls: Clone, Sort, Compact.
-/
import Derived.Test.YtajhaafmlnoioaaClone
import Derived.Test.YtajhaafmlnoioaaCoreB
import Derived.Test.YtajhaafmlnoioaaShelf
namespace Go.Stx
open Go Go.Proofs
attribute [local irreducible] AWP LWalk ACall ARounds lops nops
set_option linter.unusedVariables false
set_option linter.unusedSimpArgs false

def sortI (l : List Int) : List Int := l.mergeSort fun x y => decide (x ≤ y)

theorem sort_call (B : Nat) (v : Value) (l : List Int) (A : AW) (hw : A.Wf) (h : OwnInts B A .i64 v l) (hl : l.length < 2^40) :
    ACall Try.prog 38 [v] A (fun u A' => OwnInts B A' .i64 v (sortI l) ∧ ∀ A0 : AW, A0.next ≤ B → A0.le A → A0.le A') := by
  have hcall : callable Try.prog 38 = true := by kernel_rfl
  rcases h.form with ⟨o, c, rfl, rfl, _⟩ | ⟨p, c, row, rfl, h0, hc, hs, hB, hg, hfit, hcs⟩
  · refine (ACall.empty hcall (rv := .tuple #[]) (ret := fun _ _ => .tuple #[]) (fun m _ _ _ => VRel.undef m) (fun o' c' w => Try.slices_Sort_int_none o' c' w)).mono ?_
    rintro u A' ⟨rfl, rfl⟩
    exact ⟨by simpa [sortI] using h, fun A0 _ hl => hl⟩
  · have hlen : (sortI l).length = l.length := by simp [sortI]
    refine (rowcall hcall (k := .i64) (d := sortI l) (rv := .tuple #[]) (ret := fun _ _ => .tuple #[]) rfl h0 hc hg hfit hcs hlen (fun m _ _ _ _ => VRel.undef m)
      (fun blk off cap w hH hb _ => Try.slices_Sort_int blk off cap l w hH hb (by omega))).mono ?_
    rintro u A' ⟨rfl, rfl⟩
    refine ⟨?_, fun A0 hA0 hle => hle.set (by omega) _⟩
    have := own_turned (B := B) (k := .i64) (sortI l) [] hw hB hs hg (c := c) (by simpa [hlen] using hfit) (by omega) hlen.symm
    simpa using this

theorem compact_length (l : List Int) : (Lib.compact l).length ≤ l.length := by
  simp only [Lib.compact, Lib.compactUpTo, List.length_map]
  exact Nat.le_trans (List.length_filter_le _ _) (by simp)

theorem compact_call (B : Nat) (v : Value) (l : List Int) (A : AW) (hw : A.Wf) (h : OwnInts B A .i64 v l) (hl : l.length < 2^40) :
    ACall Try.prog 39 [v] A (fun u A' => OwnInts B A' .i64 u (Lib.compact l) ∧ ∀ A0 : AW, A0.next ≤ B → A0.le A → A0.le A') := by
  have hcall : callable Try.prog 39 = true := by kernel_rfl
  rcases h.form with ⟨o, c, rfl, rfl, _⟩ | ⟨p, c, row, rfl, h0, hc, hs, hB, hg, hfit, hcs⟩
  · refine (ACall.empty hcall (rv := .slice o 0 c) (ret := fun o' c' => .slice o' 0 c') (fun m _ _ h => h) (fun o' c' w => Try.slices_Compact_int_empty o' c' w)).mono ?_
    rintro u A' ⟨rfl, rfl⟩
    exact ⟨h, fun A0 _ hl => hl⟩
  · have hlen := compact_length l
    refine (rowcall hcall (k := .i64) (d := Lib.compact l ++ List.replicate (l.length - (Lib.compact l).length) 0) (rv := .slice (some p) (Lib.compact l).length c) (ret := fun a' cap' => .slice (some a') (Lib.compact l).length cap')
      rfl h0 hc hg hfit hcs (by simp; omega) (fun m a' cap' hsr hcc => .slice (.inl hsr) (by omega) hcc)
      (fun blk off cap w hH hb hcap => (Try.slices_Compact_int blk off cap l w hH (by omega) hcap).mono fun e w' ⟨h1, q, h2⟩ => ⟨h1, q, #[], by rw [h2]; exact (Go.Sort.grow_empty _).symm⟩)).mono ?_
    rintro u A' ⟨rfl, rfl⟩
    refine ⟨?_, fun A0 hA0 hle => hle.set (by omega) _⟩
    exact own_turned (B := B) (k := .i64) (Lib.compact l) _ hw hB hs hg (c := c) (by simp; omega) (by omega) rfl

end Go.Stx
