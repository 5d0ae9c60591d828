/-
  The library's contracts (strconv, strings) over the abstract memory.
-/
import Derived.Test.YtbacpfealpblkaaDoorCoreB
import Derived.Test.YtbacpfealpblkaaDoorRepU
import Derived.Test.YtbacpfealpblkaaDoorRepP
namespace Go.Stx
open Go Go.Proofs Go.RowKit
set_option linter.unusedVariables false
set_option linter.unusedSimpArgs false
set_option linter.unusedSectionVars false

def bs (l : List UInt8) : ByteArray := ⟨l.toArray⟩
theorem bs_size (l : List UInt8) : (bs l).size = l.length := by simp [bs, ByteArray.size]
theorem bs_app (a b : List UInt8) : bs a ++ bs b = bs (a ++ b) := by
  apply ByteArray.ext
  simp [bs]
theorem bs_data (l : List UInt8) : (bs l).data.toList = l := rfl
theorem bs_of (s : ByteArray) : bs s.data.toList = s := rfl
theorem bs_inj {a b : List UInt8} (h : bs a = bs b) : a = b := by
  have := congrArg (fun x => x.data.toList) h
  exact this

variable [Gl]

def Laid [Gl] (w : World) : Prop := ∀ b x, Gl.B b = some x → w.heap[b]? = some x

/-- What the package-level variables hold. -/
structure GOK [Gl] : Prop where
  tab : ∀ w, Laid w → Lib.TabIs Tryd.prog w "internal/strconv.uint64pow10" .u64 Lib.pow10Tab
  c0 : ∃ n, ∀ w, Laid w → w.cell? ⟨0, 0, none⟩ = some (.int .i64 n)
  c2 : ∃ ev, (ev = .nilIface ∨ ∃ te pe, ev = .iface te pe) ∧ ∀ w, Laid w → w.cell? ⟨2, 0, none⟩ = some ev
  c3 : ∃ ev, (ev = .nilIface ∨ ∃ te pe, ev = .iface te pe) ∧ ∀ w, Laid w → w.cell? ⟨3, 0, none⟩ = some ev

theorem Kept.below {w w' : World} (h : Below w.heap.size w w') : Kept w w' := ⟨fun b hb => h.block b hb, h.os, h.tape, h.output, h.size⟩

theorem heap_grow_old (w : World) (k : Nat) (os : Array Obj) (g : Nat) (h : g < w.heap.size) : (Go.Sort.grow (w.drewN k) os).heap[g]? = w.heap[g]? := by
  show (w.heap ++ os)[g]? = w.heap[g]?
  exact Array.getElem?_append_left h

theorem Kept.grow (w : World) (k : Nat) (os : Array Obj) : Kept w (Go.Sort.grow (w.drewN k) os) :=
  ⟨fun j hj => heap_grow_old w k os j hj, rfl, rfl, rfl, by show w.heap.size ≤ (w.heap ++ os).size; rw [Array.size_append]; omega⟩

theorem Kept.drewN (w : World) (n : Nat) : Kept w (w.drewN n) := ⟨fun _ _ => rfl, rfl, rfl, rfl, Nat.le_refl _⟩

def plainV : Value → Bool
  | .bool _ | .int _ _ | .string _ => true
  | _ => false

theorem plain_args {m : Mp} : ∀ (l l' : List Value), LRel m l l' → (∀ v ∈ l, plainV v = true) → l' = l
  | [], l', h, _ => h.inv_nil
  | v :: l, l', h, hp => by
    obtain ⟨v', t', rfl, hv, ht⟩ := h.inv_cons
    have h1 := hp v (by simp)
    have e : v' = v := by cases hv <;> first | rfl | (simp [plainV] at h1; done)
    rw [e, plain_args l t' ht fun x hx => hp x (by simp [hx])]

/-- A call with plain arguments that gives one scalar and leaves all as it was. -/
theorem pure_of_calls {f : FuncId} {args : List Value} {v : Value} (A : AW) (hc : callable Tryd.prog f = true) (ha : ∀ x ∈ args, plainV x = true) (hv : scalarV v = true)
    (h : ∀ w : World, Laid w → Calls Tryd.prog f args.toArray w fun e w' => e = .returned v ∧ Kept w w') : APure Tryd.prog f args A v := by
  refine ⟨hc, hv, fun m w cargs hs hl => ?_⟩
  have e := plain_args _ _ hl ha
  have e2 : cargs = args.toArray := by apply Array.ext'; simpa using e
  subst e2
  exact h w hs.laid

theorem itoa_pure (hG : GOK) (n : Int) (h0 : -9223372036854775808 ≤ n) (h1 : n ≤ 9223372036854775807) (A : AW) : APure Tryd.prog 35 [.int .i64 n] A (.string (bs (Lib.itoa n))) := by
  refine pure_of_calls A (by kernel_rfl) (by simp [plainV]) rfl fun w hw => (Tryd.strconv_Itoa n h0 h1 w (hG.tab w hw)).mono ?_
  rintro e w' ⟨rfl, k, os, rfl⟩
  exact ⟨rfl, Kept.grow w k os⟩

theorem utoa_pure (hG : GOK) (u : Nat) (h1 : u < 18446744073709551616) (A : AW) : APure Tryd.prog 25 [.int .u64 u, .int .i64 10] A (.string (bs (Lib.decDigits u))) := by
  refine pure_of_calls A (by kernel_rfl) (by simp [plainV]) rfl fun w hw => (Go.Proofs.YtbacpfealpblkaaDoor.formatUint u h1 w (hG.tab w hw)).mono ?_
  rintro e w' ⟨rfl, k, os, rfl⟩
  exact ⟨rfl, Kept.grow w k os⟩

theorem strs_cells {m : Mp} {A : AW} {w : World} (hs : Sim m A w) {v v' : Value} {xs : List ByteArray} (h : IsSl A 1 v xs.length (xs.map Value.string)) (hv : VRel m v v') :
    (xs = [] ∧ ∃ o c, v' = .slice o 0 c) ∨ ∃ b o c, v' = .slice (some ⟨b, o, none⟩) xs.length c ∧ xs.length ≤ c ∧ b < w.heap.size ∧ ∀ (j : Nat) x, xs[j]? = some x → w.cell? ⟨b, o + j, none⟩ = some (.string x) := by
  rcases h with ⟨⟨o, rfl⟩, h2, _⟩ | ⟨p, c, row, own, u, rfl, h2, h3, rfl, h4, h5⟩
  · refine .inl ⟨List.eq_nil_of_length_eq_zero h2, ?_⟩
    cases hv <;> exact ⟨_, _, rfl⟩
  · by_cases h0 : xs.length = 0
    · refine .inl ⟨List.eq_nil_of_length_eq_zero h0, ?_⟩
      rw [h0] at hv
      cases hv <;> exact ⟨_, _, rfl⟩
    · refine .inr ?_
      cases hv with
      | slice hh g1 g2 =>
        rename_i a' cap'
        have hsr : SRel m p a' cap' := by
          rcases hh with hh | hh
          · exact hh
          · omega
        have har := hsr.arel
        have hrow : A.row p.block = some row := by simp [AW.row, h3]
        have ea : a' = ⟨a'.block, a'.off, none⟩ := addr_eta a' har.2.1
        refine ⟨a'.block, a'.off, cap', by rw [← ea], by omega, ?_, fun j x hx => ?_⟩
        · obtain ⟨_, _, q, g3, g4, g5⟩ := har
          rw [g4]
          exact hs.blk h3 g3
        · have hj : j < xs.length := (List.getElem?_eq_some_iff.1 hx).1
          have hr : row[p.off + j]? = some (.string x) := by
            have : (xs.map Value.string)[j]? = some (.string x) := by rw [List.getElem?_map, hx]; rfl
            rw [h5, Nat.mul_one, List.getElem?_take_of_lt hj, List.getElem?_drop] at this
            exact this
          obtain ⟨v0, g6, g7⟩ := cell_rel hs har hrow hr
          cases g7
          rw [addr_add _ _ har.2.1] at g6
          exact g6

theorem join_pure (v : Value) (xs : List (List UInt8)) (sep : List UInt8) (A : AW) (h : IsSl A 1 v xs.length (xs.map fun x => Value.string (bs x))) (hN : xs.length ≤ 140737488355328) (hlen : (Lib.join xs sep).length ≤ 140737488355328) :
    APure Tryd.prog 23 [v, .string (bs sep)] A (.string (bs (Lib.join xs sep))) := by
  refine ⟨by kernel_rfl, rfl, fun m w cargs hs hl => ?_⟩
  obtain ⟨v', t', e1, hv, ht⟩ := hl.inv_cons
  have e2 := plain_args _ _ ht (by simp [plainV])
  subst e2
  have ec : cargs = #[v', .string (bs sep)] := by apply Array.ext'; exact e1
  subst ec
  have h' : IsSl A 1 v (xs.map bs).length ((xs.map bs).map Value.string) := by simpa [Function.comp_def] using h
  rcases strs_cells hs h' hv with ⟨e0, o, c, rfl⟩ | ⟨b, o, c, rfl, g1, g2, g3⟩
  · have : xs = [] := by simpa using e0
    subst this
    refine (Tryd.strings_Join_none o c (bs sep) w).mono ?_
    rintro e w' ⟨rfl, rfl⟩
    exact ⟨rfl, Kept.refl _⟩
  · have hd : (xs.map bs).map (fun x => x.data.toList) = xs := by
      rw [List.map_map]
      conv => rhs; rw [← List.map_id xs]
      exact List.map_congr_left fun x _ => rfl
    refine (Tryd.strings_Join b o c (xs.map bs) (bs sep) w g3 g2 (by simpa using hN) g1 (by rw [hd]; exact hlen)).mono ?_
    rintro e w' ⟨rfl, hb⟩
    rw [hd]
    exact ⟨rfl, Kept.below hb⟩

theorem VRel.of_scalars {m : Mp} {l : List Value} (h : ∀ v ∈ l, scalarV v = true) : VRel m (.tuple l.toArray) (.tuple l.toArray) := by
  refine .tuple rfl fun i v v' h1 h2 => ?_
  rw [h1] at h2
  injection h2 with h2
  subst h2
  have h3 : l[i]? = some v := by simpa using h1
  exact .of_scalar (h v (List.mem_of_getElem? h3)) m

theorem cut_call (hG : GOK) (s sep : List UInt8) (A : AW) (hl : s.length < 4294967281) :
    ACall Tryd.prog 19 [.string (bs s), .string (bs sep)] A fun v A' => v = .tuple #[.string (bs (Lib.cut s sep).1), .string (bs (Lib.cut s sep).2.1), .bool (Lib.cut s sep).2.2] ∧ A = A' := by
  refine ⟨by kernel_rfl, fun m w cargs hs hlr => ?_⟩
  have e := plain_args _ _ hlr (by simp [plainV])
  have ec : cargs = #[.string (bs s), .string (bs sep)] := by apply Array.ext'; exact e
  subst ec
  obtain ⟨n, hn⟩ := hG.c0
  refine (Tryd.strings_Cut (bs s) (bs sep) n w (by rw [bs_size]; exact hl) (hn w hs.laid)).mono ?_
  rintro e w' ⟨rfl, k, rfl⟩
  refine ⟨_, _, m, A, rfl, (Kept.drewN w k).evo hs, ?_, rfl, rfl⟩
  exact VRel.of_scalars (l := [.string _, .string _, .bool _]) (by simp [scalarV])

theorem split_call (hG : GOK) (s sep : List UInt8) (A : AW) (hl : s.length < 4294967281) (hsep : 1 ≤ sep.length) (hc : (Lib.split s sep).length = Lib.count s sep + 1) :
    ACall Tryd.prog 29 [.string (bs s), .string (bs sep)] A fun v A' => v = .slice (some ⟨A.next, 0, none⟩) (Lib.split s sep).length (Lib.split s sep).length ∧ A' = A.alloc (.cells ((Lib.split s sep).map fun x => Value.string (bs x)) true 1) := by
  refine ⟨by kernel_rfl, fun m w cargs hs hlr => ?_⟩
  have e := plain_args _ _ hlr (by simp [plainV])
  have ec : cargs = #[.string (bs s), .string (bs sep)] := by apply Array.ext'; exact e
  subst ec
  obtain ⟨n, hn⟩ := hG.c0
  have hd : (Lib.splitB (bs sep) 0 (Lib.countB (bs s) (bs sep)) (bs s)).map (fun x => x.data.toList) = Lib.split s sep := Lib.splitB_data _ _ _ _
  have hd2 : (Lib.splitB (bs sep) 0 (Lib.countB (bs s) (bs sep)) (bs s)).map Value.string = (Lib.split s sep).map fun x => Value.string (bs x) := by
    rw [← hd, List.map_map]
    rfl
  refine (Tryd.strings_Split (bs s) (bs sep) n w (by rw [bs_size]; exact hl) (hn w hs.laid) (by rw [bs_size]; exact hsep)).mono ?_
  rintro e w' ⟨rfl, rfl⟩
  have hcl : Lib.countB (bs s) (bs sep) + 1 = (Lib.split s sep).length := hc.symm
  rw [hcl, hd2]
  refine ⟨_, _, m.ext A.next ⟨w.heap.size, 0, 1, (Lib.split s sep).length⟩, A.alloc (.cells ((Lib.split s sep).map fun x => Value.string (bs x)) true 1), rfl, ?_, ?_, rfl, rfl⟩
  · refine Evo.freshO hs _ _ rfl rfl rfl (by simp) (fun b hb => heapAllocOld w _ b hb) (Nat.le_refl _) ?_
    refine ⟨_, _, _, heapAllocNew w _, fun _ => rfl, rfl, by simp, fun k v hv => ?_⟩
    refine ⟨v, by simpa using hv, ?_⟩
    rw [List.getElem?_map] at hv
    cases hx : (Lib.split s sep)[k]? with
    | none => rw [hx] at hv; cases hv
    | some x => rw [hx] at hv; injection hv with hv; subst hv; exact .string _
  · refine .slice (.inl ⟨rfl, rfl, ⟨w.heap.size, 0, 1, (Lib.split s sep).length⟩, ?_, rfl, rfl, ?_⟩) (Nat.le_refl _) (Nat.le_refl _)
    · simp [Mp.ext]
    · simp

/-- A new block that we know nothing of. -/
theorem evo_err {m : Mp} {A : AW} {w w' : World} (hs : Sim m A w) {N : Nat} {cells : Array Value} {t : TypeId} {fr : Nat × Nat} (hN : w.heap.size ≤ N) (hh : w'.heap[N]? = some (.cells cells t fr)) (hb : Below w.heap.size w w') :
    Evo m A w (m.ext A.next ⟨N, 0, 1, cells.size⟩) (A.alloc (.cells [] false 1)) w' := by
  refine Evo.freshO hs _ _ hb.os hb.tape hb.output hb.size (fun b h => hb.block b h) hN ?_
  exact ⟨_, _, _, hh, (fun h => by cases h), rfl, rfl, fun k v hv => by simp at hv⟩

theorem vrel_err {m : Mp} {A : AW} {N n : Nat} {k : IntKind} {z : Int} {t : TypeId} : VRel (m.ext A.next ⟨N, 0, 1, n⟩) (.tuple #[.int k z, .iface t (.pointer (some ⟨A.next, 0, none⟩))]) (.tuple #[.int k z, .iface t (.pointer (some ⟨N, 0, none⟩))]) := by
  refine .tuple rfl fun i v v' h1 h2 => ?_
  match i with
  | 0 => simp at h1 h2; subst h1; subst h2; exact .int _ _
  | 1 =>
    simp at h1 h2; subst h1; subst h2
    exact .iface _ (.ptr ⟨rfl, rfl, ⟨N, 0, 1, n⟩, by simp [Mp.ext], rfl, rfl⟩)
  | i + 2 => simp at h1

/-- An error, or none. -/
def ErrV (ok : Bool) (e : Value) : Prop := (ok = true ∧ e = .nilIface) ∨ (ok = false ∧ ∃ t v, e = .iface t v)

theorem atoi_call (hG : GOK) (s : List UInt8) (A : AW) (hl : s.length ≤ 281474976710656) :
    ACall Tryd.prog 30 [.string (bs s)] A fun v A' => ∃ e, v = .tuple #[.int .i64 (atoiV s), e] ∧ ErrV (atoiOk s) e ∧ A.le A' := by
  refine ⟨by kernel_rfl, fun m w cargs hs hlr => ?_⟩
  have e := plain_args _ _ hlr (by simp [plainV])
  have ec : cargs = #[.string (bs s)] := by apply Array.ext'; exact e
  subst ec
  unfold atoiV atoiOk
  cases h : Lib.atoiAll s with
  | ok v =>
    refine (Tryd.strconv_Atoi_ok (bs s) (by rw [bs_size]; omega) v h w).mono ?_
    rintro e w' ⟨rfl, h2⟩
    refine ⟨_, _, m, A, rfl, Kept.evo hs ?_, VRel.of_scalars (l := [.int _ _, .nilIface]) (by simp [scalarV]), ⟨_, rfl, .inl ⟨rfl, rfl⟩, AW.le.refl A⟩⟩
    rcases h2 with rfl | ⟨t, rfl⟩
    · exact Kept.refl _
    · exact Kept.below (Lib.bytesWorld_below _ _ _)
  | «syntax» =>
    obtain ⟨ev, h1, h2⟩ := hG.c2
    refine (Tryd.strconv_Atoi_syntax (bs s) (by rw [bs_size]; exact hl) h ev w (h2 w hs.laid) h1).mono ?_
    rintro e w' ⟨N, rfl, h3, h4, h5⟩
    exact ⟨_, _, _, _, rfl, evo_err hs h3 h4 h5, vrel_err, ⟨_, rfl, .inr ⟨rfl, _, _, rfl⟩, AW.le.alloc A _⟩⟩
  | range =>
    obtain ⟨ev, h1, h2⟩ := hG.c3
    refine (Tryd.strconv_Atoi_range (bs s) (by rw [bs_size]; exact hl) h ev w (h2 w hs.laid) h1).mono ?_
    rintro e w' ⟨N, rfl, h3, h4, h5⟩
    exact ⟨_, _, _, _, rfl, evo_err hs h3 h4 h5, vrel_err, ⟨_, rfl, .inr ⟨rfl, _, _, rfl⟩, AW.le.alloc A _⟩⟩

theorem uint_call (hG : GOK) (s : List UInt8) (A : AW) (hl : s.length ≤ 281474976710656) :
    ACall Tryd.prog 31 [.string (bs s), .int .i64 10, .int .i64 64] A fun v A' => ∃ e, v = .tuple #[.int .u64 (uintV s), e] ∧ ErrV (uintOk s) e ∧ A.le A' := by
  refine ⟨by kernel_rfl, fun m w cargs hs hlr => ?_⟩
  have e := plain_args _ _ hlr (by simp [plainV])
  have ec : cargs = #[.string (bs s), .int .i64 10, .int .i64 64] := by apply Array.ext'; exact e
  subst ec
  unfold uintV uintOk
  cases h : Lib.parseUintB 64 s with
  | ok v =>
    refine (Tryd.strconv_ParseUint_10_at64_ok (bs s) (by rw [bs_size]; omega) v h w).mono ?_
    rintro e w' ⟨rfl, h2⟩
    refine ⟨_, _, m, A, rfl, Kept.evo hs ?_, VRel.of_scalars (l := [.int _ _, .nilIface]) (by simp [scalarV]), ⟨_, rfl, .inl ⟨rfl, rfl⟩, AW.le.refl A⟩⟩
    rcases h2 with rfl | rfl
    · exact Kept.refl _
    · exact Kept.below (Lib.bytesWorld_below _ _ _)
  | «syntax» =>
    obtain ⟨ev, h1, h2⟩ := hG.c2
    refine (Tryd.strconv_ParseUint_10_at64_syntax (bs s) (by rw [bs_size]; exact hl) h ev w (h2 w hs.laid) h1).mono ?_
    rintro e w' ⟨N, rfl, h3, h4, h5⟩
    exact ⟨_, _, _, _, rfl, evo_err hs h3 h4 h5, vrel_err, ⟨_, rfl, .inr ⟨rfl, _, _, rfl⟩, AW.le.alloc A _⟩⟩
  | range =>
    obtain ⟨ev, h1, h2⟩ := hG.c3
    refine (Tryd.strconv_ParseUint_10_at64_range (bs s) (by rw [bs_size]; exact hl) h ev w (h2 w hs.laid) h1).mono ?_
    rintro e w' ⟨N, rfl, h3, h4, h5⟩
    exact ⟨_, _, _, _, rfl, evo_err hs h3 h4 h5, vrel_err, ⟨_, rfl, .inr ⟨rfl, _, _, rfl⟩, AW.le.alloc A _⟩⟩

end Go.Stx
