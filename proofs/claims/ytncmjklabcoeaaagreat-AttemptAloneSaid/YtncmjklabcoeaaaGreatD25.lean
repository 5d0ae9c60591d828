/-
 The reference's machines: entering, taking a turn, lists of blocks, reading.
-/
import Derived.Test.YtncmjklabcoeaaaGreatD15
import Derived.Test.YtncmjklabcoeaaaGreatD11
set_option linter.unusedVariables false
set_option linter.unusedSimpArgs false
set_option maxRecDepth 20000
set_option maxHeartbeats 4000000
namespace Go.Stx
open Go Go.Proofs
attribute [local irreducible] TW hN fj cm aH bB dK ei
open T5
def eY (s:dC):ef:=.cells [.int .i64 s.ag,.int .i64 s.cj,.int .i64 s.kc] true 1
def iy (s:fL):ef:=.cells [.int .i64 s.eo,.bool s.done] true 1
def kQ (s:mN):ef:=.cells [.int .i64 s.dB,.int .i64 s.cj,.int .u64 s.eP,.int .u64 s.next,.int .i64 s.block] true 1
def gj (s:kM):ef:=.cells [.int .i64 s.dB,.int .i64 s.block,.int .i64 s.cj,.int .u64 s.eP] true 1
def dY.Bo (s:dY):Int:=if s.cj=3∧s.du=true then 4 else s.cj
def gA (s:dY):ef:=.cells [.int .i64 s.cA,.int .i64 s.dl,.int .i64 s.rv,.int .i64 s.Bo,.int .u64 s.d8,.int .u64 s.value] true 1
theorem Bd (A:AW):aH Tryz.prog 200 [] A (fun v A'=>v=.pointer (some ⟨A.next,0,none⟩)∧A'=A.alloc (iy ⟨false,0,false⟩)):=by
 refine ab Tryz.func200 rfl (by kernel_rfl) fun _=>?_
 refine W trivial trivial (J1 ?_)<;>unhygienic intros
 exact⟨_,rfl,rfl,rfl⟩
theorem Bf (c k:Int) (A:AW):aH Tryz.prog 244 [.int .i64 c,.int .i64 k] A (fun v A'=>v=.pointer (some ⟨A.next,0,none⟩)∧A'=A.alloc (gj ⟨c,k,0,0⟩)):=by
 refine ab Tryz.func244 rfl (by kernel_rfl) fun _=>?_
 refine W trivial trivial (J1 ?_)<;>unhygienic intros
 exact⟨_,rfl,rfl,rfl⟩
theorem Be (a o r:Int) (A:AW):aH Tryz.prog 235 [.int .i64 a,.int .i64 o,.int .i64 r] A (fun v A'=>v=.pointer (some ⟨A.next,0,none⟩)∧A'=A.alloc (gA ⟨a,o,r,0,0,0,false⟩)):=by
 refine ab Tryz.func235 rfl (by kernel_rfl) fun _=>?_
 refine W trivial trivial (J1 ?_)<;>unhygienic intros
 exact⟨_,rfl,rfl,rfl⟩
end Go.Stx
