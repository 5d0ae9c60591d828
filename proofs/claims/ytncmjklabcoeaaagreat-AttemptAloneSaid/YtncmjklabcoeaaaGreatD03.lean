/-
 The words of the cells: the program's functions and the reference's compute the same.
-/
import Derived.Test.YtncmjklabcoeaaaGreatD01
set_option linter.unusedVariables false
set_option linter.unusedSimpArgs false
set_option maxRecDepth 20000
set_option maxHeartbeats 4000000
namespace Go.Stx
open Go Go.Proofs
attribute [local irreducible] fj cm aH bB dK ei
open T0
def gN (v:Int):Int:=if 0≤v∧v≤1099511627776 then v*64 else 0
def Cm (v t:Int):Int:=if (0≤v∧v≤1099511627776)∧0≤t∧t<16 then v*64+t+1 else 0
def ge (o:Int):Int:=IntKind.i64.wrap (IntKind.u64.wrap (o.tdiv 64))
def iF (o:Int):Int:=IntKind.i64.wrap (IntKind.i64.wrap (o.tmod 64)-1)
def mK (Jf AG:Int):Int:=if 0≤Jf∧Jf<281474976710656∧-1≤AG∧AG<64 then Jf*65536+(AG+1) else 0
def G4 (h:Int):Int:=IntKind.i64.wrap (IntKind.u64.wrap (h.tdiv 65536))
def iu (h:Int):Int:=IntKind.i64.wrap (IntKind.i64.wrap (h.tmod 65536)-1)
def lV (h AG:Int):Int:=mK ((IntKind.i64.wrap (G4 h+1)).tmod 281474976710656) AG
theorem Cc (v:Int) (A:AW):aH Tryz.prog 229 [.int .i64 v] A (fun u A'=>u=.bool (decide (0≤v∧v≤1099511627776))∧A=A'):=by
 refine ab Tryz.func229 rfl (by kernel_rfl) fun hw=>?_
 revert hw;refine W trivial trivial (J2 ?_ ?_)<;>unhygienic intros
 all_goals(simp_all<;>omega)
theorem Hs (v:Int) (A:AW):aH Tryz.prog 154 [.int .i64 v] A (fun u A'=>(∃e,u=.tuple #[.int .u64 (gN v),.int .i64 e])∧A=A'):=by
 refine ab Tryz.func154 rfl (by kernel_rfl) fun hw=>?_
 by_cases h1:0≤v∧v≤1099511627776
 · revert hw;refine W (J1 @Cc) (J1 h1) (J1 ?_)<;>(intros;rename_i hw)
   all_goals exact⟨_,by first|(simp;done)|(simp;rfl),⟨_,by simp [gN,h1];first|done|rfl⟩,rfl⟩
 · revert hw;refine W (J1 @Cc) (J1 h1) (J1 ?_)<;>unhygienic intros
   all_goals exact⟨_,by first|(simp;done)|(simp;rfl),⟨_,by simp [gN,h1];first|done|rfl⟩,rfl⟩
theorem th (o:Int) (A:AW):aH Tryz.prog 220 [.int .u64 o] A (fun v A'=>v=.int .i64 (ge o)∧A=A'):=by
 refine ab Tryz.func220 rfl (by kernel_rfl) fun hw=>?_
 revert hw;refine W trivial trivial (J1 ?_)<;>unhygienic intros
 simp [ge]
theorem uw (o:Int) (A:AW):aH Tryz.prog 219 [.int .u64 o] A (fun v A'=>v=.int .i64 (iF o)∧A=A'):=by
 refine ab Tryz.func219 rfl (by kernel_rfl) fun hw=>?_
 revert hw;refine W trivial trivial (J1 ?_)<;>unhygienic intros
 simp [iF]
theorem cu (Jf AG:Int) (A:AW):aH Tryz.prog 217 [.int .i64 Jf,.int .i64 AG] A (fun u A'=>(∃e,u=.tuple #[.int .u64 (mK Jf AG),.int .i64 e])∧A=A'):=by
 refine ab Tryz.func217 rfl (by kernel_rfl) fun hw=>?_
 by_cases h1:0≤Jf<;>by_cases h2:Jf<281474976710656<;>by_cases h3:-1≤AG<;>by_cases h4:AG<64
 all_goals
  all_goals(revert hw;refine W trivial (J4 h1 h2 h3 h4) (J9 ?_ ?_ ?_ ?_ ?_ ?_ ?_ ?_ ?_)<;>(try exact trivial)<;>unhygienic intros)
  all_goals exact⟨_,by first|(simp;done)|(simp;rfl),⟨_,by simp [mK,h1,h2,h3,h4];first|done|rfl⟩,rfl⟩
theorem Jw (h:Int) (A:AW):aH Tryz.prog 246 [.int .u64 h] A (fun v A'=>v=.int .i64 (G4 h)∧A=A'):=by
 refine ab Tryz.func246 rfl (by kernel_rfl) fun hw=>?_
 revert hw;refine W trivial trivial (J1 ?_)<;>unhygienic intros
 simp [G4]
theorem Cd (h:Int) (A:AW):aH Tryz.prog 223 [.int .u64 h] A (fun v A'=>v=.int .i64 (iu h)∧A=A'):=by
 refine ab Tryz.func223 rfl (by kernel_rfl) fun hw=>?_
 revert hw;refine W trivial trivial (J1 ?_)<;>unhygienic intros
 simp [iu]
theorem yZ (h AG:Int) (A:AW):aH Tryz.prog 224 [.int .u64 h,.int .i64 AG] A (fun u A'=>(∃e,u=.tuple #[.int .u64 (lV h AG),.int .i64 e])∧A=A'):=by
 refine ab Tryz.func224 rfl (by kernel_rfl) fun hw=>?_
 revert hw;refine W (J1 @Jw) trivial (J1 ?_)<;>unhygienic intros
 refine bD (cu _ _ _) ?_
 rintro _ _ ⟨⟨e,rfl⟩,rfl⟩ _ _
 revert hw;(repeat first|clear hw|revert hc|revert zn|revert zA|revert R|revert K);refine W trivial trivial (J1 ?_)<;>unhygienic intros
 exact⟨_,by first|(simp;done)|(simp;rfl),⟨e,by simp [lV]⟩,rfl⟩
theorem pW (v:Int) (A:AW):aH Tryz.prog 63 [.int .i64 v] A (fun u A'=>u=.bool (decide (0≤v∧v≤1099511627776))∧A=A'):=by
 refine ab Tryz.func63 rfl (by kernel_rfl) fun hw=>?_
 revert hw;refine W trivial trivial (J2 ?_ ?_)<;>unhygienic intros
 all_goals(simp_all<;>omega)
theorem Hl (v:Int) (A:AW):aH Tryz.prog 18 [.int .i64 v] A (fun u A'=>(∃e,u=.tuple #[.int .u64 (gN v),.int .i64 e])∧A=A'):=by
 refine ab Tryz.func18 rfl (by kernel_rfl) fun hw=>?_
 by_cases h1:0≤v∧v≤1099511627776
 · revert hw;refine W (J1 @pW) (J1 h1) (J1 ?_)<;>(intros;rename_i hw)
   all_goals exact⟨_,by first|(simp;done)|(simp;rfl),⟨_,by simp [gN,h1];first|done|rfl⟩,rfl⟩
 · revert hw;refine W (J1 @pW) (J1 h1) (J1 ?_)<;>unhygienic intros
   all_goals exact⟨_,by first|(simp;done)|(simp;rfl),⟨_,by simp [gN,h1];first|done|rfl⟩,rfl⟩
theorem Hj (v t:Int) (A:AW):aH Tryz.prog 199 [.int .i64 v,.int .i64 t] A (fun u A'=>(∃e,u=.tuple #[.int .u64 (Cm v t),.int .i64 e])∧A=A'):=by
 refine ab Tryz.func199 rfl (by kernel_rfl) fun hw=>?_
 by_cases h1:0≤v∧v≤1099511627776<;>by_cases h2:0≤t<;>by_cases h3:t<16
 all_goals
  all_goals(revert hw;refine W (J1 @pW) (J3 h1 h2 h3) (J6 ?_ ?_ ?_ ?_ ?_ ?_)<;>(try exact trivial)<;>unhygienic intros)
  all_goals exact⟨_,by first|(simp;done)|(simp;rfl),⟨_,by simp [Cm,h1,h2,h3];first|done|rfl⟩,rfl⟩
theorem pB (o:Int) (A:AW):aH Tryz.prog 193 [.int .u64 o] A (fun v A'=>v=.int .i64 (ge o)∧A=A'):=by
 refine ab Tryz.func193 rfl (by kernel_rfl) fun hw=>?_
 revert hw;refine W trivial trivial (J1 ?_)<;>unhygienic intros
 simp [ge]
theorem uk (o:Int) (A:AW):aH Tryz.prog 192 [.int .u64 o] A (fun v A'=>v=.int .i64 (iF o)∧A=A'):=by
 refine ab Tryz.func192 rfl (by kernel_rfl) fun hw=>?_
 revert hw;refine W trivial trivial (J1 ?_)<;>unhygienic intros
 simp [iF]
end Go.Stx
