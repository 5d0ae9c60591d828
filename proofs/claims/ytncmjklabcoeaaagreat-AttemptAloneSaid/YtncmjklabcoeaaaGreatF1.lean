/-
  DERIVED: THE SHELF's CONTRACTS AT THIS DUMP, IN PLAIN WORDS (tools/lay-plain.mjs out of 'YtncmjklabcoeaaaGreatShelf.lean', which tools/lay-shelf.mjs wrote): THE SAME DECLARATIONS UNDER THE SAME NAMES: 'import', 'namespace', 'open', 'def', 'theorem' AND NOTHING ELSE: no command of the shelf's: FOR A HAND-IN. Each laying: the table of numbers ('.._ren') and one theorem, a field a fact of the dump's own or the kernel's comparison; each contract: ONE APPLICATION.
-/
import Derived.Shelf.Sort.Plain
import Derived.Ground.Names2Prog
import Derived.Shelf.Slices.Clone
import Derived.Shelf.Slices.CompactI
import Derived.Shelf.Slices.In.SortNone
import Derived.Test.YtncmjklabcoeaaaGreatProg
namespace Go.Proofs
open Go.Shelf
def Tryz.lays189_ren:Go.Shelf.Ren:=⟨fun|189=>231|125=>250|257=>249|128=>261|129=>262|294=>252|295=>253|296=>254|297=>255|298=>256|299=>257|216=>258|300=>259|301=>260|328=>263|329=>264|330=>265|331=>266|332=>267|215=>268|343=>269|n=>n,fun|28=>72|3=>3|46=>114|0=>0|51=>246|53=>45|4=>4|183=>239|182=>238|131=>243|5=>5|9=>9|218=>247|222=>250|228=>252|229=>225|n=>n,fun|n=>n⟩
theorem Tryz.lays189:Go.Proofs.Lays.n189 Tryz.prog Tryz.lays189_ren:={
 mixed:=by kernel_rfl
 f125:=Tryz.func250.trans (congrArg some (by kernel_rfl))
 f128:=Tryz.func261.trans (congrArg some (by kernel_rfl))
 f129:=Tryz.func262.trans (congrArg some (by kernel_rfl))
 f189:=Tryz.func231.trans (congrArg some (by kernel_rfl))
 f215:=Tryz.func268.trans (congrArg some (by kernel_rfl))
 f216:=Tryz.func258.trans (congrArg some (by kernel_rfl))
 f257:=Tryz.func249.trans (congrArg some (by kernel_rfl))
 f294:=Tryz.func252.trans (congrArg some (by kernel_rfl))
 f295:=Tryz.func253.trans (congrArg some (by kernel_rfl))
 f296:=Tryz.func254.trans (congrArg some (by kernel_rfl))
 f297:=Tryz.func255.trans (congrArg some (by kernel_rfl))
 f298:=Tryz.func256.trans (congrArg some (by kernel_rfl))
 f299:=Tryz.func257.trans (congrArg some (by kernel_rfl))
 f300:=Tryz.func259.trans (congrArg some (by kernel_rfl))
 f301:=Tryz.func260.trans (congrArg some (by kernel_rfl))
 f328:=Tryz.func263.trans (congrArg some (by kernel_rfl))
 f329:=Tryz.func264.trans (congrArg some (by kernel_rfl))
 f330:=Tryz.func265.trans (congrArg some (by kernel_rfl))
 f331:=Tryz.func266.trans (congrArg some (by kernel_rfl))
 f332:=Tryz.func267.trans (congrArg some (by kernel_rfl))
 f343:=Tryz.func269.trans (congrArg some (by kernel_rfl))
 t0:=Tryz.underlying0
 a0:=Tryz.isAgg0
 z0:=Tryz.sizeOf0
 v0:=Tryz.zeroValue0
 t3:=Tryz.underlying3
 a3:=Tryz.isAgg3
 z3:=Tryz.sizeOf3
 v3:=Tryz.zeroValue3
 t4:=Tryz.underlying4
 a4:=Tryz.isAgg4
 z4:=Tryz.sizeOf4
 v4:=Tryz.zeroValue4
 t5:=Tryz.underlying5
 a5:=Tryz.isAgg5
 z5:=Tryz.sizeOf5
 v5:=Tryz.zeroValue5
 t9:=Tryz.underlying9
 a9:=Tryz.isAgg9
 z9:=Tryz.sizeOf9
 v9:=Tryz.zeroValue9
 t28:=Tryz.underlying72
 a28:=Tryz.isAgg72
 z28:=Tryz.sizeOf72
 v28:=Tryz.zeroValue72
 t46:=Tryz.underlying114
 a46:=Tryz.isAgg114
 z46:=Tryz.sizeOf114
 v46:=Tryz.zeroValue114
 t51:=Tryz.underlying246
 a51:=Tryz.isAgg246
 z51:=Tryz.sizeOf246
 v51:=Tryz.zeroValue246
 t53:=Tryz.underlying45
 a53:=Tryz.isAgg45
 z53:=Tryz.sizeOf45
 v53:=Tryz.zeroValue45
 t131:=Tryz.underlying243
 a131:=Tryz.isAgg243
 z131:=Tryz.sizeOf243
 v131:=Tryz.zeroValue243
 t182:=Tryz.underlying238
 a182:=Tryz.isAgg238
 z182:=Tryz.sizeOf238
 v182:=Tryz.zeroValue238
 t183:=Tryz.underlying239
 a183:=Tryz.isAgg239
 z183:=Tryz.sizeOf239
 v183:=Tryz.zeroValue239
 t218:=Tryz.underlying247
 a218:=Tryz.isAgg247
 z218:=Tryz.sizeOf247
 v218:=Tryz.zeroValue247
 t222:=Tryz.underlying250
 a222:=Tryz.isAgg250
 z222:=Tryz.sizeOf250
 v222:=Tryz.zeroValue250
 t228:=Tryz.underlying252
 a228:=Tryz.isAgg252
 z228:=Tryz.sizeOf252
 v228:=Tryz.zeroValue252
 t229:=Tryz.underlying225
 a229:=Tryz.isAgg225
 z229:=Tryz.sizeOf225
 v229:=Tryz.zeroValue225 }
open Go.Sort Go.RowKit in
theorem Tryz.slices_Sort_int (gi off dA:Nat) (zs:List Int) (w:World) (hH:Holds (Value.int .i64) w gi off zs.toArray) (JO:gi<w.heap.size) (rq:zs.length<4611686018427387904) :
 Calls Tryz.prog 231 #[.slice (some ⟨gi,off,none⟩) zs.length dA] w fun e w'=>
  e=.returned (.tuple #[])∧∃n os,w'=grow (putRow (Value.int .i64) (Sort.ahead w n) gi off (zs.mergeSort fun x y=>decide (x≤y)).toArray) os:=Any.slices_Sort_int Tryz.lays189 gi off dA zs w hH JO rq
def Tryz.laysNm220_ren:Go.Shelf.Ren:=⟨fun|20=>232|n=>n,fun|22=>72|3=>3|4=>4|0=>0|n=>n,fun|n=>n⟩
theorem Tryz.laysNm220:Go.Proofs.Lays2.n20 Tryz.prog Tryz.laysNm220_ren:={
 mixed:=by kernel_rfl
 f20:=Tryz.func232.trans (congrArg some (by kernel_rfl))
 t0:=Tryz.underlying0
 a0:=Tryz.isAgg0
 z0:=Tryz.sizeOf0
 v0:=Tryz.zeroValue0
 t3:=Tryz.underlying3
 a3:=Tryz.isAgg3
 z3:=Tryz.sizeOf3
 v3:=Tryz.zeroValue3
 t4:=Tryz.underlying4
 a4:=Tryz.isAgg4
 z4:=Tryz.sizeOf4
 v4:=Tryz.zeroValue4
 t22:=Tryz.underlying72
 a22:=Tryz.isAgg72
 z22:=Tryz.sizeOf72
 v22:=Tryz.zeroValue72
 i3:=by kernel_rfl }
open Go.RowKit Go.Lib Go.Sort in
/-- slices.Compact at []int: "Compact replaces consecutive runs of equal elements with a single copy. This is like the uniq command found on Unix. Compact modifies the contents of the slice s and returns the modified slice, which may have a smaller length. Compact zeroes the elements between the new length and the original length. The result preserves the nilness of s.": IT RETURNS THE SLICE CUT TO 'Lib.compact zs';ITS CELLS HOLD 'Lib.compact zs',THEN ZERO VALUES up to the old length;all else is as it was,but for the count of draws. IN THE WORDS OF slices.Sort's CONTRACT ('Holds','putRow'): so the everyday 'slices.Sort(xs);xs=slices.Compact(xs)' goes from the one contract to the other. It asks 'zs.length≤cap' (every slice's: the reslicing 's[:k]' looks at it). Length 0,nil: '.._empty'. (LAID: no walk: one application.) -/
theorem Tryz.slices_Compact_int (gi off dA:Nat) (zs:List Int) (w:World) (hH:Holds (Value.int .i64) w gi off zs.toArray) (rq:zs.length≤9223372036854775807) (k6:zs.length≤dA) :
 Calls Tryz.prog 232 #[.slice (some ⟨gi,off,none⟩) zs.length dA] w fun e w'=>e=.returned (.slice (some ⟨gi,off,none⟩) (Lib.compact zs).length dA)∧∃q,w'=putRow (Value.int .i64) (Sort.ahead w q) gi off (Lib.compact zs++List.replicate (zs.length-(Lib.compact zs).length) 0).toArray:=Any.slices_Compact_int Tryz.laysNm220 gi off dA zs w hH rq k6
open Go.RowKit Go.Lib Go.Sort in
/-- The same at a slice of length 0,a nil one too: it comes back as it is. (LAID: no walk: one application.) -/
theorem Tryz.slices_Compact_int_empty (a:Option Addr) (dA:Nat) (w:World) :
 Calls Tryz.prog 232 #[.slice a 0 dA] w fun e w'=>e=.returned (.slice a 0 dA)∧w'=w:=Any.slices_Compact_int_empty Tryz.laysNm220 a dA w
open Go.RowKit Go.Sort in
/-- .. and plain. (LAID: no walk: one application.) -/
theorem Tryz.slices_Sort_int_none (p:Option Addr) (dA:Nat) (w:World) :
 Calls Tryz.prog 231 #[.slice p 0 dA] w fun e w'=>e=.returned (.tuple #[])∧w'=w:=Any.slices_Sort_int_none Tryz.lays189 p dA w
end Go.Proofs
