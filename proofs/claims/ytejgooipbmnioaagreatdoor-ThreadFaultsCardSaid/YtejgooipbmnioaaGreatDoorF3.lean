/-
 DERIVED: THE SHELF's CONTRACTS AT THIS DUMP, IN PLAIN WORDS (tools/lay-plain.mjs out of 'YtejgooipbmnioaaGreatDoorShelg.lean', which tools/lay-shelf.mjs wrote): THE SAME DECLARATIONS UNDER THE SAME NAMES: 'import', 'namespace', 'open', 'def', 'theorem' AND NOTHING ELSE: no command of the shelf's: FOR A HAND-IN. Each laying: the table of numbers ('.._ren') and one theorem, a field a fact of the dump's own or the kernel's comparison; each contract: ONE APPLICATION.
-/
import Derived.Shelf.Strconv.Itoa0
import Derived.Shelf.Strings.Search1
import Derived.Shelf.Strings.Search2
import Derived.Shelf.Strings.Search3
import Derived.Shelf.LaysM
import Derived.Shelf.Strings.Shaped
import Derived.Shelf.Sort.Plain
import Derived.Ground.Names2Prog
import Derived.Shelf.Slices.Clone
import Derived.Shelf.Slices.CompactI
import Derived.Shelf.Slices.SearchI
import Derived.Shelf.Slices.Cells
import Derived.Shelf.Slices.In.SortNone
import Derived.Ground.SlgnProg
import Derived.Shelf.SlicesE.Clone
import Derived.Test.YtejgooipbmnioaaGreatDoorProg
namespace Go.Proofs
open Go.Shelf
def Tryz.lays189_ren:Go.Shelf.Ren:=⟨fun|189=>291|125=>304|257=>303|128=>322|129=>323|294=>313|295=>314|296=>315|297=>316|298=>317|299=>318|216=>319|300=>320|301=>321|328=>330|329=>331|330=>332|331=>333|332=>334|215=>335|343=>337|n=>n,fun|28=>23|3=>3|46=>108|0=>0|51=>394|53=>45|4=>4|183=>388|182=>387|131=>176|5=>5|9=>9|218=>400|222=>403|228=>406|229=>255|n=>n,fun|n=>n⟩
theorem Tryz.lays189:Go.Proofs.Lays.n189 Tryz.prog Tryz.lays189_ren:={
 mixed:=by kernel_rfl
 f125:=Tryz.func304.trans (congrArg some (by kernel_rfl))
 f128:=Tryz.func322.trans (congrArg some (by kernel_rfl))
 f129:=Tryz.func323.trans (congrArg some (by kernel_rfl))
 f189:=Tryz.func291.trans (congrArg some (by kernel_rfl))
 f215:=Tryz.func335.trans (congrArg some (by kernel_rfl))
 f216:=Tryz.func319.trans (congrArg some (by kernel_rfl))
 f257:=Tryz.func303.trans (congrArg some (by kernel_rfl))
 f294:=Tryz.func313.trans (congrArg some (by kernel_rfl))
 f295:=Tryz.func314.trans (congrArg some (by kernel_rfl))
 f296:=Tryz.func315.trans (congrArg some (by kernel_rfl))
 f297:=Tryz.func316.trans (congrArg some (by kernel_rfl))
 f298:=Tryz.func317.trans (congrArg some (by kernel_rfl))
 f299:=Tryz.func318.trans (congrArg some (by kernel_rfl))
 f300:=Tryz.func320.trans (congrArg some (by kernel_rfl))
 f301:=Tryz.func321.trans (congrArg some (by kernel_rfl))
 f328:=Tryz.func330.trans (congrArg some (by kernel_rfl))
 f329:=Tryz.func331.trans (congrArg some (by kernel_rfl))
 f330:=Tryz.func332.trans (congrArg some (by kernel_rfl))
 f331:=Tryz.func333.trans (congrArg some (by kernel_rfl))
 f332:=Tryz.func334.trans (congrArg some (by kernel_rfl))
 f343:=Tryz.func337.trans (congrArg some (by kernel_rfl))
 t0:=Tryz.underlying0
 a0:=Tryz.isAgg0
 z0:=Tryz.sizeOf0
 v0:=Tryz.zeroValue0
 t3:=Tryz.underlying3
 a3:=Tryz.isAgg3
 z3:=Tryz.sizeOf3
 v3:=Tryz.zeroValue3
 t4:=Tryz.underlying4
 a4:=Tryz.isAgg4
 z4:=Tryz.sizeOf4
 v4:=Tryz.zeroValue4
 t5:=Tryz.underlying5
 a5:=Tryz.isAgg5
 z5:=Tryz.sizeOf5
 v5:=Tryz.zeroValue5
 t9:=Tryz.underlying9
 a9:=Tryz.isAgg9
 z9:=Tryz.sizeOf9
 v9:=Tryz.zeroValue9
 t28:=Tryz.underlying23
 a28:=Tryz.isAgg23
 z28:=Tryz.sizeOf23
 v28:=Tryz.zeroValue23
 t46:=Tryz.underlying108
 a46:=Tryz.isAgg108
 z46:=Tryz.sizeOf108
 v46:=Tryz.zeroValue108
 t51:=Tryz.underlying394
 a51:=Tryz.isAgg394
 z51:=Tryz.sizeOf394
 v51:=Tryz.zeroValue394
 t53:=Tryz.underlying45
 a53:=Tryz.isAgg45
 z53:=Tryz.sizeOf45
 v53:=Tryz.zeroValue45
 t131:=Tryz.underlying176
 a131:=Tryz.isAgg176
 z131:=Tryz.sizeOf176
 v131:=Tryz.zeroValue176
 t182:=Tryz.underlying387
 a182:=Tryz.isAgg387
 z182:=Tryz.sizeOf387
 v182:=Tryz.zeroValue387
 t183:=Tryz.underlying388
 a183:=Tryz.isAgg388
 z183:=Tryz.sizeOf388
 v183:=Tryz.zeroValue388
 t218:=Tryz.underlying400
 a218:=Tryz.isAgg400
 z218:=Tryz.sizeOf400
 v218:=Tryz.zeroValue400
 t222:=Tryz.underlying403
 a222:=Tryz.isAgg403
 z222:=Tryz.sizeOf403
 v222:=Tryz.zeroValue403
 t228:=Tryz.underlying406
 a228:=Tryz.isAgg406
 z228:=Tryz.sizeOf406
 v228:=Tryz.zeroValue406
 t229:=Tryz.underlying255
 a229:=Tryz.isAgg255
 z229:=Tryz.sizeOf255
 v229:=Tryz.zeroValue255 }
open Go.Sort Go.RowKit in
theorem Tryz.slices_Sort_int (iD off ew:Nat) (zs:List Int) (w:World) (hH:Holds (Value.int .i64) w iD off zs.toArray) (VO:iD<w.heap.size) (qF:zs.length<4611686018427387904) :
 Calls Tryz.prog 291 #[.slice (some ⟨iD,off,none⟩) zs.length ew] w fun e w'=>
  e=.returned (.tuple #[])∧∃n os,w'=grow (putRow (Value.int .i64) (Sort.ahead w n) iD off (zs.mergeSort fun x y=>decide (x≤y)).toArray) os:=Any.slices_Sort_int Tryz.lays189 iD off ew zs w hH VO qF
def Tryz.laysNm220_ren:Go.Shelf.Ren:=⟨fun|20=>292|n=>n,fun|22=>23|3=>3|4=>4|0=>0|n=>n,fun|n=>n⟩
theorem Tryz.laysNm220:Go.Proofs.Lays2.n20 Tryz.prog Tryz.laysNm220_ren:={
 mixed:=by kernel_rfl
 f20:=Tryz.func292.trans (congrArg some (by kernel_rfl))
 t0:=Tryz.underlying0
 a0:=Tryz.isAgg0
 z0:=Tryz.sizeOf0
 v0:=Tryz.zeroValue0
 t3:=Tryz.underlying3
 a3:=Tryz.isAgg3
 z3:=Tryz.sizeOf3
 v3:=Tryz.zeroValue3
 t4:=Tryz.underlying4
 a4:=Tryz.isAgg4
 z4:=Tryz.sizeOf4
 v4:=Tryz.zeroValue4
 t22:=Tryz.underlying23
 a22:=Tryz.isAgg23
 z22:=Tryz.sizeOf23
 v22:=Tryz.zeroValue23
 i3:=by kernel_rfl }
open Go.RowKit Go.Lib Go.Sort in
theorem Tryz.slices_Compact_int (iD off ew:Nat) (zs:List Int) (w:World) (hH:Holds (Value.int .i64) w iD off zs.toArray) (qF:zs.length≤9223372036854775807) (CU:zs.length≤ew) :
 Calls Tryz.prog 292 #[.slice (some ⟨iD,off,none⟩) zs.length ew] w fun e w'=>e=.returned (.slice (some ⟨iD,off,none⟩) (Lib.compact zs).length ew)∧∃q,w'=putRow (Value.int .i64) (Sort.ahead w q) iD off (Lib.compact zs++List.replicate (zs.length-(Lib.compact zs).length) 0).toArray:=Any.slices_Compact_int Tryz.laysNm220 iD off ew zs w hH qF CU
open Go.RowKit Go.Lib Go.Sort in
theorem Tryz.slices_Compact_int_empty (a:Option Addr) (ew:Nat) (w:World) :
 Calls Tryz.prog 292 #[.slice a 0 ew] w fun e w'=>e=.returned (.slice a 0 ew)∧w'=w:=Any.slices_Compact_int_empty Tryz.laysNm220 a ew w
open Go.RowKit Go.Sort in
theorem Tryz.slices_Sort_int_none (p:Option Addr) (ew:Nat) (w:World) :
 Calls Tryz.prog 291 #[.slice p 0 ew] w fun e w'=>e=.returned (.tuple #[])∧w'=w:=Any.slices_Sort_int_none Tryz.lays189 p ew w
end Go.Proofs
