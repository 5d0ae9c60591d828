/-
 DERIVED: THE SHELF's CONTRACTS AT THIS DUMP, IN PLAIN WORDS (tools/lay-plain.mjs out of 'YtipomeafemoelaaGreatDoorShelg.lean', which tools/lay-shelf.mjs wrote): THE SAME DECLARATIONS UNDER THE SAME NAMES: 'import', 'namespace', 'open', 'def', 'theorem' AND NOTHING ELSE: no command of the shelf's: FOR A HAND-IN. Each laying: the table of numbers ('.._ren') and one theorem, a field a fact of the dump's own or the kernel's comparison; each contract: ONE APPLICATION.
-/
import Derived.Shelf.Small.Bits
import Derived.Shelf.Small.Wraps
import Derived.Shelf.Strconv.Itoa0
import Derived.Shelf.Strings.Search1
import Derived.Shelf.Strings.Search2
import Derived.Shelf.Strings.Search3
import Derived.Shelf.LaysM
import Derived.Shelf.Strings.Shaped
import Derived.Shelf.Sort.Plain
import Derived.Shelf.Slices.Turned
import Derived.Ground.Names2Prog
import Derived.Shelf.Slices.Clone
import Derived.Shelf.Slices.CompactI
import Derived.Shelf.Slices.SearchI
import Derived.Shelf.Slices.Cells
import Derived.Shelf.Slices.In.SortNone
import Derived.Ground.SlgnProg
import Derived.Shelf.SlicesE.Clone
import Derived.Test.YtipomeafemoelaaGreatDoorProg
open Go.Lib renaming compact->Zl
open Go.Proofs.Tryz renaming prog->qa,underlying24->Z4,underlying3->ZN
open Go.Value renaming int->qp
namespace Go.Proofs
open Go.Shelf
def Tryz.lays189_ren:Go.Shelf.Ren:=⟨fun|189=>241|125=>254|257=>253|128=>272|129=>273|294=>263|295=>264|296=>265|297=>266|298=>267|299=>268|216=>269|300=>270|301=>271|328=>280|329=>281|330=>282|331=>283|332=>284|215=>285|343=>287|n=>n,fun|28=>24|3=>3|46=>87|0=>0|51=>312|53=>35|4=>4|183=>306|182=>305|131=>164|5=>5|9=>9|218=>318|222=>321|228=>324|229=>210|n=>n,fun|n=>n⟩
theorem Tryz.lays189:Go.Proofs.Lays.n189 qa Tryz.lays189_ren:={
 mixed:=by kernel_rfl
 f125:=Tryz.func254.trans (congrArg some (by kernel_rfl))
 f128:=Tryz.func272.trans (congrArg some (by kernel_rfl))
 f129:=Tryz.func273.trans (congrArg some (by kernel_rfl))
 f189:=Tryz.func241.trans (congrArg some (by kernel_rfl))
 f215:=Tryz.func285.trans (congrArg some (by kernel_rfl))
 f216:=Tryz.func269.trans (congrArg some (by kernel_rfl))
 f257:=Tryz.func253.trans (congrArg some (by kernel_rfl))
 f294:=Tryz.func263.trans (congrArg some (by kernel_rfl))
 f295:=Tryz.func264.trans (congrArg some (by kernel_rfl))
 f296:=Tryz.func265.trans (congrArg some (by kernel_rfl))
 f297:=Tryz.func266.trans (congrArg some (by kernel_rfl))
 f298:=Tryz.func267.trans (congrArg some (by kernel_rfl))
 f299:=Tryz.func268.trans (congrArg some (by kernel_rfl))
 f300:=Tryz.func270.trans (congrArg some (by kernel_rfl))
 f301:=Tryz.func271.trans (congrArg some (by kernel_rfl))
 f328:=Tryz.func280.trans (congrArg some (by kernel_rfl))
 f329:=Tryz.func281.trans (congrArg some (by kernel_rfl))
 f330:=Tryz.func282.trans (congrArg some (by kernel_rfl))
 f331:=Tryz.func283.trans (congrArg some (by kernel_rfl))
 f332:=Tryz.func284.trans (congrArg some (by kernel_rfl))
 f343:=Tryz.func287.trans (congrArg some (by kernel_rfl))
 t0:=Tryz.underlying0
 a0:=Tryz.isAgg0
 z0:=Tryz.sizeOf0
 v0:=Tryz.zeroValue0
 t3:=ZN
 a3:=Tryz.isAgg3
 z3:=Tryz.sizeOf3
 v3:=Tryz.zeroValue3
 t4:=Tryz.underlying4
 a4:=Tryz.isAgg4
 z4:=Tryz.sizeOf4
 v4:=Tryz.zeroValue4
 t5:=Tryz.underlying5
 a5:=Tryz.isAgg5
 z5:=Tryz.sizeOf5
 v5:=Tryz.zeroValue5
 t9:=Tryz.underlying9
 a9:=Tryz.isAgg9
 z9:=Tryz.sizeOf9
 v9:=Tryz.zeroValue9
 t28:=Z4
 a28:=Tryz.isAgg24
 z28:=Tryz.sizeOf24
 v28:=Tryz.zeroValue24
 t46:=Tryz.underlying87
 a46:=Tryz.isAgg87
 z46:=Tryz.sizeOf87
 v46:=Tryz.zeroValue87
 t51:=Tryz.underlying312
 a51:=Tryz.isAgg312
 z51:=Tryz.sizeOf312
 v51:=Tryz.zeroValue312
 t53:=Tryz.underlying35
 a53:=Tryz.isAgg35
 z53:=Tryz.sizeOf35
 v53:=Tryz.zeroValue35
 t131:=Tryz.underlying164
 a131:=Tryz.isAgg164
 z131:=Tryz.sizeOf164
 v131:=Tryz.zeroValue164
 t182:=Tryz.underlying305
 a182:=Tryz.isAgg305
 z182:=Tryz.sizeOf305
 v182:=Tryz.zeroValue305
 t183:=Tryz.underlying306
 a183:=Tryz.isAgg306
 z183:=Tryz.sizeOf306
 v183:=Tryz.zeroValue306
 t218:=Tryz.underlying318
 a218:=Tryz.isAgg318
 z218:=Tryz.sizeOf318
 v218:=Tryz.zeroValue318
 t222:=Tryz.underlying321
 a222:=Tryz.isAgg321
 z222:=Tryz.sizeOf321
 v222:=Tryz.zeroValue321
 t228:=Tryz.underlying324
 a228:=Tryz.isAgg324
 z228:=Tryz.sizeOf324
 v228:=Tryz.zeroValue324
 t229:=Tryz.underlying210
 a229:=Tryz.isAgg210
 z229:=Tryz.sizeOf210
 v229:=Tryz.zeroValue210 }
open Go.Sort Go.RowKit in
theorem Tryz.slices_Sort_int (i9 off eA:Nat) (zs:List Int) (w:World) (hH:Holds (qp .i64) w i9 off zs.toArray) (E0:i9<w.heap.size) (vS:zs.length<4611686018427387904) :
 Calls qa 241 #[.slice (some ⟨i9,off,none⟩) zs.length eA] w λe w'=>
  e=.returned (.tuple #[])/\∃n os,w'=grow (putRow (qp .i64) (Sort.ahead w n) i9 off (zs.mergeSort λx y=>decide (x<=y)).toArray) os:=Any.slices_Sort_int Tryz.lays189 i9 off eA zs w hH E0 vS
def Tryz.laysNm220_ren:Go.Shelf.Ren:=⟨fun|20=>242|n=>n,fun|22=>24|3=>3|4=>4|0=>0|n=>n,fun|n=>n⟩
theorem Tryz.laysNm220:Go.Proofs.Lays2.n20 qa Tryz.laysNm220_ren:={
 mixed:=by kernel_rfl
 f20:=Tryz.func242.trans (congrArg some (by kernel_rfl))
 t0:=Tryz.underlying0
 a0:=Tryz.isAgg0
 z0:=Tryz.sizeOf0
 v0:=Tryz.zeroValue0
 t3:=ZN
 a3:=Tryz.isAgg3
 z3:=Tryz.sizeOf3
 v3:=Tryz.zeroValue3
 t4:=Tryz.underlying4
 a4:=Tryz.isAgg4
 z4:=Tryz.sizeOf4
 v4:=Tryz.zeroValue4
 t22:=Z4
 a22:=Tryz.isAgg24
 z22:=Tryz.sizeOf24
 v22:=Tryz.zeroValue24
 i3:=by kernel_rfl }
open Go.RowKit Go.Lib Go.Sort in
theorem Tryz.slices_Compact_int (i9 off eA:Nat) (zs:List Int) (w:World) (hH:Holds (qp .i64) w i9 off zs.toArray) (vS:zs.length<=9223372036854775807) (IY:zs.length<=eA) :
 Calls qa 242 #[.slice (some ⟨i9,off,none⟩) zs.length eA] w λe w'=>e=.returned (.slice (some ⟨i9,off,none⟩) (Zl zs).length eA)/\∃q,w'=putRow (qp .i64) (Sort.ahead w q) i9 off (Zl zs++List.replicate (zs.length-(Zl zs).length) 0).toArray:=Any.slices_Compact_int Tryz.laysNm220 i9 off eA zs w hH vS IY
open Go.RowKit Go.Lib Go.Sort in
theorem Tryz.slices_Compact_int_empty (a:Option Addr) (eA:Nat) (w:World) :
 Calls qa 242 #[.slice a 0 eA] w λe w'=>e=.returned (.slice a 0 eA)/\w'=w:=Any.slices_Compact_int_empty Tryz.laysNm220 a eA w
open Go.RowKit Go.Sort in
theorem Tryz.slices_Sort_int_none (p:Option Addr) (eA:Nat) (w:World) :
 Calls qa 241 #[.slice p 0 eA] w λe w'=>e=.returned (.tuple #[])/\w'=w:=Any.slices_Sort_int_none Tryz.lays189 p eA w
end Go.Proofs
