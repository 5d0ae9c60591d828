/-
 DERIVED: THE SHELF's CONTRACTS AT THIS DUMP, IN PLAIN WORDS (tools/lay-plain.mjs out of 'YtpealkdhmnomhaaGreatDoorShelg.lean', which tools/lay-shelf.mjs wrote): THE SAME DECLARATIONS UNDER THE SAME NAMES: 'import', 'namespace', 'open', 'def', 'theorem' AND NOTHING ELSE: no command of the shelf's: FOR A HAND-IN. Each laying: the table of numbers ('.._ren') and one theorem, a field a fact of the dump's own or the kernel's comparison; each contract: ONE APPLICATION.
-/
import Derived.Shelf.Small.Bits
import Derived.Shelf.Small.Wraps
import Derived.Shelf.Strconv.Itoa0
import Derived.Shelf.Strings.Search1
import Derived.Shelf.Strings.Search2
import Derived.Shelf.Strings.Search3
import Derived.Shelf.LaysM
import Derived.Shelf.Strings.Shaped
import Derived.Shelf.Sort.Plain
import Derived.Shelf.Slices.Turned
import Derived.Ground.Names2Prog
import Derived.Shelf.Slices.Clone
import Derived.Shelf.Slices.CompactI
import Derived.Shelf.Slices.SearchI
import Derived.Shelf.Slices.Cells
import Derived.Shelf.Slices.In.SortNone
import Derived.Ground.SlgnProg
import Derived.Shelf.SlicesE.Clone
import Derived.Test.YtpealkdhmnomhaaGreatDoorProg
open Go.Lib renaming compact->Z1
open Go.Proofs.Tryz renaming prog->qV,underlying24->kaE
open Go.Value renaming int->Zb
namespace Go.Proofs
open Go.Shelf
def Tryz.lays189_ren:Go.Shelf.Ren:=⟨fun|189=>273|125=>286|257=>285|128=>304|129=>305|294=>295|295=>296|296=>297|297=>298|298=>299|299=>300|216=>301|300=>302|301=>303|328=>312|329=>313|330=>314|331=>315|332=>316|215=>317|343=>319|n=>n,fun|28=>24|3=>3|46=>96|0=>0|51=>377|53=>35|4=>4|183=>371|182=>370|131=>229|5=>5|9=>9|218=>383|222=>386|228=>389|229=>278|n=>n,fun|n=>n⟩
theorem Tryz.lays189:Go.Proofs.Lays.n189 qV Tryz.lays189_ren:={
 mixed:=by kernel_rfl
 f125:=Tryz.func286.trans (congrArg some (by kernel_rfl))
 f128:=Tryz.func304.trans (congrArg some (by kernel_rfl))
 f129:=Tryz.func305.trans (congrArg some (by kernel_rfl))
 f189:=Tryz.func273.trans (congrArg some (by kernel_rfl))
 f215:=Tryz.func317.trans (congrArg some (by kernel_rfl))
 f216:=Tryz.func301.trans (congrArg some (by kernel_rfl))
 f257:=Tryz.func285.trans (congrArg some (by kernel_rfl))
 f294:=Tryz.func295.trans (congrArg some (by kernel_rfl))
 f295:=Tryz.func296.trans (congrArg some (by kernel_rfl))
 f296:=Tryz.func297.trans (congrArg some (by kernel_rfl))
 f297:=Tryz.func298.trans (congrArg some (by kernel_rfl))
 f298:=Tryz.func299.trans (congrArg some (by kernel_rfl))
 f299:=Tryz.func300.trans (congrArg some (by kernel_rfl))
 f300:=Tryz.func302.trans (congrArg some (by kernel_rfl))
 f301:=Tryz.func303.trans (congrArg some (by kernel_rfl))
 f328:=Tryz.func312.trans (congrArg some (by kernel_rfl))
 f329:=Tryz.func313.trans (congrArg some (by kernel_rfl))
 f330:=Tryz.func314.trans (congrArg some (by kernel_rfl))
 f331:=Tryz.func315.trans (congrArg some (by kernel_rfl))
 f332:=Tryz.func316.trans (congrArg some (by kernel_rfl))
 f343:=Tryz.func319.trans (congrArg some (by kernel_rfl))
 t0:=Tryz.underlying0
 a0:=Tryz.isAgg0
 z0:=Tryz.sizeOf0
 v0:=Tryz.zeroValue0
 t3:=Tryz.underlying3
 a3:=Tryz.isAgg3
 z3:=Tryz.sizeOf3
 v3:=Tryz.zeroValue3
 t4:=Tryz.underlying4
 a4:=Tryz.isAgg4
 z4:=Tryz.sizeOf4
 v4:=Tryz.zeroValue4
 t5:=Tryz.underlying5
 a5:=Tryz.isAgg5
 z5:=Tryz.sizeOf5
 v5:=Tryz.zeroValue5
 t9:=Tryz.underlying9
 a9:=Tryz.isAgg9
 z9:=Tryz.sizeOf9
 v9:=Tryz.zeroValue9
 t28:=kaE
 a28:=Tryz.isAgg24
 z28:=Tryz.sizeOf24
 v28:=Tryz.zeroValue24
 t46:=Tryz.underlying96
 a46:=Tryz.isAgg96
 z46:=Tryz.sizeOf96
 v46:=Tryz.zeroValue96
 t51:=Tryz.underlying377
 a51:=Tryz.isAgg377
 z51:=Tryz.sizeOf377
 v51:=Tryz.zeroValue377
 t53:=Tryz.underlying35
 a53:=Tryz.isAgg35
 z53:=Tryz.sizeOf35
 v53:=Tryz.zeroValue35
 t131:=Tryz.underlying229
 a131:=Tryz.isAgg229
 z131:=Tryz.sizeOf229
 v131:=Tryz.zeroValue229
 t182:=Tryz.underlying370
 a182:=Tryz.isAgg370
 z182:=Tryz.sizeOf370
 v182:=Tryz.zeroValue370
 t183:=Tryz.underlying371
 a183:=Tryz.isAgg371
 z183:=Tryz.sizeOf371
 v183:=Tryz.zeroValue371
 t218:=Tryz.underlying383
 a218:=Tryz.isAgg383
 z218:=Tryz.sizeOf383
 v218:=Tryz.zeroValue383
 t222:=Tryz.underlying386
 a222:=Tryz.isAgg386
 z222:=Tryz.sizeOf386
 v222:=Tryz.zeroValue386
 t228:=Tryz.underlying389
 a228:=Tryz.isAgg389
 z228:=Tryz.sizeOf389
 v228:=Tryz.zeroValue389
 t229:=Tryz.underlying278
 a229:=Tryz.isAgg278
 z229:=Tryz.sizeOf278
 v229:=Tryz.zeroValue278 }
open Go.Sort Go.RowKit in
theorem Tryz.slices_Sort_int (jz off eV:Nat) (zs:List Int) (w:World) (hH:Holds (Zb .i64) w jz off zs.toArray) (G4:jz<w.heap.size) (xQ:zs.length<4611686018427387904) :
 Calls qV 273 #[.slice (some ⟨jz,off,none⟩) zs.length eV] w λe w'=>
  e=.returned (.tuple #[])/\∃n os,w'=grow (putRow (Zb .i64) (Sort.ahead w n) jz off (zs.mergeSort λx y=>decide (x<=y)).toArray) os:=Any.slices_Sort_int Tryz.lays189 jz off eV zs w hH G4 xQ
def Tryz.laysNm220_ren:Go.Shelf.Ren:=⟨fun|20=>274|n=>n,fun|22=>24|3=>3|4=>4|0=>0|n=>n,fun|n=>n⟩
theorem Tryz.laysNm220:Go.Proofs.Lays2.n20 qV Tryz.laysNm220_ren:={
 mixed:=by kernel_rfl
 f20:=Tryz.func274.trans (congrArg some (by kernel_rfl))
 t0:=Tryz.underlying0
 a0:=Tryz.isAgg0
 z0:=Tryz.sizeOf0
 v0:=Tryz.zeroValue0
 t3:=Tryz.underlying3
 a3:=Tryz.isAgg3
 z3:=Tryz.sizeOf3
 v3:=Tryz.zeroValue3
 t4:=Tryz.underlying4
 a4:=Tryz.isAgg4
 z4:=Tryz.sizeOf4
 v4:=Tryz.zeroValue4
 t22:=kaE
 a22:=Tryz.isAgg24
 z22:=Tryz.sizeOf24
 v22:=Tryz.zeroValue24
 i3:=by kernel_rfl }
open Go.RowKit Go.Lib Go.Sort in
theorem Tryz.slices_Compact_int (jz off eV:Nat) (zs:List Int) (w:World) (hH:Holds (Zb .i64) w jz off zs.toArray) (xQ:zs.length<=9223372036854775807) (Lx:zs.length<=eV) :
 Calls qV 274 #[.slice (some ⟨jz,off,none⟩) zs.length eV] w λe w'=>e=.returned (.slice (some ⟨jz,off,none⟩) (Z1 zs).length eV)/\∃q,w'=putRow (Zb .i64) (Sort.ahead w q) jz off (Z1 zs++List.replicate (zs.length-(Z1 zs).length) 0).toArray:=Any.slices_Compact_int Tryz.laysNm220 jz off eV zs w hH xQ Lx
open Go.RowKit Go.Lib Go.Sort in
theorem Tryz.slices_Compact_int_empty (a:Option Addr) (eV:Nat) (w:World) :
 Calls qV 274 #[.slice a 0 eV] w λe w'=>e=.returned (.slice a 0 eV)/\w'=w:=Any.slices_Compact_int_empty Tryz.laysNm220 a eV w
open Go.RowKit Go.Sort in
theorem Tryz.slices_Sort_int_none (p:Option Addr) (eV:Nat) (w:World) :
 Calls qV 273 #[.slice p 0 eV] w λe w'=>e=.returned (.tuple #[])/\w'=w:=Any.slices_Sort_int_none Tryz.lays189 p eV w
end Go.Proofs
