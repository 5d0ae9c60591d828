import Derived.Shelf.Small.Bits
import Derived.Shelf.Small.Wraps
import Derived.Shelf.Strconv.Itoa0
import Derived.Shelf.Strings.Search1
import Derived.Shelf.Strings.Search2
import Derived.Shelf.Strings.Search3
import Derived.Shelf.LaysM
import Derived.Shelf.Strings.Shaped
import Derived.Shelf.Sort.Plain
import Derived.Shelf.Slices.Turned
import Derived.Ground.Names2Prog
import Derived.Shelf.Slices.Clone
import Derived.Shelf.Slices.CompactI
import Derived.Shelf.Slices.SearchI
import Derived.Shelf.Slices.Cells
import Derived.Shelf.Slices.In.SortNone
import Derived.Ground.SlgnProg
import Derived.Shelf.SlicesE.Clone
import Derived.Test.YtnnbecihffpedaaGreatDoorProg
set_option linter.all false
open List renaming length->U
open Go.Lib renaming compact->kai
open Go.Proofs.Tryz renaming prog->qZ,underlying23->kaP
open Go.Value renaming int->Zl
namespace Go.Proofs
open Go.Shelf
def Tryz.lays189_ren:Go.Shelf.Ren:=⟨fun|189=>253|125=>266|257=>265|128=>284|129=>285|294=>275|295=>276|296=>277|297=>278|298=>279|299=>280|216=>281|300=>282|301=>283|328=>292|329=>293|330=>294|331=>295|332=>296|215=>297|343=>299|n=>n,fun|28=>23|3=>3|46=>85|0=>0|51=>355|53=>45|4=>4|183=>348|182=>347|131=>133|5=>5|9=>9|218=>361|222=>364|228=>367|229=>214|n=>n,fun|n=>n⟩
def Tryz.lays189:Go.Proofs.Lays.n189 qZ Tryz.lays189_ren:={
 mixed:=by kernel_rfl
 f125:=Tryz.func266.trans (congrArg some (by kernel_rfl))
 f128:=Tryz.func284.trans (congrArg some (by kernel_rfl))
 f129:=Tryz.func285.trans (congrArg some (by kernel_rfl))
 f189:=Tryz.func253.trans (congrArg some (by kernel_rfl))
 f215:=Tryz.func297.trans (congrArg some (by kernel_rfl))
 f216:=Tryz.func281.trans (congrArg some (by kernel_rfl))
 f257:=Tryz.func265.trans (congrArg some (by kernel_rfl))
 f294:=Tryz.func275.trans (congrArg some (by kernel_rfl))
 f295:=Tryz.func276.trans (congrArg some (by kernel_rfl))
 f296:=Tryz.func277.trans (congrArg some (by kernel_rfl))
 f297:=Tryz.func278.trans (congrArg some (by kernel_rfl))
 f298:=Tryz.func279.trans (congrArg some (by kernel_rfl))
 f299:=Tryz.func280.trans (congrArg some (by kernel_rfl))
 f300:=Tryz.func282.trans (congrArg some (by kernel_rfl))
 f301:=Tryz.func283.trans (congrArg some (by kernel_rfl))
 f328:=Tryz.func292.trans (congrArg some (by kernel_rfl))
 f329:=Tryz.func293.trans (congrArg some (by kernel_rfl))
 f330:=Tryz.func294.trans (congrArg some (by kernel_rfl))
 f331:=Tryz.func295.trans (congrArg some (by kernel_rfl))
 f332:=Tryz.func296.trans (congrArg some (by kernel_rfl))
 f343:=Tryz.func299.trans (congrArg some (by kernel_rfl))
 t0:=Tryz.underlying0
 a0:=Tryz.isAgg0
 z0:=Tryz.sizeOf0
 v0:=Tryz.zeroValue0
 t3:=Tryz.underlying3
 a3:=Tryz.isAgg3
 z3:=Tryz.sizeOf3
 v3:=Tryz.zeroValue3
 t4:=Tryz.underlying4
 a4:=Tryz.isAgg4
 z4:=Tryz.sizeOf4
 v4:=Tryz.zeroValue4
 t5:=Tryz.underlying5
 a5:=Tryz.isAgg5
 z5:=Tryz.sizeOf5
 v5:=Tryz.zeroValue5
 t9:=Tryz.underlying9
 a9:=Tryz.isAgg9
 z9:=Tryz.sizeOf9
 v9:=Tryz.zeroValue9
 t28:=kaP
 a28:=Tryz.isAgg23
 z28:=Tryz.sizeOf23
 v28:=Tryz.zeroValue23
 t46:=Tryz.underlying85
 a46:=Tryz.isAgg85
 z46:=Tryz.sizeOf85
 v46:=Tryz.zeroValue85
 t51:=Tryz.underlying355
 a51:=Tryz.isAgg355
 z51:=Tryz.sizeOf355
 v51:=Tryz.zeroValue355
 t53:=Tryz.underlying45
 a53:=Tryz.isAgg45
 z53:=Tryz.sizeOf45
 v53:=Tryz.zeroValue45
 t131:=Tryz.underlying133
 a131:=Tryz.isAgg133
 z131:=Tryz.sizeOf133
 v131:=Tryz.zeroValue133
 t182:=Tryz.underlying347
 a182:=Tryz.isAgg347
 z182:=Tryz.sizeOf347
 v182:=Tryz.zeroValue347
 t183:=Tryz.underlying348
 a183:=Tryz.isAgg348
 z183:=Tryz.sizeOf348
 v183:=Tryz.zeroValue348
 t218:=Tryz.underlying361
 a218:=Tryz.isAgg361
 z218:=Tryz.sizeOf361
 v218:=Tryz.zeroValue361
 t222:=Tryz.underlying364
 a222:=Tryz.isAgg364
 z222:=Tryz.sizeOf364
 v222:=Tryz.zeroValue364
 t228:=Tryz.underlying367
 a228:=Tryz.isAgg367
 z228:=Tryz.sizeOf367
 v228:=Tryz.zeroValue367
 t229:=Tryz.underlying214
 a229:=Tryz.isAgg214
 z229:=Tryz.sizeOf214
 v229:=Tryz.zeroValue214 }
open Go.Sort Go.RowKit in
def Tryz.slices_Sort_int (jj off fg:Nat)(zs:List Int)(w:World)(hH:Holds (Zl .i64) w jj off zs.toArray)(IY:jj<w.heap.size)(uo:U zs<4611686018427387904):
 Calls qZ 253 #[.slice (some ⟨jj,off,none⟩) (U zs) fg] w λe w'=>e=.returned (.tuple #[])/\∃n os,w'=grow (putRow (Zl .i64) (Sort.ahead w n) jj off (zs.mergeSort λx y=>decide (x<=y)).toArray) os:=Any.slices_Sort_int Tryz.lays189 jj off fg zs w hH IY uo
def Tryz.laysNm220_ren:Go.Shelf.Ren:=⟨fun|20=>254|n=>n,fun|22=>23|3=>3|4=>4|0=>0|n=>n,fun|n=>n⟩
def Tryz.laysNm220:Go.Proofs.Lays2.n20 qZ Tryz.laysNm220_ren:={
 mixed:=by kernel_rfl
 f20:=Tryz.func254.trans (congrArg some (by kernel_rfl))
 t0:=Tryz.underlying0
 a0:=Tryz.isAgg0
 z0:=Tryz.sizeOf0
 v0:=Tryz.zeroValue0
 t3:=Tryz.underlying3
 a3:=Tryz.isAgg3
 z3:=Tryz.sizeOf3
 v3:=Tryz.zeroValue3
 t4:=Tryz.underlying4
 a4:=Tryz.isAgg4
 z4:=Tryz.sizeOf4
 v4:=Tryz.zeroValue4
 t22:=kaP
 a22:=Tryz.isAgg23
 z22:=Tryz.sizeOf23
 v22:=Tryz.zeroValue23
 i3:=by kernel_rfl }
open Go.RowKit Go.Lib Go.Sort in
def Tryz.slices_Compact_int (jj off fg:Nat)(zs:List Int)(w:World)(hH:Holds (Zl .i64) w jj off zs.toArray)(uo:U zs<=9223372036854775807)(NH:U zs<=fg):
 Calls qZ 254 #[.slice (some ⟨jj,off,none⟩) (U zs) fg] w λe w'=>e=.returned (.slice (some ⟨jj,off,none⟩) (U (kai zs)) fg)/\∃q,w'=putRow (Zl .i64) (Sort.ahead w q) jj off (kai zs++List.replicate (U zs-(kai zs).length) 0).toArray:=Any.slices_Compact_int Tryz.laysNm220 jj off fg zs w hH uo NH
open Go.RowKit Go.Lib Go.Sort in
def Tryz.slices_Compact_int_empty (a:Option Addr)(fg:Nat)(w:World):
 Calls qZ 254 #[.slice a 0 fg] w λe w'=>e=.returned (.slice a 0 fg)/\w'=w:=Any.slices_Compact_int_empty Tryz.laysNm220 a fg w
open Go.RowKit Go.Sort in
def Tryz.slices_Sort_int_none (p:Option Addr)(fg:Nat)(w:World):
 Calls qZ 253 #[.slice p 0 fg] w λe w'=>e=.returned (.tuple #[])/\w'=w:=Any.slices_Sort_int_none Tryz.lays189 p fg w
end Go.Proofs
