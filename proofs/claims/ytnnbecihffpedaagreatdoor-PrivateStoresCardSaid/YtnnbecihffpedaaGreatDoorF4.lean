import Derived.Shelf.Small.Bits
import Derived.Shelf.Small.Wraps
import Derived.Shelf.Strconv.Itoa0
import Derived.Shelf.Strings.Search1
import Derived.Shelf.Strings.Search2
import Derived.Shelf.Strings.Search3
import Derived.Shelf.LaysM
import Derived.Shelf.Strings.Shaped
import Derived.Shelf.Sort.Plain
import Derived.Shelf.Slices.Turned
import Derived.Ground.Names2Prog
import Derived.Shelf.Slices.Clone
import Derived.Shelf.Slices.CompactI
import Derived.Shelf.Slices.SearchI
import Derived.Shelf.Slices.Cells
import Derived.Shelf.Slices.In.SortNone
import Derived.Ground.SlgnProg
import Derived.Shelf.SlicesE.Clone
import Derived.Test.YtnnbecihffpedaaGreatDoorProg
set_option linter.all false
namespace Go.Proofs
open Go.Shelf
def Tryz.lays144_ren:Go.Shelf.Ren:=⟨fun|144=>163|143=>241|219=>263|217=>271|225=>272|224=>273|267=>274|266=>290|314=>291|n=>n,fun|9=>9|4=>4|3=>3|5=>5|46=>85|146=>359|51=>355|n=>n,fun|1=>2|n=>n⟩
def Tryz.lays144:Go.Proofs.Lays.n144 Tryz.prog Tryz.lays144_ren:={
 mixed:=by kernel_rfl
 f143:=Tryz.func241.trans (congrArg some (by kernel_rfl))
 f144:=Tryz.func163.trans (congrArg some (by kernel_rfl))
 f217:=Tryz.func271.trans (congrArg some (by kernel_rfl))
 f219:=Tryz.func263.trans (congrArg some (by kernel_rfl))
 f224:=Tryz.func273.trans (congrArg some (by kernel_rfl))
 f225:=Tryz.func272.trans (congrArg some (by kernel_rfl))
 f266:=Tryz.func290.trans (congrArg some (by kernel_rfl))
 f267:=Tryz.func274.trans (congrArg some (by kernel_rfl))
 f314:=Tryz.func291.trans (congrArg some (by kernel_rfl))
 t3:=Tryz.underlying3
 a3:=Tryz.isAgg3
 z3:=Tryz.sizeOf3
 v3:=Tryz.zeroValue3
 t4:=Tryz.underlying4
 a4:=Tryz.isAgg4
 z4:=Tryz.sizeOf4
 v4:=Tryz.zeroValue4
 t5:=Tryz.underlying5
 a5:=Tryz.isAgg5
 z5:=Tryz.sizeOf5
 v5:=Tryz.zeroValue5
 t9:=Tryz.underlying9
 a9:=Tryz.isAgg9
 z9:=Tryz.sizeOf9
 v9:=Tryz.zeroValue9
 t46:=Tryz.underlying85
 a46:=Tryz.isAgg85
 z46:=Tryz.sizeOf85
 v46:=Tryz.zeroValue85
 t51:=Tryz.underlying355
 a51:=Tryz.isAgg355
 z51:=Tryz.sizeOf355
 v51:=Tryz.zeroValue355
 t146:=Tryz.underlying359
 a146:=Tryz.isAgg359
 z146:=Tryz.sizeOf359
 v146:=Tryz.zeroValue359
 g1:=by kernel_rfl }
open Go.RowKit Go.Lib in
def Tryz.strings_Contains_one (s:ByteArray)(c:UInt8)(w:World):
 Calls Tryz.prog 163 #[.string s,.string ⟨#[c]⟩] w λe w'=>e=.returned (.bool (decide (0<=Lib.indexByte s.data.toList c)))/\w'=w:=Any.strings_Contains_one Tryz.lays144 s c w
end Go.Proofs
