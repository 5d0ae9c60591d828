/-
 DERIVED: THE SHELF's CONTRACTS AT THIS DUMP, IN PLAIN WORDS (tools/lay-plain.mjs out of 'YtpealkdhmnomhaaGreatDoorShelf.lean', which tools/lay-shelf.mjs wrote): THE SAME DECLARATIONS UNDER THE SAME NAMES: 'import', 'namespace', 'open', 'def', 'theorem' AND NOTHING ELSE: no command of the shelf's: FOR A HAND-IN. Each laying: the table of numbers ('.._ren') and one theorem, a field a fact of the dump's own or the kernel's comparison; each contract: ONE APPLICATION.
-/
import Derived.Shelf.Small.Bits
import Derived.Shelf.Small.Wraps
import Derived.Shelf.Strconv.Itoa0
import Derived.Shelf.Strings.Search1
import Derived.Shelf.Strings.Search2
import Derived.Shelf.Strings.Search3
import Derived.Shelf.LaysM
import Derived.Shelf.Strings.Shaped
import Derived.Shelf.Sort.Plain
import Derived.Shelf.Slices.Turned
import Derived.Ground.Names2Prog
import Derived.Shelf.Slices.Clone
import Derived.Shelf.Slices.CompactI
import Derived.Shelf.Slices.SearchI
import Derived.Shelf.Slices.Cells
import Derived.Shelf.Slices.In.SortNone
import Derived.Ground.SlgnProg
import Derived.Shelf.SlicesE.Clone
import Derived.Test.YtpealkdhmnomhaaGreatDoorProg
namespace Go.Proofs
open Go.Shelf
def Tryz.lays144_ren:Go.Shelf.Ren:=⟨fun|144=>190|143=>262|219=>283|217=>291|225=>292|224=>293|267=>294|266=>310|314=>311|n=>n,fun|9=>9|4=>4|3=>3|5=>5|46=>96|146=>381|51=>377|n=>n,fun|1=>2|n=>n⟩
theorem Tryz.lays144:Go.Proofs.Lays.n144 Tryz.prog Tryz.lays144_ren:={
 mixed:=by kernel_rfl
 f143:=Tryz.func262.trans (congrArg some (by kernel_rfl))
 f144:=Tryz.func190.trans (congrArg some (by kernel_rfl))
 f217:=Tryz.func291.trans (congrArg some (by kernel_rfl))
 f219:=Tryz.func283.trans (congrArg some (by kernel_rfl))
 f224:=Tryz.func293.trans (congrArg some (by kernel_rfl))
 f225:=Tryz.func292.trans (congrArg some (by kernel_rfl))
 f266:=Tryz.func310.trans (congrArg some (by kernel_rfl))
 f267:=Tryz.func294.trans (congrArg some (by kernel_rfl))
 f314:=Tryz.func311.trans (congrArg some (by kernel_rfl))
 t3:=Tryz.underlying3
 a3:=Tryz.isAgg3
 z3:=Tryz.sizeOf3
 v3:=Tryz.zeroValue3
 t4:=Tryz.underlying4
 a4:=Tryz.isAgg4
 z4:=Tryz.sizeOf4
 v4:=Tryz.zeroValue4
 t5:=Tryz.underlying5
 a5:=Tryz.isAgg5
 z5:=Tryz.sizeOf5
 v5:=Tryz.zeroValue5
 t9:=Tryz.underlying9
 a9:=Tryz.isAgg9
 z9:=Tryz.sizeOf9
 v9:=Tryz.zeroValue9
 t46:=Tryz.underlying96
 a46:=Tryz.isAgg96
 z46:=Tryz.sizeOf96
 v46:=Tryz.zeroValue96
 t51:=Tryz.underlying377
 a51:=Tryz.isAgg377
 z51:=Tryz.sizeOf377
 v51:=Tryz.zeroValue377
 t146:=Tryz.underlying381
 a146:=Tryz.isAgg381
 z146:=Tryz.sizeOf381
 v146:=Tryz.zeroValue381
 g1:=by kernel_rfl }
open Go.RowKit Go.Lib in
theorem Tryz.strings_Contains_one (s:ByteArray) (c:UInt8) (w:World) :
 Calls Tryz.prog 190 #[.string s,.string ⟨#[c]⟩] w λe w'=>e=.returned (.bool (decide (0<=Lib.indexByte s.data.toList c)))/\w'=w:=Any.strings_Contains_one Tryz.lays144 s c w
end Go.Proofs
