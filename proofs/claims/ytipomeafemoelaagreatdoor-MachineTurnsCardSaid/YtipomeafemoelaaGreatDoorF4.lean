/-
 DERIVED: THE SHELF's CONTRACTS AT THIS DUMP, IN PLAIN WORDS (tools/lay-plain.mjs out of 'YtipomeafemoelaaGreatDoorShelf.lean', which tools/lay-shelf.mjs wrote): THE SAME DECLARATIONS UNDER THE SAME NAMES: 'import', 'namespace', 'open', 'def', 'theorem' AND NOTHING ELSE: no command of the shelf's: FOR A HAND-IN. Each laying: the table of numbers ('.._ren') and one theorem, a field a fact of the dump's own or the kernel's comparison; each contract: ONE APPLICATION.
-/
import Derived.Shelf.Small.Bits
import Derived.Shelf.Small.Wraps
import Derived.Shelf.Strconv.Itoa0
import Derived.Shelf.Strings.Search1
import Derived.Shelf.Strings.Search2
import Derived.Shelf.Strings.Search3
import Derived.Shelf.LaysM
import Derived.Shelf.Strings.Shaped
import Derived.Shelf.Sort.Plain
import Derived.Shelf.Slices.Turned
import Derived.Ground.Names2Prog
import Derived.Shelf.Slices.Clone
import Derived.Shelf.Slices.CompactI
import Derived.Shelf.Slices.SearchI
import Derived.Shelf.Slices.Cells
import Derived.Shelf.Slices.In.SortNone
import Derived.Ground.SlgnProg
import Derived.Shelf.SlicesE.Clone
import Derived.Test.YtipomeafemoelaaGreatDoorProg
namespace Go.Proofs
open Go.Shelf
def Tryz.lays144_ren:Go.Shelf.Ren:=⟨fun|144=>154|143=>229|219=>251|217=>259|225=>260|224=>261|267=>262|266=>278|314=>279|n=>n,fun|9=>9|4=>4|3=>3|5=>5|46=>87|146=>316|51=>312|n=>n,fun|1=>2|n=>n⟩
theorem Tryz.lays144:Go.Proofs.Lays.n144 Tryz.prog Tryz.lays144_ren:={
 mixed:=by kernel_rfl
 f143:=Tryz.func229.trans (congrArg some (by kernel_rfl))
 f144:=Tryz.func154.trans (congrArg some (by kernel_rfl))
 f217:=Tryz.func259.trans (congrArg some (by kernel_rfl))
 f219:=Tryz.func251.trans (congrArg some (by kernel_rfl))
 f224:=Tryz.func261.trans (congrArg some (by kernel_rfl))
 f225:=Tryz.func260.trans (congrArg some (by kernel_rfl))
 f266:=Tryz.func278.trans (congrArg some (by kernel_rfl))
 f267:=Tryz.func262.trans (congrArg some (by kernel_rfl))
 f314:=Tryz.func279.trans (congrArg some (by kernel_rfl))
 t3:=Tryz.underlying3
 a3:=Tryz.isAgg3
 z3:=Tryz.sizeOf3
 v3:=Tryz.zeroValue3
 t4:=Tryz.underlying4
 a4:=Tryz.isAgg4
 z4:=Tryz.sizeOf4
 v4:=Tryz.zeroValue4
 t5:=Tryz.underlying5
 a5:=Tryz.isAgg5
 z5:=Tryz.sizeOf5
 v5:=Tryz.zeroValue5
 t9:=Tryz.underlying9
 a9:=Tryz.isAgg9
 z9:=Tryz.sizeOf9
 v9:=Tryz.zeroValue9
 t46:=Tryz.underlying87
 a46:=Tryz.isAgg87
 z46:=Tryz.sizeOf87
 v46:=Tryz.zeroValue87
 t51:=Tryz.underlying312
 a51:=Tryz.isAgg312
 z51:=Tryz.sizeOf312
 v51:=Tryz.zeroValue312
 t146:=Tryz.underlying316
 a146:=Tryz.isAgg316
 z146:=Tryz.sizeOf316
 v146:=Tryz.zeroValue316
 g1:=by kernel_rfl }
open Go.RowKit Go.Lib in
theorem Tryz.strings_Contains_one (s:ByteArray) (c:UInt8) (w:World) :
 Calls Tryz.prog 154 #[.string s,.string ⟨#[c]⟩] w λe w'=>e=.returned (.bool (decide (0<=Lib.indexByte s.data.toList c)))/\w'=w:=Any.strings_Contains_one Tryz.lays144 s c w
end Go.Proofs
