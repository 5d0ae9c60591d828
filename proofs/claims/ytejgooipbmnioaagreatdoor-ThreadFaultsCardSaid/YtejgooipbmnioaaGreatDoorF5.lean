/-
 DERIVED: THE SHELF's CONTRACTS AT THIS DUMP, IN PLAIN WORDS (tools/lay-plain.mjs out of 'YtejgooipbmnioaaGreatDoorShelf.lean', which tools/lay-shelf.mjs wrote): THE SAME DECLARATIONS UNDER THE SAME NAMES: 'import', 'namespace', 'open', 'def', 'theorem' AND NOTHING ELSE: no command of the shelf's: FOR A HAND-IN. Each laying: the table of numbers ('.._ren') and one theorem, a field a fact of the dump's own or the kernel's comparison; each contract: ONE APPLICATION.
-/
import Derived.Shelf.Strings.Search1
import Derived.Shelf.Strings.Search2
import Derived.Shelf.Strings.Search3
import Derived.Shelf.LaysM
import Derived.Shelf.Strings.Shaped
import Derived.Test.YtejgooipbmnioaaGreatDoorProg
namespace Go.Proofs
open Go.Shelf
def Tryz.lays144_ren:Go.Shelf.Ren:=⟨fun|144=>201|143=>279|219=>301|217=>309|225=>310|224=>311|267=>312|266=>328|314=>329|n=>n,fun|9=>9|4=>4|3=>3|5=>5|46=>108|146=>398|51=>394|n=>n,fun|1=>2|n=>n⟩
theorem Tryz.lays144:Go.Proofs.Lays.n144 Tryz.prog Tryz.lays144_ren:={
 mixed:=by kernel_rfl
 f143:=Tryz.func279.trans (congrArg some (by kernel_rfl))
 f144:=Tryz.func201.trans (congrArg some (by kernel_rfl))
 f217:=Tryz.func309.trans (congrArg some (by kernel_rfl))
 f219:=Tryz.func301.trans (congrArg some (by kernel_rfl))
 f224:=Tryz.func311.trans (congrArg some (by kernel_rfl))
 f225:=Tryz.func310.trans (congrArg some (by kernel_rfl))
 f266:=Tryz.func328.trans (congrArg some (by kernel_rfl))
 f267:=Tryz.func312.trans (congrArg some (by kernel_rfl))
 f314:=Tryz.func329.trans (congrArg some (by kernel_rfl))
 t3:=Tryz.underlying3
 a3:=Tryz.isAgg3
 z3:=Tryz.sizeOf3
 v3:=Tryz.zeroValue3
 t4:=Tryz.underlying4
 a4:=Tryz.isAgg4
 z4:=Tryz.sizeOf4
 v4:=Tryz.zeroValue4
 t5:=Tryz.underlying5
 a5:=Tryz.isAgg5
 z5:=Tryz.sizeOf5
 v5:=Tryz.zeroValue5
 t9:=Tryz.underlying9
 a9:=Tryz.isAgg9
 z9:=Tryz.sizeOf9
 v9:=Tryz.zeroValue9
 t46:=Tryz.underlying108
 a46:=Tryz.isAgg108
 z46:=Tryz.sizeOf108
 v46:=Tryz.zeroValue108
 t51:=Tryz.underlying394
 a51:=Tryz.isAgg394
 z51:=Tryz.sizeOf394
 v51:=Tryz.zeroValue394
 t146:=Tryz.underlying398
 a146:=Tryz.isAgg398
 z146:=Tryz.sizeOf398
 v146:=Tryz.zeroValue398
 g1:=by kernel_rfl }
open Go.RowKit Go.Lib in
theorem Tryz.strings_Contains_one (s:ByteArray) (c:UInt8) (w:World) :
 Calls Tryz.prog 201 #[.string s,.string ⟨#[c]⟩] w fun e w'=>e=.returned (.bool (decide (0≤Lib.indexByte s.data.toList c)))∧w'=w:=Any.strings_Contains_one Tryz.lays144 s c w
end Go.Proofs
