/-
  DERIVED: THE SHELF's CONTRACTS AT THIS DUMP, IN PLAIN WORDS (tools/lay-plain.mjs out of 'YtkcicllfpdcecaaDoorShelf.lean', which tools/lay-shelf.mjs wrote): THE SAME DECLARATIONS UNDER THE SAME NAMES: 'import', 'namespace', 'open', 'def', 'theorem' AND NOTHING ELSE: no command of the shelf's: FOR A HAND-IN. Each laying: the table of numbers ('.._ren') and one theorem, a field a fact of the dump's own or the kernel's comparison; each contract: ONE APPLICATION.
-/
import Derived.Shelf.Strings.Search1
import Derived.Shelf.Strings.Search2
import Derived.Shelf.Strings.Search3
import Derived.Test.YtkcicllfpdcecaaDoorProg
namespace Go.Proofs
open Go.Shelf
def Tryd.lays144_ren : Go.Shelf.Ren := ⟨fun | 144 => 55 | 143 => 59 | 219 => 60 | 217 => 61 | 225 => 62 | 224 => 63 | 267 => 64 | 266 => 65 | 314 => 66 | n => n, fun | 9 => 9 | 4 => 4 | 3 => 3 | 5 => 5 | 46 => 47 | 146 => 97 | 51 => 96 | n => n, fun | 1 => 1 | n => n⟩
theorem Tryd.lays144 : Go.Proofs.Lays.n144 Tryd.prog Tryd.lays144_ren := {
  mixed := by kernel_rfl
  f143 := Tryd.func59.trans (congrArg some (by kernel_rfl))
  f144 := Tryd.func55.trans (congrArg some (by kernel_rfl))
  f217 := Tryd.func61.trans (congrArg some (by kernel_rfl))
  f219 := Tryd.func60.trans (congrArg some (by kernel_rfl))
  f224 := Tryd.func63.trans (congrArg some (by kernel_rfl))
  f225 := Tryd.func62.trans (congrArg some (by kernel_rfl))
  f266 := Tryd.func65.trans (congrArg some (by kernel_rfl))
  f267 := Tryd.func64.trans (congrArg some (by kernel_rfl))
  f314 := Tryd.func66.trans (congrArg some (by kernel_rfl))
  t3 := Tryd.underlying3
  a3 := Tryd.isAgg3
  z3 := Tryd.sizeOf3
  v3 := Tryd.zeroValue3
  t4 := Tryd.underlying4
  a4 := Tryd.isAgg4
  z4 := Tryd.sizeOf4
  v4 := Tryd.zeroValue4
  t5 := Tryd.underlying5
  a5 := Tryd.isAgg5
  z5 := Tryd.sizeOf5
  v5 := Tryd.zeroValue5
  t9 := Tryd.underlying9
  a9 := Tryd.isAgg9
  z9 := Tryd.sizeOf9
  v9 := Tryd.zeroValue9
  t46 := Tryd.underlying47
  a46 := Tryd.isAgg47
  z46 := Tryd.sizeOf47
  v46 := Tryd.zeroValue47
  t51 := Tryd.underlying96
  a51 := Tryd.isAgg96
  z51 := Tryd.sizeOf96
  v51 := Tryd.zeroValue96
  t146 := Tryd.underlying97
  a146 := Tryd.isAgg97
  z146 := Tryd.sizeOf97
  v146 := Tryd.zeroValue97
  g1 := by kernel_rfl }
open Go.RowKit Go.Lib in
/-- strings.Contains: "Contains reports whether substr is within s.": AT A substr OF ONE BYTE c: IT RETURNS 'decide (0 ≤ Lib.indexByte s c)'; the world is as it was. (LAID: no walk: one application.) -/
theorem Tryd.strings_Contains_one (s : ByteArray) (c : UInt8) (w : World) :
    Calls Tryd.prog 55 #[.string s, .string ⟨#[c]⟩] w fun e w' => e = .returned (.bool (decide (0 ≤ Lib.indexByte s.data.toList c))) ∧ w' = w := Any.strings_Contains_one Tryd.lays144 s c w
end Go.Proofs
