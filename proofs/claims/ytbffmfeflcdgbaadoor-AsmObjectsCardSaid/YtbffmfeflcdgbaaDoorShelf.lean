/-
  DERIVED: THE SHELF's CONTRACTS AT THIS DUMP, IN PLAIN WORDS (tools/lay-plain.mjs out of 'TrydShelf.lean', which tools/lay-shelf.mjs wrote): THE SAME DECLARATIONS UNDER THE SAME NAMES: 'import', 'namespace', 'open', 'def', 'theorem' AND NOTHING ELSE: no command of the shelf's: FOR A HAND-IN. Each laying: the table of numbers ('.._ren') and one theorem, a field a fact of the dump's own or the kernel's comparison; each contract: ONE APPLICATION.
-/
import Derived.Shelf.Strings.Trim
import Derived.Shelf.Strings.SlTrimAscii
import Derived.Shelf.Small.Utf8
import Derived.Shelf.Small.Strs
import Derived.Shelf.Small.Wraps
import Derived.Shelf.Strings.Search1
import Derived.Shelf.Strings.Search2
import Derived.Shelf.Strings.Search3
import Derived.Shelf.LaysM
import Derived.Shelf.Strings.Shaped
import Derived.Shelf.Unicode.Decode
import Derived.Shelf.Strings.Runes
import Derived.Shelf.Strings.AsciiSet
import Derived.Shelf.Unicode.DecodeSlow
import Derived.Shelf.Unicode.DecodeAny
import Derived.Shelf.Unicode.DecodeLast
import Derived.Ground.Names2Prog
import Derived.Shelf.Slices.SearchI
import Derived.Test.YtbffmfeflcdgbaaDoorProg
namespace Go.Proofs
open Go.Shelf
def Tryd.lays160_ren : Go.Shelf.Ren := ⟨fun | 160 => 50 | 232 => 58 | 231 => 57 | 227 => 59 | 234 => 61 | 233 => 60 | 236 => 63 | 235 => 62 | 228 => 65 | 271 => 68 | 151 => 67 | 197 => 66 | 120 => 75 | 152 => 74 | 260 => 73 | 137 => 78 | 119 => 79 | 224 => 71 | 225 => 70 | 217 => 69 | 266 => 76 | n => n, fun | 9 => 9 | 4 => 4 | 3 => 3 | 5 => 5 | 117 => 97 | 116 => 96 | 0 => 0 | 124 => 100 | 21 => 21 | 105 => 101 | 46 => 83 | 119 => 110 | 139 => 113 | 138 => 112 | n => n, fun | 3 => 7 | 4 => 8 | n => n⟩
theorem Tryd.lays160 : Go.Proofs.Lays.n160 Tryd.prog Tryd.lays160_ren := {
 mixed := by kernel_rfl
 f119 := Tryd.func79.trans (congrArg some (by kernel_rfl))
 f120 := Tryd.func75.trans (congrArg some (by kernel_rfl))
 f137 := Tryd.func78.trans (congrArg some (by kernel_rfl))
 f151 := Tryd.func67.trans (congrArg some (by kernel_rfl))
 f152 := Tryd.func74.trans (congrArg some (by kernel_rfl))
 f160 := Tryd.func50.trans (congrArg some (by kernel_rfl))
 f197 := Tryd.func66.trans (congrArg some (by kernel_rfl))
 f217 := Tryd.func69.trans (congrArg some (by kernel_rfl))
 f224 := Tryd.func71.trans (congrArg some (by kernel_rfl))
 f225 := Tryd.func70.trans (congrArg some (by kernel_rfl))
 f227 := Tryd.func59.trans (congrArg some (by kernel_rfl))
 f228 := Tryd.func65.trans (congrArg some (by kernel_rfl))
 f231 := Tryd.func57.trans (congrArg some (by kernel_rfl))
 f232 := Tryd.func58.trans (congrArg some (by kernel_rfl))
 f233 := Tryd.func60.trans (congrArg some (by kernel_rfl))
 f234 := Tryd.func61.trans (congrArg some (by kernel_rfl))
 f235 := Tryd.func62.trans (congrArg some (by kernel_rfl))
 f236 := Tryd.func63.trans (congrArg some (by kernel_rfl))
 f260 := Tryd.func73.trans (congrArg some (by kernel_rfl))
 f266 := Tryd.func76.trans (congrArg some (by kernel_rfl))
 f271 := Tryd.func68.trans (congrArg some (by kernel_rfl))
 t0 := Tryd.underlying0
 a0 := Tryd.isAgg0
 z0 := Tryd.sizeOf0
 v0 := Tryd.zeroValue0
 t3 := Tryd.underlying3
 a3 := Tryd.isAgg3
 z3 := Tryd.sizeOf3
 v3 := Tryd.zeroValue3
 t4 := Tryd.underlying4
 a4 := Tryd.isAgg4
 z4 := Tryd.sizeOf4
 v4 := Tryd.zeroValue4
 t5 := Tryd.underlying5
 a5 := Tryd.isAgg5
 z5 := Tryd.sizeOf5
 v5 := Tryd.zeroValue5
 t9 := Tryd.underlying9
 a9 := Tryd.isAgg9
 z9 := Tryd.sizeOf9
 v9 := Tryd.zeroValue9
 t21 := Tryd.underlying21
 a21 := Tryd.isAgg21
 z21 := Tryd.sizeOf21
 v21 := Tryd.zeroValue21
 t46 := Tryd.underlying83
 a46 := Tryd.isAgg83
 z46 := Tryd.sizeOf83
 v46 := Tryd.zeroValue83
 t105 := Tryd.underlying101
 a105 := Tryd.isAgg101
 z105 := Tryd.sizeOf101
 v105 := Tryd.zeroValue101
 t116 := Tryd.underlying96
 a116 := Tryd.isAgg96
 z116 := Tryd.sizeOf96
 t117 := Tryd.underlying97
 a117 := Tryd.isAgg97
 z117 := Tryd.sizeOf97
 v117 := Tryd.zeroValue97
 t119 := Tryd.underlying110
 a119 := Tryd.isAgg110
 z119 := Tryd.sizeOf110
 t124 := Tryd.underlying100
 a124 := Tryd.isAgg100
 z124 := Tryd.sizeOf100
 v124 := Tryd.zeroValue100
 t138 := Tryd.underlying112
 a138 := Tryd.isAgg112
 z138 := Tryd.sizeOf112
 v138 := Tryd.zeroValue112
 t139 := Tryd.underlying113
 a139 := Tryd.isAgg113
 z139 := Tryd.sizeOf113
 v139 := Tryd.zeroValue113
 g3 := by kernel_rfl
 g4 := by kernel_rfl }
def Tryd.lays106_ren : Go.Shelf.Ren := ⟨fun | 106 => 27 | 213 => 34 | 265 => 40 | n => n, fun | 9 => 9 | 3 => 3 | n => n, fun | n => n⟩
theorem Tryd.lays106 : Go.Proofs.Lays.n106 Tryd.prog Tryd.lays106_ren := {
 mixed := by kernel_rfl
 f106 := Tryd.func27.trans (congrArg some (by kernel_rfl))
 f213 := Tryd.func34.trans (congrArg some (by kernel_rfl))
 f265 := Tryd.func40.trans (congrArg some (by kernel_rfl))
 t3 := Tryd.underlying3
 a3 := Tryd.isAgg3
 z3 := Tryd.sizeOf3
 v3 := Tryd.zeroValue3
 t9 := Tryd.underlying9
 a9 := Tryd.isAgg9
 z9 := Tryd.sizeOf9
 v9 := Tryd.zeroValue9 }
open Go.RowKit in
/-- strings.Compare: "Compare returns an integer comparing two strings lexicographically. The result will be 0 if a == b, -1 if a < b, and +1 if a > b.": IT RETURNS 'Lib.compareBytes a b'; the world is as it was. (LAID: no walk: one application.) -/
theorem Tryd.strings_Compare (a b : ByteArray) (w : World) :
 Calls Tryd.prog 27 #[.string a, .string b] w fun e w' => e = .returned (.int .i64 (Lib.compareBytes a.data.toList b.data.toList)) ∧ w' = w := Any.strings_Compare Tryd.lays106 a b w
def Tryd.lays144_ren : Go.Shelf.Ren := ⟨fun | 144 => 49 | 143 => 56 | 219 => 64 | 217 => 69 | 225 => 70 | 224 => 71 | 267 => 72 | 266 => 76 | 314 => 77 | n => n, fun | 9 => 9 | 4 => 4 | 3 => 3 | 5 => 5 | 46 => 83 | 146 => 108 | 51 => 107 | n => n, fun | 1 => 0 | n => n⟩
theorem Tryd.lays144 : Go.Proofs.Lays.n144 Tryd.prog Tryd.lays144_ren := {
 mixed := by kernel_rfl
 f143 := Tryd.func56.trans (congrArg some (by kernel_rfl))
 f144 := Tryd.func49.trans (congrArg some (by kernel_rfl))
 f217 := Tryd.func69.trans (congrArg some (by kernel_rfl))
 f219 := Tryd.func64.trans (congrArg some (by kernel_rfl))
 f224 := Tryd.func71.trans (congrArg some (by kernel_rfl))
 f225 := Tryd.func70.trans (congrArg some (by kernel_rfl))
 f266 := Tryd.func76.trans (congrArg some (by kernel_rfl))
 f267 := Tryd.func72.trans (congrArg some (by kernel_rfl))
 f314 := Tryd.func77.trans (congrArg some (by kernel_rfl))
 t3 := Tryd.underlying3
 a3 := Tryd.isAgg3
 z3 := Tryd.sizeOf3
 v3 := Tryd.zeroValue3
 t4 := Tryd.underlying4
 a4 := Tryd.isAgg4
 z4 := Tryd.sizeOf4
 v4 := Tryd.zeroValue4
 t5 := Tryd.underlying5
 a5 := Tryd.isAgg5
 z5 := Tryd.sizeOf5
 v5 := Tryd.zeroValue5
 t9 := Tryd.underlying9
 a9 := Tryd.isAgg9
 z9 := Tryd.sizeOf9
 v9 := Tryd.zeroValue9
 t46 := Tryd.underlying83
 a46 := Tryd.isAgg83
 z46 := Tryd.sizeOf83
 v46 := Tryd.zeroValue83
 t51 := Tryd.underlying107
 a51 := Tryd.isAgg107
 z51 := Tryd.sizeOf107
 v51 := Tryd.zeroValue107
 t146 := Tryd.underlying108
 a146 := Tryd.isAgg108
 z146 := Tryd.sizeOf108
 v146 := Tryd.zeroValue108
 g1 := by kernel_rfl }
open Go.RowKit Go.Lib in
/-- strings.Contains: "Contains reports whether substr is within s.": AT A substr OF ONE BYTE c: IT RETURNS 'decide (0 ≤ Lib.indexByte s c)'; the world is as it was. (LAID: no walk: one application.) -/
theorem Tryd.strings_Contains_one (s : ByteArray) (c : UInt8) (w : World) :
 Calls Tryd.prog 49 #[.string s, .string ⟨#[c]⟩] w fun e w' => e = .returned (.bool (decide (0 ≤ Lib.indexByte s.data.toList c))) ∧ w' = w := Any.strings_Contains_one Tryd.lays144 s c w
end Go.Proofs
