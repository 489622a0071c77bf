/-
  DERIVED: THE SHELF's CONTRACTS AT THIS DUMP, IN PLAIN WORDS (tools/lay-plain.mjs out of 'TrydShelf.lean', which tools/lay-shelf.mjs wrote): THE SAME DECLARATIONS UNDER THE SAME NAMES: 'import', 'namespace', 'open', 'def', 'theorem' AND NOTHING ELSE: no command of the shelf's: FOR A HAND-IN. Each laying: the table of numbers ('.._ren') and one theorem, a field a fact of the dump's own or the kernel's comparison; each contract: ONE APPLICATION.
-/
import Derived.Shelf.Strings.Builder1
import Derived.Shelf.Strings.Builder2
import Derived.Shelf.Strings.OnBuilder
import Derived.Shelf.Strings.Trim
import Derived.Shelf.Small.Utf8
import Derived.Shelf.Small.Strs
import Derived.Shelf.Small.Wraps
import Derived.Shelf.Strings.BuilderF
import Derived.Shelf.Strings.BuilderK
import Derived.Shelf.Strings.Builder2Cap
import Derived.Shelf.Strings.Search1
import Derived.Shelf.Strings.Search2
import Derived.Shelf.Strings.Search3
import Derived.Shelf.Strings.Cut
import Derived.Shelf.LaysM
import Derived.Shelf.Strings.Shaped
import Derived.Shelf.Strings.Prefix
import Derived.Shelf.Unicode.Decode
import Derived.Shelf.Strings.Runes
import Derived.Shelf.Strings.AsciiSet
import Derived.Shelf.Unicode.DecodeSlow
import Derived.Shelf.Unicode.DecodeAny
import Derived.Shelf.Unicode.DecodeLast
import Derived.Shelf.Strings.FieldsFuncAny
import Derived.Shelf.Strings.FieldsFuncGrows
import Derived.Shelf.Strings.BuilderCap
import Derived.Test.YtjedbamcjgabpaaDoorProg
namespace Go.Proofs
open Go.Shelf
def Tryd.lays170_ren : Go.Shelf.Ren := ⟨fun | 170 => 27 | n => n, fun | 70 => 50 | 3 => 3 | 0 => 0 | 72 => 52 | 37 => 41 | 5 => 5 | n => n, fun | n => n⟩
theorem Tryd.lays170 : Go.Proofs.Lays.n170 Tryd.prog Tryd.lays170_ren := {
 mixed := by kernel_rfl
 f170 := Tryd.func27.trans (congrArg some (by kernel_rfl))
 t0 := Tryd.underlying0
 a0 := Tryd.isAgg0
 z0 := Tryd.sizeOf0
 v0 := Tryd.zeroValue0
 t3 := Tryd.underlying3
 a3 := Tryd.isAgg3
 z3 := Tryd.sizeOf3
 v3 := Tryd.zeroValue3
 t37 := Tryd.underlying41
 a37 := Tryd.isAgg41
 z37 := Tryd.sizeOf41
 v37 := Tryd.zeroValue41
 t70 := Tryd.underlying50
 a70 := Tryd.isAgg50
 z70 := Tryd.sizeOf50
 v70 := Tryd.zeroValue50
 t72 := Tryd.underlying52
 a72 := Tryd.isAgg52
 z72 := Tryd.sizeOf52
 v72 := Tryd.zeroValue52 }
open Go.RowKit in
/-- (*strings.Builder).Len: "Len returns the number of accumulated bytes; b.Len() == len(b.String()).": the world is as it was. (LAID: no walk: one application.) -/
theorem Tryd.Builder_Len (B b : Nat) (bs : List Value) (w : World) (h : Lib.IsBuilder 52 5 B b bs w) :
 Calls Tryd.prog 27 #[.pointer (some ⟨b, 0, none⟩)] w fun e w' => e = .returned (.int .i64 bs.length) ∧ w' = w := Any.Builder_Len Tryd.lays170 B b bs w h
def Tryd.lays169_ren : Go.Shelf.Ren := ⟨fun | 169 => 28 | n => n, fun | 70 => 50 | 9 => 9 | 0 => 0 | 72 => 52 | 37 => 41 | 127 => 81 | 3 => 3 | 5 => 5 | n => n, fun | n => n⟩
theorem Tryd.lays169 : Go.Proofs.Lays.n169 Tryd.prog Tryd.lays169_ren := {
 mixed := by kernel_rfl
 f169 := Tryd.func28.trans (congrArg some (by kernel_rfl))
 t0 := Tryd.underlying0
 a0 := Tryd.isAgg0
 z0 := Tryd.sizeOf0
 v0 := Tryd.zeroValue0
 t3 := Tryd.underlying3
 a3 := Tryd.isAgg3
 z3 := Tryd.sizeOf3
 v3 := Tryd.zeroValue3
 t9 := Tryd.underlying9
 a9 := Tryd.isAgg9
 z9 := Tryd.sizeOf9
 v9 := Tryd.zeroValue9
 t37 := Tryd.underlying41
 a37 := Tryd.isAgg41
 z37 := Tryd.sizeOf41
 v37 := Tryd.zeroValue41
 t70 := Tryd.underlying50
 a70 := Tryd.isAgg50
 z70 := Tryd.sizeOf50
 v70 := Tryd.zeroValue50
 t72 := Tryd.underlying52
 a72 := Tryd.isAgg52
 z72 := Tryd.sizeOf52
 v72 := Tryd.zeroValue52
 t127 := Tryd.underlying81
 a127 := Tryd.isAgg81
 z127 := Tryd.sizeOf81
 v127 := Tryd.zeroValue81 }
theorem Tryd.Builder_Extra_169 : Builder.Extra Tryd.prog Tryd.lays169_ren := {
 sizeBuilder := by kernel_rfl
 liesBuilder := by kernel_rfl
 t5 := Tryd.underlying5
 a5 := Tryd.isAgg5
 z5 := Tryd.sizeOf5
 v5 := Tryd.zeroValue5
 infoByte := by kernel_rfl
 cellsByte := by kernel_rfl
 sizeByte := by kernel_rfl
 neB5 := by decide }
open Go.RowKit in
/-- (*strings.Builder).String: "String returns the accumulated string.": WHATEVER THE BUILDER HOLDS. (LAID: no walk: one application.) -/
theorem Tryd.Builder_String_any (B b : Nat) (l : List UInt8) (w : World) (h : Lib.IsBuilder 52 5 B b (Lib.byteCells l) w) (hBw : B ≤ w.heap.size) :
 Calls Tryd.prog 28 #[.pointer (some ⟨b, 0, none⟩)] w fun e w' => e = .returned (.string ⟨l.toArray⟩) ∧ Below B w w' := Any.Builder_String_any Tryd.lays169 Tryd.Builder_Extra_169 B b l w h hBw
def Tryd.lays156_ren : Go.Shelf.Ren := ⟨fun | 156 => 68 | 165 => 93 | 166 => 25 | 169 => 28 | 240 => 40 | 241 => 103 | 276 => 60 | 277 => 108 | n => n, fun | 31 => 62 | 9 => 9 | 3 => 3 | 4 => 4 | 0 => 0 | 20 => 20 | 72 => 52 | 76 => 55 | 70 => 50 | 37 => 41 | 75 => 54 | 127 => 81 | 164 => 102 | 5 => 5 | 80 => 59 | n => n, fun | n => n⟩
theorem Tryd.lays156 : Go.Proofs.Lays.n156 Tryd.prog Tryd.lays156_ren := {
 mixed := by kernel_rfl
 f156 := Tryd.func68.trans (congrArg some (by kernel_rfl))
 f165 := Tryd.func93.trans (congrArg some (by kernel_rfl))
 f166 := Tryd.func25.trans (congrArg some (by kernel_rfl))
 f169 := Tryd.func28.trans (congrArg some (by kernel_rfl))
 f240 := Tryd.func40.trans (congrArg some (by kernel_rfl))
 f241 := Tryd.func103.trans (congrArg some (by kernel_rfl))
 f276 := Tryd.func60.trans (congrArg some (by kernel_rfl))
 f277 := Tryd.func108.trans (congrArg some (by kernel_rfl))
 t0 := Tryd.underlying0
 a0 := Tryd.isAgg0
 z0 := Tryd.sizeOf0
 v0 := Tryd.zeroValue0
 t3 := Tryd.underlying3
 a3 := Tryd.isAgg3
 z3 := Tryd.sizeOf3
 v3 := Tryd.zeroValue3
 t4 := Tryd.underlying4
 a4 := Tryd.isAgg4
 z4 := Tryd.sizeOf4
 v4 := Tryd.zeroValue4
 t9 := Tryd.underlying9
 a9 := Tryd.isAgg9
 z9 := Tryd.sizeOf9
 v9 := Tryd.zeroValue9
 t20 := Tryd.underlying20
 a20 := Tryd.isAgg20
 z20 := Tryd.sizeOf20
 v20 := Tryd.zeroValue20
 t31 := Tryd.underlying62
 a31 := Tryd.isAgg62
 z31 := Tryd.sizeOf62
 v31 := Tryd.zeroValue62
 t37 := Tryd.underlying41
 a37 := Tryd.isAgg41
 z37 := Tryd.sizeOf41
 v37 := Tryd.zeroValue41
 t70 := Tryd.underlying50
 a70 := Tryd.isAgg50
 z70 := Tryd.sizeOf50
 v70 := Tryd.zeroValue50
 t72 := Tryd.underlying52
 a72 := Tryd.isAgg52
 z72 := Tryd.sizeOf52
 v72 := Tryd.zeroValue52
 t75 := Tryd.underlying54
 a75 := Tryd.isAgg54
 z75 := Tryd.sizeOf54
 v75 := Tryd.zeroValue54
 t76 := Tryd.underlying55
 a76 := Tryd.isAgg55
 z76 := Tryd.sizeOf55
 v76 := Tryd.zeroValue55
 t127 := Tryd.underlying81
 a127 := Tryd.isAgg81
 z127 := Tryd.sizeOf81
 v127 := Tryd.zeroValue81
 t164 := Tryd.underlying102
 a164 := Tryd.isAgg102
 z164 := Tryd.sizeOf102
 v164 := Tryd.zeroValue102 }
theorem Tryd.Builder_Extra_156 : Builder.Extra Tryd.prog Tryd.lays156_ren := {
 sizeBuilder := by kernel_rfl
 liesBuilder := by kernel_rfl
 t5 := Tryd.underlying5
 a5 := Tryd.isAgg5
 z5 := Tryd.sizeOf5
 v5 := Tryd.zeroValue5
 infoByte := by kernel_rfl
 cellsByte := by kernel_rfl
 sizeByte := by kernel_rfl
 neB5 := by decide }
open Go.RowKit in
/-- strings.Join: "Join concatenates the elements of its first argument to create a single string. The separator string sep is placed between elements in the resulting string.": HOWEVER MANY ELEMENTS. Below the heap's end the world is as it was. (LAID: no walk: one application.) -/
theorem Tryd.strings_Join (bk o c : Nat) (xs : List ByteArray) (sep : ByteArray) (w : World) (hcells : ∀ (j : Nat) x, xs[j]? = some x → w.cell? ⟨bk, o + j, none⟩ = some (.string x)) (hbk : bk < w.heap.size) (hN : xs.length ≤ 140737488355328) (hcap : xs.length ≤ c) (hlen : (Lib.join (xs.map (·.data.toList)) sep.data.toList).length ≤ 140737488355328) :
 Calls Tryd.prog 68 #[.slice (some ⟨bk, o, none⟩) xs.length c, .string sep] w fun e w' => e = .returned (.string ⟨(Lib.join (xs.map (·.data.toList)) sep.data.toList).toArray⟩) ∧ Below w.heap.size w w' := Any.strings_Join Tryd.lays156 Tryd.Builder_Extra_156 bk o c xs sep w hcells hbk hN hcap hlen
def Tryd.lays160_ren : Go.Shelf.Ren := ⟨fun | 160 => 58 | 232 => 80 | 231 => 79 | 227 => 81 | 234 => 83 | 233 => 82 | 236 => 85 | 235 => 84 | 228 => 96 | 271 => 99 | 151 => 98 | 197 => 97 | 120 => 106 | 152 => 105 | 260 => 104 | 137 => 109 | 119 => 110 | 224 => 88 | 225 => 87 | 217 => 86 | 266 => 100 | n => n, fun | 9 => 9 | 4 => 4 | 3 => 3 | 5 => 5 | 117 => 124 | 116 => 123 | 0 => 0 | 124 => 127 | 21 => 21 | 105 => 134 | 46 => 104 | 119 => 142 | 139 => 145 | 138 => 144 | n => n, fun | 3 => 8 | 4 => 9 | n => n⟩
theorem Tryd.lays160 : Go.Proofs.Lays.n160 Tryd.prog Tryd.lays160_ren := {
 mixed := by kernel_rfl
 f119 := Tryd.func110.trans (congrArg some (by kernel_rfl))
 f120 := Tryd.func106.trans (congrArg some (by kernel_rfl))
 f137 := Tryd.func109.trans (congrArg some (by kernel_rfl))
 f151 := Tryd.func98.trans (congrArg some (by kernel_rfl))
 f152 := Tryd.func105.trans (congrArg some (by kernel_rfl))
 f160 := Tryd.func58.trans (congrArg some (by kernel_rfl))
 f197 := Tryd.func97.trans (congrArg some (by kernel_rfl))
 f217 := Tryd.func86.trans (congrArg some (by kernel_rfl))
 f224 := Tryd.func88.trans (congrArg some (by kernel_rfl))
 f225 := Tryd.func87.trans (congrArg some (by kernel_rfl))
 f227 := Tryd.func81.trans (congrArg some (by kernel_rfl))
 f228 := Tryd.func96.trans (congrArg some (by kernel_rfl))
 f231 := Tryd.func79.trans (congrArg some (by kernel_rfl))
 f232 := Tryd.func80.trans (congrArg some (by kernel_rfl))
 f233 := Tryd.func82.trans (congrArg some (by kernel_rfl))
 f234 := Tryd.func83.trans (congrArg some (by kernel_rfl))
 f235 := Tryd.func84.trans (congrArg some (by kernel_rfl))
 f236 := Tryd.func85.trans (congrArg some (by kernel_rfl))
 f260 := Tryd.func104.trans (congrArg some (by kernel_rfl))
 f266 := Tryd.func100.trans (congrArg some (by kernel_rfl))
 f271 := Tryd.func99.trans (congrArg some (by kernel_rfl))
 t0 := Tryd.underlying0
 a0 := Tryd.isAgg0
 z0 := Tryd.sizeOf0
 v0 := Tryd.zeroValue0
 t3 := Tryd.underlying3
 a3 := Tryd.isAgg3
 z3 := Tryd.sizeOf3
 v3 := Tryd.zeroValue3
 t4 := Tryd.underlying4
 a4 := Tryd.isAgg4
 z4 := Tryd.sizeOf4
 v4 := Tryd.zeroValue4
 t5 := Tryd.underlying5
 a5 := Tryd.isAgg5
 z5 := Tryd.sizeOf5
 v5 := Tryd.zeroValue5
 t9 := Tryd.underlying9
 a9 := Tryd.isAgg9
 z9 := Tryd.sizeOf9
 v9 := Tryd.zeroValue9
 t21 := Tryd.underlying21
 a21 := Tryd.isAgg21
 z21 := Tryd.sizeOf21
 v21 := Tryd.zeroValue21
 t46 := Tryd.underlying104
 a46 := Tryd.isAgg104
 z46 := Tryd.sizeOf104
 v46 := Tryd.zeroValue104
 t105 := Tryd.underlying134
 a105 := Tryd.isAgg134
 z105 := Tryd.sizeOf134
 v105 := Tryd.zeroValue134
 t116 := Tryd.underlying123
 a116 := Tryd.isAgg123
 z116 := Tryd.sizeOf123
 t117 := Tryd.underlying124
 a117 := Tryd.isAgg124
 z117 := Tryd.sizeOf124
 v117 := Tryd.zeroValue124
 t119 := Tryd.underlying142
 a119 := Tryd.isAgg142
 z119 := Tryd.sizeOf142
 t124 := Tryd.underlying127
 a124 := Tryd.isAgg127
 z124 := Tryd.sizeOf127
 v124 := Tryd.zeroValue127
 t138 := Tryd.underlying144
 a138 := Tryd.isAgg144
 z138 := Tryd.sizeOf144
 v138 := Tryd.zeroValue144
 t139 := Tryd.underlying145
 a139 := Tryd.isAgg145
 z139 := Tryd.sizeOf145
 v139 := Tryd.zeroValue145
 g3 := by kernel_rfl
 g4 := by kernel_rfl }
def Tryd.lays104_ren : Go.Shelf.Ren := ⟨fun | 104 => 49 | 211 => 66 | 207 => 91 | n => n, fun | 9 => 9 | 4 => 4 | 24 => 91 | 3 => 3 | n => n, fun | n => n⟩
theorem Tryd.lays104 : Go.Proofs.Lays.n104 Tryd.prog Tryd.lays104_ren := {
 mixed := by kernel_rfl
 f104 := Tryd.func49.trans (congrArg some (by kernel_rfl))
 f207 := Tryd.func91.trans (congrArg some (by kernel_rfl))
 f211 := Tryd.func66.trans (congrArg some (by kernel_rfl))
 t3 := Tryd.underlying3
 a3 := Tryd.isAgg3
 z3 := Tryd.sizeOf3
 v3 := Tryd.zeroValue3
 t4 := Tryd.underlying4
 a4 := Tryd.isAgg4
 z4 := Tryd.sizeOf4
 v4 := Tryd.zeroValue4
 t9 := Tryd.underlying9
 a9 := Tryd.isAgg9
 z9 := Tryd.sizeOf9
 v9 := Tryd.zeroValue9
 t24 := Tryd.underlying91
 a24 := Tryd.isAgg91
 z24 := Tryd.sizeOf91
 v24 := Tryd.zeroValue91 }
open Go.RowKit in
/-- strings.CutSuffix: "CutSuffix returns s without the provided ending suffix string and reports whether it found the suffix. If s doesn't end with suffix, CutSuffix returns s, false. If suffix is the empty string, CutSuffix returns s, true.": IT RETURNS '(Lib.trimSuffix s p, Lib.hasSuffix s p)'; the world is as it was. (LAID: no walk: one application.) -/
theorem Tryd.strings_CutSuffix (s p : ByteArray) (w : World) (hs : s.size ≤ 9223372036854775807) :
 Calls Tryd.prog 49 #[.string s, .string p] w fun e w' => e = .returned (.tuple #[.string ⟨(Lib.trimSuffix s.data.toList p.data.toList).toArray⟩, .bool (Lib.hasSuffix s.data.toList p.data.toList)]) ∧ w' = w := Any.strings_CutSuffix Tryd.lays104 s p w hs
def Tryd.lays144_ren : Go.Shelf.Ren := ⟨fun | 144 => 57 | 143 => 78 | 219 => 61 | 217 => 86 | 225 => 87 | 224 => 88 | 267 => 89 | 266 => 100 | 314 => 101 | n => n, fun | 9 => 9 | 4 => 4 | 3 => 3 | 5 => 5 | 46 => 104 | 146 => 138 | 51 => 137 | n => n, fun | 1 => 2 | n => n⟩
theorem Tryd.lays144 : Go.Proofs.Lays.n144 Tryd.prog Tryd.lays144_ren := {
 mixed := by kernel_rfl
 f143 := Tryd.func78.trans (congrArg some (by kernel_rfl))
 f144 := Tryd.func57.trans (congrArg some (by kernel_rfl))
 f217 := Tryd.func86.trans (congrArg some (by kernel_rfl))
 f219 := Tryd.func61.trans (congrArg some (by kernel_rfl))
 f224 := Tryd.func88.trans (congrArg some (by kernel_rfl))
 f225 := Tryd.func87.trans (congrArg some (by kernel_rfl))
 f266 := Tryd.func100.trans (congrArg some (by kernel_rfl))
 f267 := Tryd.func89.trans (congrArg some (by kernel_rfl))
 f314 := Tryd.func101.trans (congrArg some (by kernel_rfl))
 t3 := Tryd.underlying3
 a3 := Tryd.isAgg3
 z3 := Tryd.sizeOf3
 v3 := Tryd.zeroValue3
 t4 := Tryd.underlying4
 a4 := Tryd.isAgg4
 z4 := Tryd.sizeOf4
 v4 := Tryd.zeroValue4
 t5 := Tryd.underlying5
 a5 := Tryd.isAgg5
 z5 := Tryd.sizeOf5
 v5 := Tryd.zeroValue5
 t9 := Tryd.underlying9
 a9 := Tryd.isAgg9
 z9 := Tryd.sizeOf9
 v9 := Tryd.zeroValue9
 t46 := Tryd.underlying104
 a46 := Tryd.isAgg104
 z46 := Tryd.sizeOf104
 v46 := Tryd.zeroValue104
 t51 := Tryd.underlying137
 a51 := Tryd.isAgg137
 z51 := Tryd.sizeOf137
 v51 := Tryd.zeroValue137
 t146 := Tryd.underlying138
 a146 := Tryd.isAgg138
 z146 := Tryd.sizeOf138
 v146 := Tryd.zeroValue138
 g1 := by kernel_rfl }
open Go.RowKit Go.Lib in
/-- strings.Contains: "Contains reports whether substr is within s.": AT A substr OF ONE BYTE c: IT RETURNS 'decide (0 ≤ Lib.indexByte s c)'; the world is as it was. (LAID: no walk: one application.) -/
theorem Tryd.strings_Contains_one (s : ByteArray) (c : UInt8) (w : World) :
 Calls Tryd.prog 57 #[.string s, .string ⟨#[c]⟩] w fun e w' => e = .returned (.bool (decide (0 ≤ Lib.indexByte s.data.toList c))) ∧ w' = w := Any.strings_Contains_one Tryd.lays144 s c w
def Tryd.lays145_ren : Go.Shelf.Ren := ⟨fun | 145 => 29 | 220 => 44 | 219 => 61 | 217 => 86 | 225 => 87 | 224 => 88 | 267 => 89 | 266 => 100 | 314 => 101 | n => n, fun | 9 => 9 | 4 => 4 | 59 => 60 | 3 => 3 | 5 => 5 | 46 => 104 | 146 => 138 | 51 => 137 | n => n, fun | 1 => 2 | n => n⟩
theorem Tryd.lays145 : Go.Proofs.Lays.n145 Tryd.prog Tryd.lays145_ren := {
 mixed := by kernel_rfl
 f145 := Tryd.func29.trans (congrArg some (by kernel_rfl))
 f217 := Tryd.func86.trans (congrArg some (by kernel_rfl))
 f219 := Tryd.func61.trans (congrArg some (by kernel_rfl))
 f220 := Tryd.func44.trans (congrArg some (by kernel_rfl))
 f224 := Tryd.func88.trans (congrArg some (by kernel_rfl))
 f225 := Tryd.func87.trans (congrArg some (by kernel_rfl))
 f266 := Tryd.func100.trans (congrArg some (by kernel_rfl))
 f267 := Tryd.func89.trans (congrArg some (by kernel_rfl))
 f314 := Tryd.func101.trans (congrArg some (by kernel_rfl))
 t3 := Tryd.underlying3
 a3 := Tryd.isAgg3
 z3 := Tryd.sizeOf3
 v3 := Tryd.zeroValue3
 t4 := Tryd.underlying4
 a4 := Tryd.isAgg4
 z4 := Tryd.sizeOf4
 v4 := Tryd.zeroValue4
 t5 := Tryd.underlying5
 a5 := Tryd.isAgg5
 z5 := Tryd.sizeOf5
 v5 := Tryd.zeroValue5
 t9 := Tryd.underlying9
 a9 := Tryd.isAgg9
 z9 := Tryd.sizeOf9
 v9 := Tryd.zeroValue9
 t46 := Tryd.underlying104
 a46 := Tryd.isAgg104
 z46 := Tryd.sizeOf104
 v46 := Tryd.zeroValue104
 t51 := Tryd.underlying137
 a51 := Tryd.isAgg137
 z51 := Tryd.sizeOf137
 v51 := Tryd.zeroValue137
 t59 := Tryd.underlying60
 a59 := Tryd.isAgg60
 z59 := Tryd.sizeOf60
 v59 := Tryd.zeroValue60
 t146 := Tryd.underlying138
 a146 := Tryd.isAgg138
 z146 := Tryd.sizeOf138
 v146 := Tryd.zeroValue138
 g1 := by kernel_rfl }
open Go.RowKit Go.Lib in
/-- strings.Cut: "Cut slices s around the first instance of sep, returning the text before and after sep. The found result reports whether sep appears in s. If sep does not appear in s, cut returns s, "", false.": IT RETURNS 'Lib.cut s sep'; the world is as it was but for the count of draws. (LAID: no walk: one application.) -/
theorem Tryd.strings_Cut (s sep : ByteArray) (m : Int) (w : World) (hs : s.size < 4294967281) (hm : w.cell? ⟨2, 0, none⟩ = some (.int .i64 m)) :
 Calls Tryd.prog 29 #[.string s, .string sep] w fun e w' => e = .returned (.tuple #[.string ⟨(Lib.cut s.data.toList sep.data.toList).1.toArray⟩, .string ⟨(Lib.cut s.data.toList sep.data.toList).2.1.toArray⟩, .bool (Lib.cut s.data.toList sep.data.toList).2.2]) ∧ ∃ n, w' = w.drewN n := Any.strings_Cut Tryd.lays145 s sep m w hs hm
def Tryd.lays101_ren : Go.Shelf.Ren := ⟨fun | 101 => 92 | 208 => 102 | 206 => 107 | n => n, fun | 9 => 9 | 4 => 4 | 3 => 3 | n => n, fun | n => n⟩
theorem Tryd.lays101 : Go.Proofs.Lays.n101 Tryd.prog Tryd.lays101_ren := {
 mixed := by kernel_rfl
 f101 := Tryd.func92.trans (congrArg some (by kernel_rfl))
 f206 := Tryd.func107.trans (congrArg some (by kernel_rfl))
 f208 := Tryd.func102.trans (congrArg some (by kernel_rfl))
 t3 := Tryd.underlying3
 a3 := Tryd.isAgg3
 z3 := Tryd.sizeOf3
 v3 := Tryd.zeroValue3
 t4 := Tryd.underlying4
 a4 := Tryd.isAgg4
 z4 := Tryd.sizeOf4
 v4 := Tryd.zeroValue4
 t9 := Tryd.underlying9
 a9 := Tryd.isAgg9
 z9 := Tryd.sizeOf9
 v9 := Tryd.zeroValue9 }
open Go.RowKit Go.Lib in
/-- strings.TrimPrefix: "TrimPrefix returns s without the provided leading prefix string. If s doesn't start with prefix, s is returned unchanged.": IT RETURNS 'Lib.trimPrefix s prefix'; the world is as it was. (LAID: no walk: one application.) -/
theorem Tryd.strings_TrimPrefix (s p : ByteArray) (w : World) :
 Calls Tryd.prog 92 #[.string s, .string p] w fun e w' => e = .returned (.string ⟨(Lib.trimPrefix s.data.toList p.data.toList).toArray⟩) ∧ w' = w := Any.strings_TrimPrefix Tryd.lays101 s p w
def Tryd.lays229_ren : Go.Shelf.Ren := ⟨fun | 229 => 45 | n => n, fun | 9 => 9 | 40 => 83 | 31 => 62 | 152 => 108 | 3 => 3 | 0 => 0 | 4 => 4 | 21 => 21 | 154 => 110 | n => n, fun | n => n⟩
theorem Tryd.lays229 : Go.Proofs.Lays.n229 Tryd.prog Tryd.lays229_ren := {
 mixed := by kernel_rfl
 f229 := Tryd.func45.trans (congrArg some (by kernel_rfl))
 t0 := Tryd.underlying0
 a0 := Tryd.isAgg0
 z0 := Tryd.sizeOf0
 v0 := Tryd.zeroValue0
 t3 := Tryd.underlying3
 a3 := Tryd.isAgg3
 z3 := Tryd.sizeOf3
 v3 := Tryd.zeroValue3
 t4 := Tryd.underlying4
 a4 := Tryd.isAgg4
 z4 := Tryd.sizeOf4
 v4 := Tryd.zeroValue4
 t9 := Tryd.underlying9
 a9 := Tryd.isAgg9
 z9 := Tryd.sizeOf9
 v9 := Tryd.zeroValue9
 t21 := Tryd.underlying21
 a21 := Tryd.isAgg21
 z21 := Tryd.sizeOf21
 v21 := Tryd.zeroValue21
 t31 := Tryd.underlying62
 a31 := Tryd.isAgg62
 z31 := Tryd.sizeOf62
 v31 := Tryd.zeroValue62
 t40 := Tryd.underlying83
 a40 := Tryd.isAgg83
 z40 := Tryd.sizeOf83
 v40 := Tryd.zeroValue83
 t152 := Tryd.underlying108
 a152 := Tryd.isAgg108
 z152 := Tryd.sizeOf108
 v152 := Tryd.zeroValue108
 t154 := Tryd.underlying110
 a154 := Tryd.isAgg110
 z154 := Tryd.sizeOf110
 v154 := Tryd.zeroValue110 }
open Go.RowKit Go.Lib in
/-- .. over a hand of the authors' house's premise as it stands. (LAID: no walk: one application.) -/
theorem Tryd.strings_FieldsFunc (g : Nat) (lb : Array Value) (eg : ∀ args w, (callFunc g args).run Tryd.prog w = .ok (.enter g args) w) (p : Nat → Bool) (s : ByteArray) (w : World) (hs : s.size ≤ 4294967296) (hp : PredAt Tryd.prog g lb encR p w) :
 Calls Tryd.prog 45 #[.string s, .func (.func g) #[] lb] w fun e w' => ∃ A, e = .returned (.slice (some ⟨A, 0, none⟩) (Lib.goFieldsP p s).length (Lib.goFieldsP p s).length) ∧ w.heap.size ≤ A ∧
  w'.ownsRow w.heap.size 9 1 (.slice (some ⟨A, 0, none⟩) (Lib.goFieldsP p s).length (Lib.goFieldsP p s).length) (Lib.goFieldsP p s).length ((Lib.goFieldsP p s).map Value.string) ∧ Below w.heap.size w w' := Any.strings_FieldsFunc Tryd.lays229 g lb eg p s w hs hp (by kernel_rfl) (by kernel_rfl)
end Go.Proofs
