/-
  NARROWER THAN 'FOR EVERY INPUT', by the rows' own cells (each row's printed sentence says how): SourceNumbers: laid · SourceChecks: laid · SourceBack: laid · SourceRoom: laid · SourceSizes: laid.
  DERIVED. THE GIVEN ROWS OF THIS SEAT. 5 by the template 'for every input the law returns true; each argument reads behind the call as it read before'; 0 by the template 'total and deterministic' (their statements: YtjedbamcjgabpaaDoorTotals.lean).
  GIVEN WITH THE SEED: the statements are not yours to turn. If you find one false, say at which input.
  Laid BY PROGRAM, IN A SANDBOX (cutbox-rows.mjs): the forced cells as the released guide's own fill.sh prints them over the translation c4bfde6cb974ad22… (all of the seat's roots in one cut). By AI agents, Wed Nov 11 2026. No macro, syntax, notation, axiom, sorry.
-/
import Derived.Test.YtjedbamcjgabpaaDoorChecked
import GoSem.PinnedTables
import GoSem.Claim
import GoSem.ClaimJoined
import GoSem.ClaimMapViews
import Derived.JoinedTies
import Derived.KernelRfl
namespace Go.Proofs.YtjedbamcjgabpaaDoor
/- THE CELL 'sum', in the pinned program and in every row, IS THE sha256 OF THE DUMP (.gsa) THAT YtjedbamcjgabpaaDoorProg.lean LOADS. Nothing in Lean hashes anything: it is a label: what it is worth is what the hold of that sum in a sandbox is worth. -/
noncomputable def Tryd.pinned : Pinned := { name := "ytjedbamcjgabpaadoor", sum := "c4bfde6cb974ad227c71a67682e08cda729d470fefe0f40d39a9e37f9f0071fc", checked := Tryd.checked }
namespace Rows
def none {H : Type} : Left H := { results := [], args := [] }

/- WHAT THE LISTED PACKAGE-LEVEL VARIABLES READ AS WHEN THE CALL BEGINS. Each datum BY PROGRAM (the guide's laid-datum.mjs) off the statement by which the dump's own 'gosem.cut.vars' lays the variable. In a bare row this is a premise. The card (YtjedbamcjgabpaaDoorCards.lean) ties it to the program's text. -/
def laid_unicode_utf8_acceptRanges {H : Type} : DataW H := .agg [.agg [.lit (.int .u8 128), .lit (.int .u8 191)], .agg [.lit (.int .u8 160), .lit (.int .u8 191)], .agg [.lit (.int .u8 128), .lit (.int .u8 159)], .agg [.lit (.int .u8 144), .lit (.int .u8 191)], .agg [.lit (.int .u8 128), .lit (.int .u8 143)], .agg [.lit (.int .u8 0), .lit (.int .u8 0)], .agg [.lit (.int .u8 0), .lit (.int .u8 0)], .agg [.lit (.int .u8 0), .lit (.int .u8 0)], .agg [.lit (.int .u8 0), .lit (.int .u8 0)], .agg [.lit (.int .u8 0), .lit (.int .u8 0)], .agg [.lit (.int .u8 0), .lit (.int .u8 0)], .agg [.lit (.int .u8 0), .lit (.int .u8 0)], .agg [.lit (.int .u8 0), .lit (.int .u8 0)], .agg [.lit (.int .u8 0), .lit (.int .u8 0)], .agg [.lit (.int .u8 0), .lit (.int .u8 0)], .agg [.lit (.int .u8 0), .lit (.int .u8 0)]]
def laid_vesper_code_rows {H : Type} : DataW H := .agg [.lit (.string []), .lit (.string [73, 78, 67]), .lit (.string [68, 69, 67]), .lit (.string []), .lit (.string [76, 68, 65]), .lit (.string [83, 84, 82]), .lit (.string []), .lit (.string []), .lit (.string [71, 76, 79]), .lit (.string [71, 72, 73]), .lit (.string [80, 76, 79]), .lit (.string [80, 72, 73]), .lit (.string []), .lit (.string [83, 69, 80]), .lit (.string [83, 69, 88]), .lit (.string [])]
def laid_vesper_code_threes {H : Type} : DataW H := .agg [.lit (.string [66, 82]), .lit (.string [66, 81]), .lit (.string [66, 90]), .lit (.string [66, 68, 70]), .lit (.string [66, 49]), .lit (.string [66, 50]), .lit (.string [66, 51]), .lit (.string [66, 52]), .lit (.string [83, 75, 80]), .lit (.string [66, 78, 81]), .lit (.string [66, 78, 90]), .lit (.string [66, 78, 70]), .lit (.string [66, 78, 49]), .lit (.string [66, 78, 50]), .lit (.string [66, 78, 51]), .lit (.string [66, 78, 52])]
def laid_vesper_code_sevens {H : Type} : DataW H := .agg [.lit (.string [82, 69, 84]), .lit (.string [68, 73, 83]), .lit (.string [76, 68, 88, 65]), .lit (.string [83, 84, 88, 68]), .lit (.string [65, 68, 67]), .lit (.string [83, 68, 66]), .lit (.string [83, 72, 82, 67]), .lit (.string [83, 77, 66]), .lit (.string [83, 65, 86]), .lit (.string [77, 65, 82, 75]), .lit (.string [82, 69, 81]), .lit (.string [83, 69, 81]), .lit (.string [65, 68, 67, 73]), .lit (.string [83, 68, 66, 73]), .lit (.string [83, 72, 76, 67]), .lit (.string [83, 77, 66, 73])]
def laid_vesper_code_twelves {H : Type} : DataW H := .agg [.lit (.string [76, 66, 82]), .lit (.string [76, 66, 81]), .lit (.string [76, 66, 90]), .lit (.string [76, 66, 68, 70]), .lit (.string [78, 79, 80]), .lit (.string [76, 83, 78, 81]), .lit (.string [76, 83, 78, 90]), .lit (.string [76, 83, 78, 70]), .lit (.string [76, 83, 75, 80]), .lit (.string [76, 66, 78, 81]), .lit (.string [76, 66, 78, 90]), .lit (.string [76, 66, 78, 70]), .lit (.string [76, 83, 73, 69]), .lit (.string [76, 83, 81]), .lit (.string [76, 83, 90]), .lit (.string [76, 83, 68, 70])]
def laid_vesper_code_fifteens {H : Type} : DataW H := .agg [.lit (.string [76, 68, 88]), .lit (.string [79, 82]), .lit (.string [65, 78, 68]), .lit (.string [88, 79, 82]), .lit (.string [65, 68, 68]), .lit (.string [83, 68]), .lit (.string [83, 72, 82]), .lit (.string [83, 77]), .lit (.string [76, 68, 73]), .lit (.string [79, 82, 73]), .lit (.string [65, 78, 73]), .lit (.string [88, 82, 73]), .lit (.string [65, 68, 73]), .lit (.string [83, 68, 73]), .lit (.string [83, 72, 76]), .lit (.string [83, 77, 73])]
def laid_vesper_code_lengths {H : Type} : DataW H := .agg [.lit (.int .i64 0), .lit (.int .i64 1), .lit (.int .i64 1), .lit (.int .i64 1), .lit (.int .i64 2), .lit (.int .i64 2), .lit (.int .i64 3)]
def laid_vesper_code_digits {H : Type} : DataW H := .agg [.lit (.int .i64 0), .lit (.int .i64 0), .lit (.int .i64 1), .lit (.int .i64 1), .lit (.int .i64 2), .lit (.int .i64 2), .lit (.int .i64 4)]
/-- One of Go's own tables, pinned by name: the form's constant. -/
def laid_unicode_utf8_first : DataW Unit := Go.Pinned.utf8First

/-- 'vesperlaw13.SourceNumbers': WHATEVER THE INPUT: true; the input reads as it did. -/
def sourceNumbersSpec : ChangeSpec := { name := "sourceNumbers", fn := fun _ => fun
  | [] => { results := [.lit (.bool true)], args := [] }
  | _ => none }
def sourceNumbersRow : OpenClaim := { program := "ytjedbamcjgabpaadoor", sum := "c4bfde6cb974ad227c71a67682e08cda729d470fefe0f40d39a9e37f9f0071fc", func := "vesper/vesperlaw13.SourceNumbers", spec := "sourceNumbers", inPlace := ["internal/bytealg.IndexByteString", "internal/bytealg.IndexString", "internal/abi.NoEscape", "internal/bytealg.MakeNoZero"], unfollowed := true, recurses := true, named := ["vesper/code.threes", "vesper/code.sevens", "vesper/code.twelves", "vesper/code.fifteens", "vesper/code.rows", "vesper/code.lengths", "internal/bytealg.MaxLen", "unicode/utf8.first", "unicode/utf8.acceptRanges", "vesper/code.digits"], apart := false, laid := [("unicode/utf8.acceptRanges", laid_unicode_utf8_acceptRanges), ("vesper/code.rows", laid_vesper_code_rows), ("vesper/code.threes", laid_vesper_code_threes), ("vesper/code.sevens", laid_vesper_code_sevens), ("vesper/code.twelves", laid_vesper_code_twelves), ("vesper/code.fifteens", laid_vesper_code_fifteens), ("vesper/code.lengths", laid_vesper_code_lengths), ("vesper/code.digits", laid_vesper_code_digits), ("unicode/utf8.first", laid_unicode_utf8_first)] }
def SourceNumbersSaid : Prop := sourceNumbersRow.holds Tryd.pinned (OpenSpec.ofChange sourceNumbersSpec)

/-- ITS FALSE NEIGHBOUR: 'it returns false'. Refute it at one input. -/
def sourceNumbersWrong : ChangeSpec := { name := "sourceNumbers", fn := fun _ => fun
  | [] => { results := [.lit (.bool false)], args := [] }
  | _ => none }
def SourceNumbersWrongFalsely : Prop := sourceNumbersRow.holds Tryd.pinned (OpenSpec.ofChange sourceNumbersWrong)

/-- 'vesperlaw13.SourceChecks': WHATEVER THE INPUT: true; the input reads as it did. -/
def sourceChecksSpec : ChangeSpec := { name := "sourceChecks", fn := fun _ => fun
  | [d] => { results := [.lit (.bool true)], args := [d] }
  | _ => none }
def sourceChecksRow : OpenClaim := { program := "ytjedbamcjgabpaadoor", sum := "c4bfde6cb974ad227c71a67682e08cda729d470fefe0f40d39a9e37f9f0071fc", func := "vesper/vesperlaw13.SourceChecks", spec := "sourceChecks", inPlace := ["internal/bytealg.IndexByteString", "internal/bytealg.IndexString", "internal/abi.NoEscape", "internal/bytealg.MakeNoZero"], unfollowed := true, recurses := true, named := ["vesper/code.threes", "vesper/code.sevens", "vesper/code.twelves", "vesper/code.fifteens", "vesper/code.rows", "vesper/code.lengths", "internal/bytealg.MaxLen", "unicode/utf8.first", "unicode/utf8.acceptRanges", "vesper/code.digits"], apart := false, laid := [("unicode/utf8.acceptRanges", laid_unicode_utf8_acceptRanges), ("vesper/code.rows", laid_vesper_code_rows), ("vesper/code.threes", laid_vesper_code_threes), ("vesper/code.sevens", laid_vesper_code_sevens), ("vesper/code.twelves", laid_vesper_code_twelves), ("vesper/code.fifteens", laid_vesper_code_fifteens), ("vesper/code.lengths", laid_vesper_code_lengths), ("vesper/code.digits", laid_vesper_code_digits), ("unicode/utf8.first", laid_unicode_utf8_first)] }
def SourceChecksSaid : Prop := sourceChecksRow.holds Tryd.pinned (OpenSpec.ofChange sourceChecksSpec)

/-- ITS FALSE NEIGHBOUR: 'it returns false'. Refute it at one input. -/
def sourceChecksWrong : ChangeSpec := { name := "sourceChecks", fn := fun _ => fun
  | [d] => { results := [.lit (.bool false)], args := [d] }
  | _ => none }
def SourceChecksWrongFalsely : Prop := sourceChecksRow.holds Tryd.pinned (OpenSpec.ofChange sourceChecksWrong)

/-- 'vesperlaw13.SourceBack': WHATEVER THE INPUT: true; the input reads as it did. -/
def sourceBackSpec : ChangeSpec := { name := "sourceBack", fn := fun _ => fun
  | [d1, d2] => { results := [.lit (.bool true)], args := [d1, d2] }
  | _ => none }
def sourceBackRow : OpenClaim := { program := "ytjedbamcjgabpaadoor", sum := "c4bfde6cb974ad227c71a67682e08cda729d470fefe0f40d39a9e37f9f0071fc", func := "vesper/vesperlaw13.SourceBack", spec := "sourceBack", inPlace := ["internal/bytealg.IndexByteString", "internal/bytealg.IndexString", "internal/abi.NoEscape", "internal/bytealg.MakeNoZero"], unfollowed := true, recurses := true, named := ["vesper/code.threes", "vesper/code.sevens", "vesper/code.twelves", "vesper/code.fifteens", "vesper/code.rows", "vesper/code.lengths", "internal/bytealg.MaxLen", "unicode/utf8.first", "unicode/utf8.acceptRanges", "vesper/code.digits"], apart := false, laid := [("unicode/utf8.acceptRanges", laid_unicode_utf8_acceptRanges), ("vesper/code.rows", laid_vesper_code_rows), ("vesper/code.threes", laid_vesper_code_threes), ("vesper/code.sevens", laid_vesper_code_sevens), ("vesper/code.twelves", laid_vesper_code_twelves), ("vesper/code.fifteens", laid_vesper_code_fifteens), ("vesper/code.lengths", laid_vesper_code_lengths), ("vesper/code.digits", laid_vesper_code_digits), ("unicode/utf8.first", laid_unicode_utf8_first)] }
def SourceBackSaid : Prop := sourceBackRow.holds Tryd.pinned (OpenSpec.ofChange sourceBackSpec)

/-- ITS FALSE NEIGHBOUR: 'it returns false'. Refute it at one input. -/
def sourceBackWrong : ChangeSpec := { name := "sourceBack", fn := fun _ => fun
  | [d1, d2] => { results := [.lit (.bool false)], args := [d1, d2] }
  | _ => none }
def SourceBackWrongFalsely : Prop := sourceBackRow.holds Tryd.pinned (OpenSpec.ofChange sourceBackWrong)

/-- 'vesperlaw13.SourceRoom': WHATEVER THE INPUT: true; the input reads as it did. -/
def sourceRoomSpec : ChangeSpec := { name := "sourceRoom", fn := fun _ => fun
  | [d1, d2] => { results := [.lit (.bool true)], args := [d1, d2] }
  | _ => none }
def sourceRoomRow : OpenClaim := { program := "ytjedbamcjgabpaadoor", sum := "c4bfde6cb974ad227c71a67682e08cda729d470fefe0f40d39a9e37f9f0071fc", func := "vesper/vesperlaw13.SourceRoom", spec := "sourceRoom", inPlace := ["internal/bytealg.IndexByteString", "internal/bytealg.IndexString", "internal/abi.NoEscape", "internal/bytealg.MakeNoZero"], unfollowed := true, recurses := true, named := ["vesper/code.threes", "vesper/code.sevens", "vesper/code.twelves", "vesper/code.fifteens", "vesper/code.rows", "vesper/code.lengths", "internal/bytealg.MaxLen", "unicode/utf8.first", "unicode/utf8.acceptRanges", "vesper/code.digits"], apart := false, laid := [("unicode/utf8.acceptRanges", laid_unicode_utf8_acceptRanges), ("vesper/code.rows", laid_vesper_code_rows), ("vesper/code.threes", laid_vesper_code_threes), ("vesper/code.sevens", laid_vesper_code_sevens), ("vesper/code.twelves", laid_vesper_code_twelves), ("vesper/code.fifteens", laid_vesper_code_fifteens), ("vesper/code.lengths", laid_vesper_code_lengths), ("vesper/code.digits", laid_vesper_code_digits), ("unicode/utf8.first", laid_unicode_utf8_first)] }
def SourceRoomSaid : Prop := sourceRoomRow.holds Tryd.pinned (OpenSpec.ofChange sourceRoomSpec)

/-- ITS FALSE NEIGHBOUR: 'it returns false'. Refute it at one input. -/
def sourceRoomWrong : ChangeSpec := { name := "sourceRoom", fn := fun _ => fun
  | [d1, d2] => { results := [.lit (.bool false)], args := [d1, d2] }
  | _ => none }
def SourceRoomWrongFalsely : Prop := sourceRoomRow.holds Tryd.pinned (OpenSpec.ofChange sourceRoomWrong)

/-- 'vesperlaw13.SourceSizes': WHATEVER THE INPUT: true; the input reads as it did. -/
def sourceSizesSpec : ChangeSpec := { name := "sourceSizes", fn := fun _ => fun
  | [d] => { results := [.lit (.bool true)], args := [d] }
  | _ => none }
def sourceSizesRow : OpenClaim := { program := "ytjedbamcjgabpaadoor", sum := "c4bfde6cb974ad227c71a67682e08cda729d470fefe0f40d39a9e37f9f0071fc", func := "vesper/vesperlaw13.SourceSizes", spec := "sourceSizes", inPlace := ["internal/bytealg.IndexByteString", "internal/bytealg.IndexString", "internal/abi.NoEscape", "internal/bytealg.MakeNoZero"], unfollowed := true, recurses := true, named := ["vesper/code.threes", "vesper/code.sevens", "vesper/code.twelves", "vesper/code.fifteens", "vesper/code.rows", "vesper/code.lengths", "internal/bytealg.MaxLen", "unicode/utf8.first", "unicode/utf8.acceptRanges", "vesper/code.digits"], apart := false, laid := [("unicode/utf8.acceptRanges", laid_unicode_utf8_acceptRanges), ("vesper/code.rows", laid_vesper_code_rows), ("vesper/code.threes", laid_vesper_code_threes), ("vesper/code.sevens", laid_vesper_code_sevens), ("vesper/code.twelves", laid_vesper_code_twelves), ("vesper/code.fifteens", laid_vesper_code_fifteens), ("vesper/code.lengths", laid_vesper_code_lengths), ("vesper/code.digits", laid_vesper_code_digits), ("unicode/utf8.first", laid_unicode_utf8_first)] }
def SourceSizesSaid : Prop := sourceSizesRow.holds Tryd.pinned (OpenSpec.ofChange sourceSizesSpec)

/-- ITS FALSE NEIGHBOUR: 'it returns false'. Refute it at one input. -/
def sourceSizesWrong : ChangeSpec := { name := "sourceSizes", fn := fun _ => fun
  | [d] => { results := [.lit (.bool false)], args := [d] }
  | _ => none }
def SourceSizesWrongFalsely : Prop := sourceSizesRow.holds Tryd.pinned (OpenSpec.ofChange sourceSizesWrong)

/- THE SECOND FORM. 'bulk': how many values and letters a reading holds, each counted each time it is reached (what is shared counts as often as it is met; a slice's spare places count too). A statement '..UptoSaid' is the law's where the arguments, and the package variables that the reading takes, are together of bulk at most 1048576: NARROWER than '..Said'. Prove '..Said' where nothing that the law and all that it calls make is longer than what came in: it says more and counts as full. Else prove '..UptoSaid'. A law counts once. -/
mutual
def uptoBulk {H : Type} : DataW H → Nat
  | .lit (.string bytes) => bytes.length + 1
  | .lit _ => 1
  | .nil => 1
  | .ptr d => uptoBulk d + 1
  | .slice elems spare => uptoBulkAll elems + uptoBulkAll spare + 1
  | .agg parts => uptoBulkAll parts + 1
  | .iface _ d => uptoBulk d + 1
  | .map entries => uptoBulkEntries entries + 1
  | .held _ => 1
def uptoBulkAll {H : Type} : List (DataW H) → Nat
  | [] => 0
  | d :: r => uptoBulk d + uptoBulkAll r
def uptoBulkEntries {H : Type} : List (Lit × DataW H) → Nat
  | [] => 0
  | x :: r => uptoBulkEntry x + uptoBulkEntries r
def uptoBulkEntry {H : Type} : Lit × DataW H → Nat
  | (.string bytes, d) => bytes.length + uptoBulk d + 1
  | (_, d) => uptoBulk d + 1
 end
def uptoSmall : (H : Type) → List (DataW H) → Bool := fun _ ds => decide (uptoBulkAll ds ≤ 1048576)
def OpenSpec.upto (s : _root_.Go.ChangeSpec) : _root_.Go.OpenSpec := { _root_.Go.OpenSpec.ofChange s with cond := some uptoSmall }

/-- 'vesperlaw13.SourceNumbers', WHERE WHAT IT READS IS OF BULK AT MOST 1048576: true; the input reads as it did. -/
def sourceNumbersUptoRow : OpenClaim := { program := "ytjedbamcjgabpaadoor", sum := "c4bfde6cb974ad227c71a67682e08cda729d470fefe0f40d39a9e37f9f0071fc", func := "vesper/vesperlaw13.SourceNumbers", spec := "sourceNumbers", inPlace := ["internal/bytealg.IndexByteString", "internal/bytealg.IndexString", "internal/abi.NoEscape", "internal/bytealg.MakeNoZero"], unfollowed := true, recurses := true, named := ["vesper/code.threes", "vesper/code.sevens", "vesper/code.twelves", "vesper/code.fifteens", "vesper/code.rows", "vesper/code.lengths", "internal/bytealg.MaxLen", "unicode/utf8.first", "unicode/utf8.acceptRanges", "vesper/code.digits"], apart := false, laid := [("unicode/utf8.acceptRanges", laid_unicode_utf8_acceptRanges), ("vesper/code.rows", laid_vesper_code_rows), ("vesper/code.threes", laid_vesper_code_threes), ("vesper/code.sevens", laid_vesper_code_sevens), ("vesper/code.twelves", laid_vesper_code_twelves), ("vesper/code.fifteens", laid_vesper_code_fifteens), ("vesper/code.lengths", laid_vesper_code_lengths), ("vesper/code.digits", laid_vesper_code_digits), ("unicode/utf8.first", laid_unicode_utf8_first)], narrowed := true }
def SourceNumbersUptoSaid : Prop := sourceNumbersUptoRow.holds Tryd.pinned (OpenSpec.upto sourceNumbersSpec)

/-- 'vesperlaw13.SourceChecks', WHERE WHAT IT READS IS OF BULK AT MOST 1048576: true; the input reads as it did. -/
def sourceChecksUptoRow : OpenClaim := { program := "ytjedbamcjgabpaadoor", sum := "c4bfde6cb974ad227c71a67682e08cda729d470fefe0f40d39a9e37f9f0071fc", func := "vesper/vesperlaw13.SourceChecks", spec := "sourceChecks", inPlace := ["internal/bytealg.IndexByteString", "internal/bytealg.IndexString", "internal/abi.NoEscape", "internal/bytealg.MakeNoZero"], unfollowed := true, recurses := true, named := ["vesper/code.threes", "vesper/code.sevens", "vesper/code.twelves", "vesper/code.fifteens", "vesper/code.rows", "vesper/code.lengths", "internal/bytealg.MaxLen", "unicode/utf8.first", "unicode/utf8.acceptRanges", "vesper/code.digits"], apart := false, laid := [("unicode/utf8.acceptRanges", laid_unicode_utf8_acceptRanges), ("vesper/code.rows", laid_vesper_code_rows), ("vesper/code.threes", laid_vesper_code_threes), ("vesper/code.sevens", laid_vesper_code_sevens), ("vesper/code.twelves", laid_vesper_code_twelves), ("vesper/code.fifteens", laid_vesper_code_fifteens), ("vesper/code.lengths", laid_vesper_code_lengths), ("vesper/code.digits", laid_vesper_code_digits), ("unicode/utf8.first", laid_unicode_utf8_first)], narrowed := true }
def SourceChecksUptoSaid : Prop := sourceChecksUptoRow.holds Tryd.pinned (OpenSpec.upto sourceChecksSpec)

/-- 'vesperlaw13.SourceBack', WHERE WHAT IT READS IS OF BULK AT MOST 1048576: true; the input reads as it did. -/
def sourceBackUptoRow : OpenClaim := { program := "ytjedbamcjgabpaadoor", sum := "c4bfde6cb974ad227c71a67682e08cda729d470fefe0f40d39a9e37f9f0071fc", func := "vesper/vesperlaw13.SourceBack", spec := "sourceBack", inPlace := ["internal/bytealg.IndexByteString", "internal/bytealg.IndexString", "internal/abi.NoEscape", "internal/bytealg.MakeNoZero"], unfollowed := true, recurses := true, named := ["vesper/code.threes", "vesper/code.sevens", "vesper/code.twelves", "vesper/code.fifteens", "vesper/code.rows", "vesper/code.lengths", "internal/bytealg.MaxLen", "unicode/utf8.first", "unicode/utf8.acceptRanges", "vesper/code.digits"], apart := false, laid := [("unicode/utf8.acceptRanges", laid_unicode_utf8_acceptRanges), ("vesper/code.rows", laid_vesper_code_rows), ("vesper/code.threes", laid_vesper_code_threes), ("vesper/code.sevens", laid_vesper_code_sevens), ("vesper/code.twelves", laid_vesper_code_twelves), ("vesper/code.fifteens", laid_vesper_code_fifteens), ("vesper/code.lengths", laid_vesper_code_lengths), ("vesper/code.digits", laid_vesper_code_digits), ("unicode/utf8.first", laid_unicode_utf8_first)], narrowed := true }
def SourceBackUptoSaid : Prop := sourceBackUptoRow.holds Tryd.pinned (OpenSpec.upto sourceBackSpec)

/-- 'vesperlaw13.SourceRoom', WHERE WHAT IT READS IS OF BULK AT MOST 1048576: true; the input reads as it did. -/
def sourceRoomUptoRow : OpenClaim := { program := "ytjedbamcjgabpaadoor", sum := "c4bfde6cb974ad227c71a67682e08cda729d470fefe0f40d39a9e37f9f0071fc", func := "vesper/vesperlaw13.SourceRoom", spec := "sourceRoom", inPlace := ["internal/bytealg.IndexByteString", "internal/bytealg.IndexString", "internal/abi.NoEscape", "internal/bytealg.MakeNoZero"], unfollowed := true, recurses := true, named := ["vesper/code.threes", "vesper/code.sevens", "vesper/code.twelves", "vesper/code.fifteens", "vesper/code.rows", "vesper/code.lengths", "internal/bytealg.MaxLen", "unicode/utf8.first", "unicode/utf8.acceptRanges", "vesper/code.digits"], apart := false, laid := [("unicode/utf8.acceptRanges", laid_unicode_utf8_acceptRanges), ("vesper/code.rows", laid_vesper_code_rows), ("vesper/code.threes", laid_vesper_code_threes), ("vesper/code.sevens", laid_vesper_code_sevens), ("vesper/code.twelves", laid_vesper_code_twelves), ("vesper/code.fifteens", laid_vesper_code_fifteens), ("vesper/code.lengths", laid_vesper_code_lengths), ("vesper/code.digits", laid_vesper_code_digits), ("unicode/utf8.first", laid_unicode_utf8_first)], narrowed := true }
def SourceRoomUptoSaid : Prop := sourceRoomUptoRow.holds Tryd.pinned (OpenSpec.upto sourceRoomSpec)

/-- 'vesperlaw13.SourceSizes', WHERE WHAT IT READS IS OF BULK AT MOST 1048576: true; the input reads as it did. -/
def sourceSizesUptoRow : OpenClaim := { program := "ytjedbamcjgabpaadoor", sum := "c4bfde6cb974ad227c71a67682e08cda729d470fefe0f40d39a9e37f9f0071fc", func := "vesper/vesperlaw13.SourceSizes", spec := "sourceSizes", inPlace := ["internal/bytealg.IndexByteString", "internal/bytealg.IndexString", "internal/abi.NoEscape", "internal/bytealg.MakeNoZero"], unfollowed := true, recurses := true, named := ["vesper/code.threes", "vesper/code.sevens", "vesper/code.twelves", "vesper/code.fifteens", "vesper/code.rows", "vesper/code.lengths", "internal/bytealg.MaxLen", "unicode/utf8.first", "unicode/utf8.acceptRanges", "vesper/code.digits"], apart := false, laid := [("unicode/utf8.acceptRanges", laid_unicode_utf8_acceptRanges), ("vesper/code.rows", laid_vesper_code_rows), ("vesper/code.threes", laid_vesper_code_threes), ("vesper/code.sevens", laid_vesper_code_sevens), ("vesper/code.twelves", laid_vesper_code_twelves), ("vesper/code.fifteens", laid_vesper_code_fifteens), ("vesper/code.lengths", laid_vesper_code_lengths), ("vesper/code.digits", laid_vesper_code_digits), ("unicode/utf8.first", laid_unicode_utf8_first)], narrowed := true }
def SourceSizesUptoSaid : Prop := sourceSizesUptoRow.holds Tryd.pinned (OpenSpec.upto sourceSizesSpec)

end Rows
end Go.Proofs.YtjedbamcjgabpaaDoor
