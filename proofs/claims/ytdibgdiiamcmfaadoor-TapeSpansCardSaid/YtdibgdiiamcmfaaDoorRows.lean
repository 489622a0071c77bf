/-
  NARROWER THAN 'FOR EVERY INPUT', by the rows' own cells (each row's printed sentence says how): TapeNames: laid · TapeWrites: laid · TapeReads: laid · TapeNear: laid · TapeHeard: laid · TapeSpans: laid · TapeBack: laid.
  DERIVED. THE GIVEN ROWS OF THIS SEAT. 7 by the template 'for every input the law returns true; each argument reads behind the call as it read before'; 0 by the template 'total and deterministic' (their statements: YtdibgdiiamcmfaaDoorTotals.lean).
  GIVEN WITH THE SEED: the statements are not yours to turn. If you find one false, say at which input.
  Laid BY PROGRAM, IN A SANDBOX (cutbox-rows.mjs): the forced cells as the released guide's own fill.sh prints them over the translation b35f17859e917417… (all of the seat's roots in one cut). By AI agents, Wed Nov 11 2026. No macro, syntax, notation, axiom, sorry.
-/
import Derived.Test.YtdibgdiiamcmfaaDoorChecked
import GoSem.Claim
import GoSem.ClaimJoined
import GoSem.ClaimMapViews
import Derived.JoinedTies
import Derived.KernelRfl
namespace Go.Proofs.YtdibgdiiamcmfaaDoor
/- THE CELL 'sum', in the pinned program and in every row, IS THE sha256 OF THE DUMP (.gsa) THAT YtdibgdiiamcmfaaDoorProg.lean LOADS. Nothing in Lean hashes anything: it is a label: what it is worth is what the hold of that sum in a sandbox is worth. -/
noncomputable def Tryd.pinned : Pinned := { name := "ytdibgdiiamcmfaadoor", sum := "b35f17859e917417e35f9024b68ce8a524dd8503257f555a3d157f88ab22d149", checked := Tryd.checked }
namespace Rows
def none {H : Type} : Left H := { results := [], args := [] }

/- WHAT THE LISTED PACKAGE-LEVEL VARIABLES READ AS WHEN THE CALL BEGINS. Each datum BY PROGRAM (the guide's laid-datum.mjs) off the statement by which the dump's own 'gosem.cut.vars' lays the variable. In a bare row this is a premise. The card (YtdibgdiiamcmfaaDoorCards.lean) ties it to the program's text. -/
def laid_errors_errorType {H : Type} : DataW H := .iface "internal/reflectlite.rtype" (.agg [.ptr (.lit (.string [101, 114, 114, 111, 114]))])

/-- 'vesperlaw12.TapeNames': WHATEVER THE INPUT: true; the input reads as it did. -/
def tapeNamesSpec : ChangeSpec := { name := "tapeNames", fn := fun _ => fun
  | [] => { results := [.lit (.bool true)], args := [] }
  | _ => none }
def tapeNamesRow : OpenClaim := { program := "ytdibgdiiamcmfaadoor", sum := "b35f17859e917417e35f9024b68ce8a524dd8503257f555a3d157f88ab22d149", func := "vesper/vesperlaw12.TapeNames", spec := "tapeNames", inPlace := ["internal/reflectlite.ValueOf", "(internal/reflectlite.Value).Type", "(internal/reflectlite.Value).IsNil", "internal/reflectlite.TypeOf", "(internal/reflectlite.Value).Elem", "(internal/reflectlite.Value).Set"], unfollowed := true, recurses := true, named := ["errors.errorType"], apart := false, laid := [("errors.errorType", laid_errors_errorType)] }
def TapeNamesSaid : Prop := tapeNamesRow.holds Tryd.pinned (OpenSpec.ofChange tapeNamesSpec)

/-- ITS FALSE NEIGHBOUR: 'it returns false'. Refute it at one input. -/
def tapeNamesWrong : ChangeSpec := { name := "tapeNames", fn := fun _ => fun
  | [] => { results := [.lit (.bool false)], args := [] }
  | _ => none }
def TapeNamesWrongFalsely : Prop := tapeNamesRow.holds Tryd.pinned (OpenSpec.ofChange tapeNamesWrong)

/-- 'vesperlaw12.TapeWrites': WHATEVER THE INPUT: true; the input reads as it did. -/
def tapeWritesSpec : ChangeSpec := { name := "tapeWrites", fn := fun _ => fun
  | [d1, d2] => { results := [.lit (.bool true)], args := [d1, d2] }
  | _ => none }
def tapeWritesRow : OpenClaim := { program := "ytdibgdiiamcmfaadoor", sum := "b35f17859e917417e35f9024b68ce8a524dd8503257f555a3d157f88ab22d149", func := "vesper/vesperlaw12.TapeWrites", spec := "tapeWrites", inPlace := ["internal/reflectlite.ValueOf", "(internal/reflectlite.Value).Type", "(internal/reflectlite.Value).IsNil", "internal/reflectlite.TypeOf", "(internal/reflectlite.Value).Elem", "(internal/reflectlite.Value).Set"], unfollowed := true, recurses := true, named := ["errors.errorType"], apart := false, laid := [("errors.errorType", laid_errors_errorType)] }
def TapeWritesSaid : Prop := tapeWritesRow.holds Tryd.pinned (OpenSpec.ofChange tapeWritesSpec)

/-- ITS FALSE NEIGHBOUR: 'it returns false'. Refute it at one input. -/
def tapeWritesWrong : ChangeSpec := { name := "tapeWrites", fn := fun _ => fun
  | [d1, d2] => { results := [.lit (.bool false)], args := [d1, d2] }
  | _ => none }
def TapeWritesWrongFalsely : Prop := tapeWritesRow.holds Tryd.pinned (OpenSpec.ofChange tapeWritesWrong)

/-- 'vesperlaw12.TapeReads': WHATEVER THE INPUT: true; the input reads as it did. -/
def tapeReadsSpec : ChangeSpec := { name := "tapeReads", fn := fun _ => fun
  | [d1, d2] => { results := [.lit (.bool true)], args := [d1, d2] }
  | _ => none }
def tapeReadsRow : OpenClaim := { program := "ytdibgdiiamcmfaadoor", sum := "b35f17859e917417e35f9024b68ce8a524dd8503257f555a3d157f88ab22d149", func := "vesper/vesperlaw12.TapeReads", spec := "tapeReads", inPlace := ["internal/reflectlite.ValueOf", "(internal/reflectlite.Value).Type", "(internal/reflectlite.Value).IsNil", "internal/reflectlite.TypeOf", "(internal/reflectlite.Value).Elem", "(internal/reflectlite.Value).Set"], unfollowed := true, recurses := true, named := ["errors.errorType"], apart := false, laid := [("errors.errorType", laid_errors_errorType)] }
def TapeReadsSaid : Prop := tapeReadsRow.holds Tryd.pinned (OpenSpec.ofChange tapeReadsSpec)

/-- ITS FALSE NEIGHBOUR: 'it returns false'. Refute it at one input. -/
def tapeReadsWrong : ChangeSpec := { name := "tapeReads", fn := fun _ => fun
  | [d1, d2] => { results := [.lit (.bool false)], args := [d1, d2] }
  | _ => none }
def TapeReadsWrongFalsely : Prop := tapeReadsRow.holds Tryd.pinned (OpenSpec.ofChange tapeReadsWrong)

/-- 'vesperlaw12.TapeNear': WHATEVER THE INPUT: true; the input reads as it did. -/
def tapeNearSpec : ChangeSpec := { name := "tapeNear", fn := fun _ => fun
  | [d1, d2, d3] => { results := [.lit (.bool true)], args := [d1, d2, d3] }
  | _ => none }
def tapeNearRow : OpenClaim := { program := "ytdibgdiiamcmfaadoor", sum := "b35f17859e917417e35f9024b68ce8a524dd8503257f555a3d157f88ab22d149", func := "vesper/vesperlaw12.TapeNear", spec := "tapeNear", inPlace := ["internal/reflectlite.ValueOf", "(internal/reflectlite.Value).Type", "(internal/reflectlite.Value).IsNil", "internal/reflectlite.TypeOf", "(internal/reflectlite.Value).Elem", "(internal/reflectlite.Value).Set"], unfollowed := true, recurses := true, named := ["errors.errorType"], apart := false, laid := [("errors.errorType", laid_errors_errorType)] }
def TapeNearSaid : Prop := tapeNearRow.holds Tryd.pinned (OpenSpec.ofChange tapeNearSpec)

/-- ITS FALSE NEIGHBOUR: 'it returns false'. Refute it at one input. -/
def tapeNearWrong : ChangeSpec := { name := "tapeNear", fn := fun _ => fun
  | [d1, d2, d3] => { results := [.lit (.bool false)], args := [d1, d2, d3] }
  | _ => none }
def TapeNearWrongFalsely : Prop := tapeNearRow.holds Tryd.pinned (OpenSpec.ofChange tapeNearWrong)

/-- 'vesperlaw12.TapeHeard': WHATEVER THE INPUT: true; the input reads as it did. -/
def tapeHeardSpec : ChangeSpec := { name := "tapeHeard", fn := fun _ => fun
  | [d] => { results := [.lit (.bool true)], args := [d] }
  | _ => none }
def tapeHeardRow : OpenClaim := { program := "ytdibgdiiamcmfaadoor", sum := "b35f17859e917417e35f9024b68ce8a524dd8503257f555a3d157f88ab22d149", func := "vesper/vesperlaw12.TapeHeard", spec := "tapeHeard", inPlace := ["internal/reflectlite.ValueOf", "(internal/reflectlite.Value).Type", "(internal/reflectlite.Value).IsNil", "internal/reflectlite.TypeOf", "(internal/reflectlite.Value).Elem", "(internal/reflectlite.Value).Set"], unfollowed := true, recurses := true, named := ["errors.errorType"], apart := false, laid := [("errors.errorType", laid_errors_errorType)] }
def TapeHeardSaid : Prop := tapeHeardRow.holds Tryd.pinned (OpenSpec.ofChange tapeHeardSpec)

/-- ITS FALSE NEIGHBOUR: 'it returns false'. Refute it at one input. -/
def tapeHeardWrong : ChangeSpec := { name := "tapeHeard", fn := fun _ => fun
  | [d] => { results := [.lit (.bool false)], args := [d] }
  | _ => none }
def TapeHeardWrongFalsely : Prop := tapeHeardRow.holds Tryd.pinned (OpenSpec.ofChange tapeHeardWrong)

/-- 'vesperlaw12.TapeSpans': WHATEVER THE INPUT: true; the input reads as it did. -/
def tapeSpansSpec : ChangeSpec := { name := "tapeSpans", fn := fun _ => fun
  | [d1, d2] => { results := [.lit (.bool true)], args := [d1, d2] }
  | _ => none }
def tapeSpansRow : OpenClaim := { program := "ytdibgdiiamcmfaadoor", sum := "b35f17859e917417e35f9024b68ce8a524dd8503257f555a3d157f88ab22d149", func := "vesper/vesperlaw12.TapeSpans", spec := "tapeSpans", inPlace := ["internal/reflectlite.ValueOf", "(internal/reflectlite.Value).Type", "(internal/reflectlite.Value).IsNil", "internal/reflectlite.TypeOf", "(internal/reflectlite.Value).Elem", "(internal/reflectlite.Value).Set"], unfollowed := true, recurses := true, named := ["errors.errorType"], apart := false, laid := [("errors.errorType", laid_errors_errorType)] }
def TapeSpansSaid : Prop := tapeSpansRow.holds Tryd.pinned (OpenSpec.ofChange tapeSpansSpec)

/-- ITS FALSE NEIGHBOUR: 'it returns false'. Refute it at one input. -/
def tapeSpansWrong : ChangeSpec := { name := "tapeSpans", fn := fun _ => fun
  | [d1, d2] => { results := [.lit (.bool false)], args := [d1, d2] }
  | _ => none }
def TapeSpansWrongFalsely : Prop := tapeSpansRow.holds Tryd.pinned (OpenSpec.ofChange tapeSpansWrong)

/-- 'vesperlaw12.TapeBack': WHATEVER THE INPUT: true; the input reads as it did. -/
def tapeBackSpec : ChangeSpec := { name := "tapeBack", fn := fun _ => fun
  | [d1, d2] => { results := [.lit (.bool true)], args := [d1, d2] }
  | _ => none }
def tapeBackRow : OpenClaim := { program := "ytdibgdiiamcmfaadoor", sum := "b35f17859e917417e35f9024b68ce8a524dd8503257f555a3d157f88ab22d149", func := "vesper/vesperlaw12.TapeBack", spec := "tapeBack", inPlace := ["internal/reflectlite.ValueOf", "(internal/reflectlite.Value).Type", "(internal/reflectlite.Value).IsNil", "internal/reflectlite.TypeOf", "(internal/reflectlite.Value).Elem", "(internal/reflectlite.Value).Set"], unfollowed := true, recurses := true, named := ["errors.errorType"], apart := false, laid := [("errors.errorType", laid_errors_errorType)] }
def TapeBackSaid : Prop := tapeBackRow.holds Tryd.pinned (OpenSpec.ofChange tapeBackSpec)

/-- ITS FALSE NEIGHBOUR: 'it returns false'. Refute it at one input. -/
def tapeBackWrong : ChangeSpec := { name := "tapeBack", fn := fun _ => fun
  | [d1, d2] => { results := [.lit (.bool false)], args := [d1, d2] }
  | _ => none }
def TapeBackWrongFalsely : Prop := tapeBackRow.holds Tryd.pinned (OpenSpec.ofChange tapeBackWrong)

/- THE SECOND FORM. 'bulk': how many values and letters a reading holds, each counted each time it is reached (what is shared counts as often as it is met; a slice's spare places count too). A statement '..UptoSaid' is the law's where the arguments, and the package variables that the reading takes, are together of bulk at most 1048576: NARROWER than '..Said'. Prove '..Said' where nothing that the law and all that it calls make is longer than what came in: it says more and counts as full. Else prove '..UptoSaid'. A law counts once. -/
mutual
def uptoBulk {H : Type} : DataW H → Nat
  | .lit (.string bytes) => bytes.length + 1
  | .lit _ => 1
  | .nil => 1
  | .ptr d => uptoBulk d + 1
  | .slice elems spare => uptoBulkAll elems + uptoBulkAll spare + 1
  | .agg parts => uptoBulkAll parts + 1
  | .iface _ d => uptoBulk d + 1
  | .map entries => uptoBulkEntries entries + 1
  | .held _ => 1
def uptoBulkAll {H : Type} : List (DataW H) → Nat
  | [] => 0
  | d :: r => uptoBulk d + uptoBulkAll r
def uptoBulkEntries {H : Type} : List (Lit × DataW H) → Nat
  | [] => 0
  | x :: r => uptoBulkEntry x + uptoBulkEntries r
def uptoBulkEntry {H : Type} : Lit × DataW H → Nat
  | (.string bytes, d) => bytes.length + uptoBulk d + 1
  | (_, d) => uptoBulk d + 1
 end
def uptoSmall : (H : Type) → List (DataW H) → Bool := fun _ ds => decide (uptoBulkAll ds ≤ 1048576)
def OpenSpec.upto (s : _root_.Go.ChangeSpec) : _root_.Go.OpenSpec := { _root_.Go.OpenSpec.ofChange s with cond := some uptoSmall }

/-- 'vesperlaw12.TapeNames', WHERE WHAT IT READS IS OF BULK AT MOST 1048576: true; the input reads as it did. -/
def tapeNamesUptoRow : OpenClaim := { program := "ytdibgdiiamcmfaadoor", sum := "b35f17859e917417e35f9024b68ce8a524dd8503257f555a3d157f88ab22d149", func := "vesper/vesperlaw12.TapeNames", spec := "tapeNames", inPlace := ["internal/reflectlite.ValueOf", "(internal/reflectlite.Value).Type", "(internal/reflectlite.Value).IsNil", "internal/reflectlite.TypeOf", "(internal/reflectlite.Value).Elem", "(internal/reflectlite.Value).Set"], unfollowed := true, recurses := true, named := ["errors.errorType"], apart := false, laid := [("errors.errorType", laid_errors_errorType)], narrowed := true }
def TapeNamesUptoSaid : Prop := tapeNamesUptoRow.holds Tryd.pinned (OpenSpec.upto tapeNamesSpec)

/-- 'vesperlaw12.TapeWrites', WHERE WHAT IT READS IS OF BULK AT MOST 1048576: true; the input reads as it did. -/
def tapeWritesUptoRow : OpenClaim := { program := "ytdibgdiiamcmfaadoor", sum := "b35f17859e917417e35f9024b68ce8a524dd8503257f555a3d157f88ab22d149", func := "vesper/vesperlaw12.TapeWrites", spec := "tapeWrites", inPlace := ["internal/reflectlite.ValueOf", "(internal/reflectlite.Value).Type", "(internal/reflectlite.Value).IsNil", "internal/reflectlite.TypeOf", "(internal/reflectlite.Value).Elem", "(internal/reflectlite.Value).Set"], unfollowed := true, recurses := true, named := ["errors.errorType"], apart := false, laid := [("errors.errorType", laid_errors_errorType)], narrowed := true }
def TapeWritesUptoSaid : Prop := tapeWritesUptoRow.holds Tryd.pinned (OpenSpec.upto tapeWritesSpec)

/-- 'vesperlaw12.TapeReads', WHERE WHAT IT READS IS OF BULK AT MOST 1048576: true; the input reads as it did. -/
def tapeReadsUptoRow : OpenClaim := { program := "ytdibgdiiamcmfaadoor", sum := "b35f17859e917417e35f9024b68ce8a524dd8503257f555a3d157f88ab22d149", func := "vesper/vesperlaw12.TapeReads", spec := "tapeReads", inPlace := ["internal/reflectlite.ValueOf", "(internal/reflectlite.Value).Type", "(internal/reflectlite.Value).IsNil", "internal/reflectlite.TypeOf", "(internal/reflectlite.Value).Elem", "(internal/reflectlite.Value).Set"], unfollowed := true, recurses := true, named := ["errors.errorType"], apart := false, laid := [("errors.errorType", laid_errors_errorType)], narrowed := true }
def TapeReadsUptoSaid : Prop := tapeReadsUptoRow.holds Tryd.pinned (OpenSpec.upto tapeReadsSpec)

/-- 'vesperlaw12.TapeNear', WHERE WHAT IT READS IS OF BULK AT MOST 1048576: true; the input reads as it did. -/
def tapeNearUptoRow : OpenClaim := { program := "ytdibgdiiamcmfaadoor", sum := "b35f17859e917417e35f9024b68ce8a524dd8503257f555a3d157f88ab22d149", func := "vesper/vesperlaw12.TapeNear", spec := "tapeNear", inPlace := ["internal/reflectlite.ValueOf", "(internal/reflectlite.Value).Type", "(internal/reflectlite.Value).IsNil", "internal/reflectlite.TypeOf", "(internal/reflectlite.Value).Elem", "(internal/reflectlite.Value).Set"], unfollowed := true, recurses := true, named := ["errors.errorType"], apart := false, laid := [("errors.errorType", laid_errors_errorType)], narrowed := true }
def TapeNearUptoSaid : Prop := tapeNearUptoRow.holds Tryd.pinned (OpenSpec.upto tapeNearSpec)

/-- 'vesperlaw12.TapeHeard', WHERE WHAT IT READS IS OF BULK AT MOST 1048576: true; the input reads as it did. -/
def tapeHeardUptoRow : OpenClaim := { program := "ytdibgdiiamcmfaadoor", sum := "b35f17859e917417e35f9024b68ce8a524dd8503257f555a3d157f88ab22d149", func := "vesper/vesperlaw12.TapeHeard", spec := "tapeHeard", inPlace := ["internal/reflectlite.ValueOf", "(internal/reflectlite.Value).Type", "(internal/reflectlite.Value).IsNil", "internal/reflectlite.TypeOf", "(internal/reflectlite.Value).Elem", "(internal/reflectlite.Value).Set"], unfollowed := true, recurses := true, named := ["errors.errorType"], apart := false, laid := [("errors.errorType", laid_errors_errorType)], narrowed := true }
def TapeHeardUptoSaid : Prop := tapeHeardUptoRow.holds Tryd.pinned (OpenSpec.upto tapeHeardSpec)

/-- 'vesperlaw12.TapeSpans', WHERE WHAT IT READS IS OF BULK AT MOST 1048576: true; the input reads as it did. -/
def tapeSpansUptoRow : OpenClaim := { program := "ytdibgdiiamcmfaadoor", sum := "b35f17859e917417e35f9024b68ce8a524dd8503257f555a3d157f88ab22d149", func := "vesper/vesperlaw12.TapeSpans", spec := "tapeSpans", inPlace := ["internal/reflectlite.ValueOf", "(internal/reflectlite.Value).Type", "(internal/reflectlite.Value).IsNil", "internal/reflectlite.TypeOf", "(internal/reflectlite.Value).Elem", "(internal/reflectlite.Value).Set"], unfollowed := true, recurses := true, named := ["errors.errorType"], apart := false, laid := [("errors.errorType", laid_errors_errorType)], narrowed := true }
def TapeSpansUptoSaid : Prop := tapeSpansUptoRow.holds Tryd.pinned (OpenSpec.upto tapeSpansSpec)

/-- 'vesperlaw12.TapeBack', WHERE WHAT IT READS IS OF BULK AT MOST 1048576: true; the input reads as it did. -/
def tapeBackUptoRow : OpenClaim := { program := "ytdibgdiiamcmfaadoor", sum := "b35f17859e917417e35f9024b68ce8a524dd8503257f555a3d157f88ab22d149", func := "vesper/vesperlaw12.TapeBack", spec := "tapeBack", inPlace := ["internal/reflectlite.ValueOf", "(internal/reflectlite.Value).Type", "(internal/reflectlite.Value).IsNil", "internal/reflectlite.TypeOf", "(internal/reflectlite.Value).Elem", "(internal/reflectlite.Value).Set"], unfollowed := true, recurses := true, named := ["errors.errorType"], apart := false, laid := [("errors.errorType", laid_errors_errorType)], narrowed := true }
def TapeBackUptoSaid : Prop := tapeBackUptoRow.holds Tryd.pinned (OpenSpec.upto tapeBackSpec)

end Rows
end Go.Proofs.YtdibgdiiamcmfaaDoor
