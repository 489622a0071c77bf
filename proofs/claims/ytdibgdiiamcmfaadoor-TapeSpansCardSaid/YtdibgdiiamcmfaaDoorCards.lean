/-
  DERIVED. GIVEN WITH THE SEED: THE CARDS: each row of YtdibgdiiamcmfaaDoorRows.lean that lists a variable, with what it lists TIED to the program's text (the seventh form; the later family's looks); each row that meets fmt, with fmt's text TOLD by the authors' own Lean function (tested against real Go, not proved from fmt's source: count such statements apart). THE CARD IS WHAT COUNTS. Prove the row's statement (the work); the ties are given (YtdibgdiiamcmfaaDoorTie.lean); close each card by the builder's one call (the guide's Derived/Test/ToyasCard.lean, 'card_holds'). Laid BY PROGRAM, IN A SANDBOX (cutbox-door.mjs). By AI agents, Wed Nov 11 2026. No macro, syntax, notation, axiom, sorry.
-/
import Derived.Test.YtdibgdiiamcmfaaDoorRows
import GoSem.ClaimSeven
namespace Go.Proofs.YtdibgdiiamcmfaaDoor
namespace Rows

/-- THE TIED CARD OF 'vesperlaw12.TapeNames'. -/
def tapeNamesCard : Claim7 := { stood := { row := tapeNamesRow, standIns := [], harness := (true, "440bf157fea7f8f0fc2c9c7eefd8ffd634c0ec5335f4d6817e2758cf6a6e6a03"), looks := true }, kinds := [], alts := [], laidByText := true, laidKinds := [.handle], laidTests := true, laidLooks := .later }
def TapeNamesCardSaid : Prop := Claim7.holds Tryd.pinned (.plain (OpenSpec.ofChange tapeNamesSpec)) tapeNamesCard

/-- THE TIED CARD OF 'vesperlaw12.TapeWrites'. -/
def tapeWritesCard : Claim7 := { stood := { row := tapeWritesRow, standIns := [], harness := (true, "440bf157fea7f8f0fc2c9c7eefd8ffd634c0ec5335f4d6817e2758cf6a6e6a03"), looks := true }, kinds := [], alts := [], laidByText := true, laidKinds := [.handle], laidTests := true, laidLooks := .later }
def TapeWritesCardSaid : Prop := Claim7.holds Tryd.pinned (.plain (OpenSpec.ofChange tapeWritesSpec)) tapeWritesCard

/-- THE TIED CARD OF 'vesperlaw12.TapeReads'. -/
def tapeReadsCard : Claim7 := { stood := { row := tapeReadsRow, standIns := [], harness := (true, "440bf157fea7f8f0fc2c9c7eefd8ffd634c0ec5335f4d6817e2758cf6a6e6a03"), looks := true }, kinds := [], alts := [], laidByText := true, laidKinds := [.handle], laidTests := true, laidLooks := .later }
def TapeReadsCardSaid : Prop := Claim7.holds Tryd.pinned (.plain (OpenSpec.ofChange tapeReadsSpec)) tapeReadsCard

/-- THE TIED CARD OF 'vesperlaw12.TapeNear'. -/
def tapeNearCard : Claim7 := { stood := { row := tapeNearRow, standIns := [], harness := (true, "440bf157fea7f8f0fc2c9c7eefd8ffd634c0ec5335f4d6817e2758cf6a6e6a03"), looks := true }, kinds := [], alts := [], laidByText := true, laidKinds := [.handle], laidTests := true, laidLooks := .later }
def TapeNearCardSaid : Prop := Claim7.holds Tryd.pinned (.plain (OpenSpec.ofChange tapeNearSpec)) tapeNearCard

/-- THE TIED CARD OF 'vesperlaw12.TapeHeard'. -/
def tapeHeardCard : Claim7 := { stood := { row := tapeHeardRow, standIns := [], harness := (true, "440bf157fea7f8f0fc2c9c7eefd8ffd634c0ec5335f4d6817e2758cf6a6e6a03"), looks := true }, kinds := [], alts := [], laidByText := true, laidKinds := [.handle], laidTests := true, laidLooks := .later }
def TapeHeardCardSaid : Prop := Claim7.holds Tryd.pinned (.plain (OpenSpec.ofChange tapeHeardSpec)) tapeHeardCard

/-- THE TIED CARD OF 'vesperlaw12.TapeSpans'. -/
def tapeSpansCard : Claim7 := { stood := { row := tapeSpansRow, standIns := [], harness := (true, "440bf157fea7f8f0fc2c9c7eefd8ffd634c0ec5335f4d6817e2758cf6a6e6a03"), looks := true }, kinds := [], alts := [], laidByText := true, laidKinds := [.handle], laidTests := true, laidLooks := .later }
def TapeSpansCardSaid : Prop := Claim7.holds Tryd.pinned (.plain (OpenSpec.ofChange tapeSpansSpec)) tapeSpansCard

/-- THE TIED CARD OF 'vesperlaw12.TapeBack'. -/
def tapeBackCard : Claim7 := { stood := { row := tapeBackRow, standIns := [], harness := (true, "440bf157fea7f8f0fc2c9c7eefd8ffd634c0ec5335f4d6817e2758cf6a6e6a03"), looks := true }, kinds := [], alts := [], laidByText := true, laidKinds := [.handle], laidTests := true, laidLooks := .later }
def TapeBackCardSaid : Prop := Claim7.holds Tryd.pinned (.plain (OpenSpec.ofChange tapeBackSpec)) tapeBackCard

/-- THE SECOND FORM's CARD OF 'vesperlaw12.TapeNames'. -/
def tapeNamesUptoCard : Claim7 := { stood := { row := tapeNamesUptoRow, standIns := [], harness := (true, "440bf157fea7f8f0fc2c9c7eefd8ffd634c0ec5335f4d6817e2758cf6a6e6a03"), looks := true }, kinds := [], alts := [], laidByText := true, laidKinds := [.handle], laidTests := true, laidLooks := .later }
def TapeNamesUptoCardSaid : Prop := Claim7.holds Tryd.pinned (.plain (OpenSpec.upto tapeNamesSpec)) tapeNamesUptoCard

/-- THE SECOND FORM's CARD OF 'vesperlaw12.TapeWrites'. -/
def tapeWritesUptoCard : Claim7 := { stood := { row := tapeWritesUptoRow, standIns := [], harness := (true, "440bf157fea7f8f0fc2c9c7eefd8ffd634c0ec5335f4d6817e2758cf6a6e6a03"), looks := true }, kinds := [], alts := [], laidByText := true, laidKinds := [.handle], laidTests := true, laidLooks := .later }
def TapeWritesUptoCardSaid : Prop := Claim7.holds Tryd.pinned (.plain (OpenSpec.upto tapeWritesSpec)) tapeWritesUptoCard

/-- THE SECOND FORM's CARD OF 'vesperlaw12.TapeReads'. -/
def tapeReadsUptoCard : Claim7 := { stood := { row := tapeReadsUptoRow, standIns := [], harness := (true, "440bf157fea7f8f0fc2c9c7eefd8ffd634c0ec5335f4d6817e2758cf6a6e6a03"), looks := true }, kinds := [], alts := [], laidByText := true, laidKinds := [.handle], laidTests := true, laidLooks := .later }
def TapeReadsUptoCardSaid : Prop := Claim7.holds Tryd.pinned (.plain (OpenSpec.upto tapeReadsSpec)) tapeReadsUptoCard

/-- THE SECOND FORM's CARD OF 'vesperlaw12.TapeNear'. -/
def tapeNearUptoCard : Claim7 := { stood := { row := tapeNearUptoRow, standIns := [], harness := (true, "440bf157fea7f8f0fc2c9c7eefd8ffd634c0ec5335f4d6817e2758cf6a6e6a03"), looks := true }, kinds := [], alts := [], laidByText := true, laidKinds := [.handle], laidTests := true, laidLooks := .later }
def TapeNearUptoCardSaid : Prop := Claim7.holds Tryd.pinned (.plain (OpenSpec.upto tapeNearSpec)) tapeNearUptoCard

/-- THE SECOND FORM's CARD OF 'vesperlaw12.TapeHeard'. -/
def tapeHeardUptoCard : Claim7 := { stood := { row := tapeHeardUptoRow, standIns := [], harness := (true, "440bf157fea7f8f0fc2c9c7eefd8ffd634c0ec5335f4d6817e2758cf6a6e6a03"), looks := true }, kinds := [], alts := [], laidByText := true, laidKinds := [.handle], laidTests := true, laidLooks := .later }
def TapeHeardUptoCardSaid : Prop := Claim7.holds Tryd.pinned (.plain (OpenSpec.upto tapeHeardSpec)) tapeHeardUptoCard

/-- THE SECOND FORM's CARD OF 'vesperlaw12.TapeSpans'. -/
def tapeSpansUptoCard : Claim7 := { stood := { row := tapeSpansUptoRow, standIns := [], harness := (true, "440bf157fea7f8f0fc2c9c7eefd8ffd634c0ec5335f4d6817e2758cf6a6e6a03"), looks := true }, kinds := [], alts := [], laidByText := true, laidKinds := [.handle], laidTests := true, laidLooks := .later }
def TapeSpansUptoCardSaid : Prop := Claim7.holds Tryd.pinned (.plain (OpenSpec.upto tapeSpansSpec)) tapeSpansUptoCard

/-- THE SECOND FORM's CARD OF 'vesperlaw12.TapeBack'. -/
def tapeBackUptoCard : Claim7 := { stood := { row := tapeBackUptoRow, standIns := [], harness := (true, "440bf157fea7f8f0fc2c9c7eefd8ffd634c0ec5335f4d6817e2758cf6a6e6a03"), looks := true }, kinds := [], alts := [], laidByText := true, laidKinds := [.handle], laidTests := true, laidLooks := .later }
def TapeBackUptoCardSaid : Prop := Claim7.holds Tryd.pinned (.plain (OpenSpec.upto tapeBackSpec)) tapeBackUptoCard
end Rows
end Go.Proofs.YtdibgdiiamcmfaaDoor
