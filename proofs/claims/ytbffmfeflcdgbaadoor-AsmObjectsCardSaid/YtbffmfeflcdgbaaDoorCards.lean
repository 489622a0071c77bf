/-
  DERIVED. GIVEN WITH THE SEED: THE CARDS: each row of YtbffmfeflcdgbaaDoorRows.lean that lists a variable, with what it lists TIED to the program's text (the seventh form; the later family's looks); each row that meets fmt, with fmt's text TOLD by the authors' own Lean function (tested against real Go, not proved from fmt's source: count such statements apart). THE CARD IS WHAT COUNTS. Prove the row's statement (the work); the ties are given (YtbffmfeflcdgbaaDoorTie.lean); close each card by the builder's one call (the guide's Derived/Test/ToyasCard.lean, 'card_holds'). Laid BY PROGRAM, IN A SANDBOX (cutbox-door.mjs). By AI agents, Wed Nov 11 2026. No macro, syntax, notation, axiom, sorry.
-/
import Derived.Test.YtbffmfeflcdgbaaDoorRows
import GoSem.ClaimSeven
namespace Go.Proofs.YtbffmfeflcdgbaaDoor
namespace Rows

/-- THE TIED CARD OF 'vesperlaw14.AsmObjects'. -/
def asmObjectsCard : Claim7 := { stood := { row := asmObjectsRow, standIns := [], harness := (true, "24e44915076c27a7e3fb2d4ce9ee8e044fc12df961b7dda20842bd94ccf1de27"), looks := false }, kinds := [], alts := [], laidByText := true, laidKinds := [.data, .data, .data, .data, .data, .data, .data, .pinned], laidTests := true, laidLooks := .later }
def AsmObjectsCardSaid : Prop := Claim7.holds Tryd.pinned (.plain (OpenSpec.ofChange asmObjectsSpec)) asmObjectsCard

/-- THE SECOND FORM's CARD OF 'vesperlaw14.AsmObjects'. -/
def asmObjectsUptoCard : Claim7 := { stood := { row := asmObjectsUptoRow, standIns := [], harness := (true, "24e44915076c27a7e3fb2d4ce9ee8e044fc12df961b7dda20842bd94ccf1de27"), looks := false }, kinds := [], alts := [], laidByText := true, laidKinds := [.data, .data, .data, .data, .data, .data, .data, .pinned], laidTests := true, laidLooks := .later }
def AsmObjectsUptoCardSaid : Prop := Claim7.holds Tryd.pinned (.plain (OpenSpec.upto asmObjectsSpec)) asmObjectsUptoCard
end Rows
end Go.Proofs.YtbffmfeflcdgbaaDoor
