/- script.flags: seven words, each with the place of a span's field. -/
import Derived.Test.YtdjffafcmomalaaDoorPScrx0
import Derived.StillTailTactics
set_option linter.unusedVariables false
set_option linter.unusedSimpArgs false
namespace Go.Proofs.YtdjffafcmomalaaDoor.Scr
open Go Go.RowKit
open Go.Proofs.YtdjffafcmomalaaDoorW.PrintWords Go.Proofs.YtdjffafcmomalaaDoor.PScr

def ptr (g k : Nat) : Value := .pointer (some ⟨g, k, none⟩)
/-- The cells of script.flags' list. -/
def flagCells (g : Nat) : Array Value := #[.string ⟨#[116, 97, 112, 101]⟩, .pointer (some ⟨g, 2, none⟩), .string ⟨#[102, 108, 97, 103]⟩, .pointer (some ⟨g, 3, none⟩), .string ⟨#[105, 110]⟩, .pointer (some ⟨g, 4, none⟩), .string ⟨#[111, 117, 116]⟩, .pointer (some ⟨g, 5, none⟩), .string ⟨#[105, 110, 116]⟩, .pointer (some ⟨g, 6, none⟩), .string ⟨#[99, 108, 101, 97, 114]⟩, .pointer (some ⟨g, 7, none⟩), .string ⟨#[119, 97, 105, 116]⟩, .pointer (some ⟨g, 8, none⟩)]

set_option maxRecDepth 100000 in
set_option maxHeartbeats 4000000 in
theorem flags_calls (g : Nat) (w : World) : Calls Tryd.prog 54 #[.pointer (some ⟨g, 0, none⟩)] w fun e w' => e = .returned (.slice (some ⟨w.heap.size, 0, none⟩) 7 7) ∧ ∃ n, w' = (w.drewN n).alloc (.cells (flagCells g) 86) := by
  go_enter Tryd.func54, Tryd.ntmps54
  go_wp2
  go_still_tail 28, (by kernel_rfl)
  go_wp2
  go_ret
  exact ⟨by simp, _, rfl⟩
end Go.Proofs.YtdjffafcmomalaaDoor.Scr
