/- inter.Bound, walked. -/
import Derived.Test.YtffbkmcaecmmgaaOpsY
import Derived.Laws.Rows
import Derived.Deep.MidRow
import Derived.Deep.RegionHeld3
import Derived.Deep.DrawnRows
set_option linter.unusedVariables false
set_option linter.unusedSimpArgs false
namespace Go.Proofs.Ytffbkmcaecmmgaa.Ops
open Go Go.RowKit
open Go.Proofs.YtffbkmcaecmmgaaW.PrintWords

def bndA : Array Value := #[.int .i64 0, .int .i64 0, .int .i64 12000, .int .i64 0, .int .i64 0, .int .i64 0, .int .i64 0, .int .i64 0, .int .i64 0, .int .i64 0, .int .i64 0, .int .i64 0, .int .i64 0, .int .i64 0, .int .i64 0, .int .i64 0, .int .i64 0, .int .i64 0, .int .i64 0, .int .i64 0, .int .i64 12000, .int .i64 0, .int .i64 0, .int .i64 0, .int .i64 0, .int .i64 0, .int .i64 0, .int .i64 0, .int .i64 0, .int .i64 0, .int .i64 0, .int .i64 0]
def bnd (op : Int) : Int := if op = 2 then 12000 else if op = 20 then 12000 else 0
def putAll : Array Value → Nat → List Value → Array Value
  | cs, _, [] => cs
  | cs, o, v :: vs => putAll (cs.setIfInBounds o v) (o + 1) vs
theorem blk_sets : ∀ (vs : List Value) (o : Nat) {w : World} {g : Nat} {t : TypeId} {cs : Array Value} (h : w.heap[g]? = some (.cells cs t (0, 0))), (w.setCells g o vs).heap[g]? = some (.cells (putAll cs o vs) t (0, 0))
  | [], _, _, _, _, _, h => h
  | v :: vs, o, _, _, _, _, h => by
    rw [World.setCells, putAll]
    exact blk_sets vs (o + 1) (blk_set h o v)
theorem below_sets : ∀ (vs : List Value) (o : Nat) {B : Nat} {w W : World} {g : Nat} (h : Below B w W) (hg : B ≤ g), Below B w (W.setCells g o vs)
  | [], _, _, _, _, _, h, _ => h
  | v :: vs, o, _, _, _, _, h, hg => by
    rw [World.setCells]
    exact below_sets vs (o + 1) (h.setCell hg v) hg
theorem index_0 (w : World) : (Instr.index 31 (.agg #[.int .i64 0, .int .i64 0, .int .i64 12000, .int .i64 0, .int .i64 0, .int .i64 0, .int .i64 0, .int .i64 0, .int .i64 0, .int .i64 0, .int .i64 0, .int .i64 0, .int .i64 0, .int .i64 0, .int .i64 0, .int .i64 0, .int .i64 0, .int .i64 0, .int .i64 0, .int .i64 0, .int .i64 12000, .int .i64 0, .int .i64 0, .int .i64 0, .int .i64 0, .int .i64 0, .int .i64 0, .int .i64 0, .int .i64 0, .int .i64 0, .int .i64 0, .int .i64 0]) (.int .u8 0)).run Try.prog w = .ok (.int .i64 0) w := by kernel_rfl
theorem index_1 (w : World) : (Instr.index 31 (.agg #[.int .i64 0, .int .i64 0, .int .i64 12000, .int .i64 0, .int .i64 0, .int .i64 0, .int .i64 0, .int .i64 0, .int .i64 0, .int .i64 0, .int .i64 0, .int .i64 0, .int .i64 0, .int .i64 0, .int .i64 0, .int .i64 0, .int .i64 0, .int .i64 0, .int .i64 0, .int .i64 0, .int .i64 12000, .int .i64 0, .int .i64 0, .int .i64 0, .int .i64 0, .int .i64 0, .int .i64 0, .int .i64 0, .int .i64 0, .int .i64 0, .int .i64 0, .int .i64 0]) (.int .u8 1)).run Try.prog w = .ok (.int .i64 0) w := by kernel_rfl
theorem index_2 (w : World) : (Instr.index 31 (.agg #[.int .i64 0, .int .i64 0, .int .i64 12000, .int .i64 0, .int .i64 0, .int .i64 0, .int .i64 0, .int .i64 0, .int .i64 0, .int .i64 0, .int .i64 0, .int .i64 0, .int .i64 0, .int .i64 0, .int .i64 0, .int .i64 0, .int .i64 0, .int .i64 0, .int .i64 0, .int .i64 0, .int .i64 12000, .int .i64 0, .int .i64 0, .int .i64 0, .int .i64 0, .int .i64 0, .int .i64 0, .int .i64 0, .int .i64 0, .int .i64 0, .int .i64 0, .int .i64 0]) (.int .u8 2)).run Try.prog w = .ok (.int .i64 12000) w := by kernel_rfl
theorem index_3 (w : World) : (Instr.index 31 (.agg #[.int .i64 0, .int .i64 0, .int .i64 12000, .int .i64 0, .int .i64 0, .int .i64 0, .int .i64 0, .int .i64 0, .int .i64 0, .int .i64 0, .int .i64 0, .int .i64 0, .int .i64 0, .int .i64 0, .int .i64 0, .int .i64 0, .int .i64 0, .int .i64 0, .int .i64 0, .int .i64 0, .int .i64 12000, .int .i64 0, .int .i64 0, .int .i64 0, .int .i64 0, .int .i64 0, .int .i64 0, .int .i64 0, .int .i64 0, .int .i64 0, .int .i64 0, .int .i64 0]) (.int .u8 3)).run Try.prog w = .ok (.int .i64 0) w := by kernel_rfl
theorem index_4 (w : World) : (Instr.index 31 (.agg #[.int .i64 0, .int .i64 0, .int .i64 12000, .int .i64 0, .int .i64 0, .int .i64 0, .int .i64 0, .int .i64 0, .int .i64 0, .int .i64 0, .int .i64 0, .int .i64 0, .int .i64 0, .int .i64 0, .int .i64 0, .int .i64 0, .int .i64 0, .int .i64 0, .int .i64 0, .int .i64 0, .int .i64 12000, .int .i64 0, .int .i64 0, .int .i64 0, .int .i64 0, .int .i64 0, .int .i64 0, .int .i64 0, .int .i64 0, .int .i64 0, .int .i64 0, .int .i64 0]) (.int .u8 4)).run Try.prog w = .ok (.int .i64 0) w := by kernel_rfl
theorem index_5 (w : World) : (Instr.index 31 (.agg #[.int .i64 0, .int .i64 0, .int .i64 12000, .int .i64 0, .int .i64 0, .int .i64 0, .int .i64 0, .int .i64 0, .int .i64 0, .int .i64 0, .int .i64 0, .int .i64 0, .int .i64 0, .int .i64 0, .int .i64 0, .int .i64 0, .int .i64 0, .int .i64 0, .int .i64 0, .int .i64 0, .int .i64 12000, .int .i64 0, .int .i64 0, .int .i64 0, .int .i64 0, .int .i64 0, .int .i64 0, .int .i64 0, .int .i64 0, .int .i64 0, .int .i64 0, .int .i64 0]) (.int .u8 5)).run Try.prog w = .ok (.int .i64 0) w := by kernel_rfl
theorem index_6 (w : World) : (Instr.index 31 (.agg #[.int .i64 0, .int .i64 0, .int .i64 12000, .int .i64 0, .int .i64 0, .int .i64 0, .int .i64 0, .int .i64 0, .int .i64 0, .int .i64 0, .int .i64 0, .int .i64 0, .int .i64 0, .int .i64 0, .int .i64 0, .int .i64 0, .int .i64 0, .int .i64 0, .int .i64 0, .int .i64 0, .int .i64 12000, .int .i64 0, .int .i64 0, .int .i64 0, .int .i64 0, .int .i64 0, .int .i64 0, .int .i64 0, .int .i64 0, .int .i64 0, .int .i64 0, .int .i64 0]) (.int .u8 6)).run Try.prog w = .ok (.int .i64 0) w := by kernel_rfl
theorem index_7 (w : World) : (Instr.index 31 (.agg #[.int .i64 0, .int .i64 0, .int .i64 12000, .int .i64 0, .int .i64 0, .int .i64 0, .int .i64 0, .int .i64 0, .int .i64 0, .int .i64 0, .int .i64 0, .int .i64 0, .int .i64 0, .int .i64 0, .int .i64 0, .int .i64 0, .int .i64 0, .int .i64 0, .int .i64 0, .int .i64 0, .int .i64 12000, .int .i64 0, .int .i64 0, .int .i64 0, .int .i64 0, .int .i64 0, .int .i64 0, .int .i64 0, .int .i64 0, .int .i64 0, .int .i64 0, .int .i64 0]) (.int .u8 7)).run Try.prog w = .ok (.int .i64 0) w := by kernel_rfl
theorem index_8 (w : World) : (Instr.index 31 (.agg #[.int .i64 0, .int .i64 0, .int .i64 12000, .int .i64 0, .int .i64 0, .int .i64 0, .int .i64 0, .int .i64 0, .int .i64 0, .int .i64 0, .int .i64 0, .int .i64 0, .int .i64 0, .int .i64 0, .int .i64 0, .int .i64 0, .int .i64 0, .int .i64 0, .int .i64 0, .int .i64 0, .int .i64 12000, .int .i64 0, .int .i64 0, .int .i64 0, .int .i64 0, .int .i64 0, .int .i64 0, .int .i64 0, .int .i64 0, .int .i64 0, .int .i64 0, .int .i64 0]) (.int .u8 8)).run Try.prog w = .ok (.int .i64 0) w := by kernel_rfl
theorem index_9 (w : World) : (Instr.index 31 (.agg #[.int .i64 0, .int .i64 0, .int .i64 12000, .int .i64 0, .int .i64 0, .int .i64 0, .int .i64 0, .int .i64 0, .int .i64 0, .int .i64 0, .int .i64 0, .int .i64 0, .int .i64 0, .int .i64 0, .int .i64 0, .int .i64 0, .int .i64 0, .int .i64 0, .int .i64 0, .int .i64 0, .int .i64 12000, .int .i64 0, .int .i64 0, .int .i64 0, .int .i64 0, .int .i64 0, .int .i64 0, .int .i64 0, .int .i64 0, .int .i64 0, .int .i64 0, .int .i64 0]) (.int .u8 9)).run Try.prog w = .ok (.int .i64 0) w := by kernel_rfl
theorem index_10 (w : World) : (Instr.index 31 (.agg #[.int .i64 0, .int .i64 0, .int .i64 12000, .int .i64 0, .int .i64 0, .int .i64 0, .int .i64 0, .int .i64 0, .int .i64 0, .int .i64 0, .int .i64 0, .int .i64 0, .int .i64 0, .int .i64 0, .int .i64 0, .int .i64 0, .int .i64 0, .int .i64 0, .int .i64 0, .int .i64 0, .int .i64 12000, .int .i64 0, .int .i64 0, .int .i64 0, .int .i64 0, .int .i64 0, .int .i64 0, .int .i64 0, .int .i64 0, .int .i64 0, .int .i64 0, .int .i64 0]) (.int .u8 10)).run Try.prog w = .ok (.int .i64 0) w := by kernel_rfl
theorem index_11 (w : World) : (Instr.index 31 (.agg #[.int .i64 0, .int .i64 0, .int .i64 12000, .int .i64 0, .int .i64 0, .int .i64 0, .int .i64 0, .int .i64 0, .int .i64 0, .int .i64 0, .int .i64 0, .int .i64 0, .int .i64 0, .int .i64 0, .int .i64 0, .int .i64 0, .int .i64 0, .int .i64 0, .int .i64 0, .int .i64 0, .int .i64 12000, .int .i64 0, .int .i64 0, .int .i64 0, .int .i64 0, .int .i64 0, .int .i64 0, .int .i64 0, .int .i64 0, .int .i64 0, .int .i64 0, .int .i64 0]) (.int .u8 11)).run Try.prog w = .ok (.int .i64 0) w := by kernel_rfl
theorem index_12 (w : World) : (Instr.index 31 (.agg #[.int .i64 0, .int .i64 0, .int .i64 12000, .int .i64 0, .int .i64 0, .int .i64 0, .int .i64 0, .int .i64 0, .int .i64 0, .int .i64 0, .int .i64 0, .int .i64 0, .int .i64 0, .int .i64 0, .int .i64 0, .int .i64 0, .int .i64 0, .int .i64 0, .int .i64 0, .int .i64 0, .int .i64 12000, .int .i64 0, .int .i64 0, .int .i64 0, .int .i64 0, .int .i64 0, .int .i64 0, .int .i64 0, .int .i64 0, .int .i64 0, .int .i64 0, .int .i64 0]) (.int .u8 12)).run Try.prog w = .ok (.int .i64 0) w := by kernel_rfl
theorem index_13 (w : World) : (Instr.index 31 (.agg #[.int .i64 0, .int .i64 0, .int .i64 12000, .int .i64 0, .int .i64 0, .int .i64 0, .int .i64 0, .int .i64 0, .int .i64 0, .int .i64 0, .int .i64 0, .int .i64 0, .int .i64 0, .int .i64 0, .int .i64 0, .int .i64 0, .int .i64 0, .int .i64 0, .int .i64 0, .int .i64 0, .int .i64 12000, .int .i64 0, .int .i64 0, .int .i64 0, .int .i64 0, .int .i64 0, .int .i64 0, .int .i64 0, .int .i64 0, .int .i64 0, .int .i64 0, .int .i64 0]) (.int .u8 13)).run Try.prog w = .ok (.int .i64 0) w := by kernel_rfl
theorem index_14 (w : World) : (Instr.index 31 (.agg #[.int .i64 0, .int .i64 0, .int .i64 12000, .int .i64 0, .int .i64 0, .int .i64 0, .int .i64 0, .int .i64 0, .int .i64 0, .int .i64 0, .int .i64 0, .int .i64 0, .int .i64 0, .int .i64 0, .int .i64 0, .int .i64 0, .int .i64 0, .int .i64 0, .int .i64 0, .int .i64 0, .int .i64 12000, .int .i64 0, .int .i64 0, .int .i64 0, .int .i64 0, .int .i64 0, .int .i64 0, .int .i64 0, .int .i64 0, .int .i64 0, .int .i64 0, .int .i64 0]) (.int .u8 14)).run Try.prog w = .ok (.int .i64 0) w := by kernel_rfl
theorem index_15 (w : World) : (Instr.index 31 (.agg #[.int .i64 0, .int .i64 0, .int .i64 12000, .int .i64 0, .int .i64 0, .int .i64 0, .int .i64 0, .int .i64 0, .int .i64 0, .int .i64 0, .int .i64 0, .int .i64 0, .int .i64 0, .int .i64 0, .int .i64 0, .int .i64 0, .int .i64 0, .int .i64 0, .int .i64 0, .int .i64 0, .int .i64 12000, .int .i64 0, .int .i64 0, .int .i64 0, .int .i64 0, .int .i64 0, .int .i64 0, .int .i64 0, .int .i64 0, .int .i64 0, .int .i64 0, .int .i64 0]) (.int .u8 15)).run Try.prog w = .ok (.int .i64 0) w := by kernel_rfl
theorem index_16 (w : World) : (Instr.index 31 (.agg #[.int .i64 0, .int .i64 0, .int .i64 12000, .int .i64 0, .int .i64 0, .int .i64 0, .int .i64 0, .int .i64 0, .int .i64 0, .int .i64 0, .int .i64 0, .int .i64 0, .int .i64 0, .int .i64 0, .int .i64 0, .int .i64 0, .int .i64 0, .int .i64 0, .int .i64 0, .int .i64 0, .int .i64 12000, .int .i64 0, .int .i64 0, .int .i64 0, .int .i64 0, .int .i64 0, .int .i64 0, .int .i64 0, .int .i64 0, .int .i64 0, .int .i64 0, .int .i64 0]) (.int .u8 16)).run Try.prog w = .ok (.int .i64 0) w := by kernel_rfl
theorem index_17 (w : World) : (Instr.index 31 (.agg #[.int .i64 0, .int .i64 0, .int .i64 12000, .int .i64 0, .int .i64 0, .int .i64 0, .int .i64 0, .int .i64 0, .int .i64 0, .int .i64 0, .int .i64 0, .int .i64 0, .int .i64 0, .int .i64 0, .int .i64 0, .int .i64 0, .int .i64 0, .int .i64 0, .int .i64 0, .int .i64 0, .int .i64 12000, .int .i64 0, .int .i64 0, .int .i64 0, .int .i64 0, .int .i64 0, .int .i64 0, .int .i64 0, .int .i64 0, .int .i64 0, .int .i64 0, .int .i64 0]) (.int .u8 17)).run Try.prog w = .ok (.int .i64 0) w := by kernel_rfl
theorem index_18 (w : World) : (Instr.index 31 (.agg #[.int .i64 0, .int .i64 0, .int .i64 12000, .int .i64 0, .int .i64 0, .int .i64 0, .int .i64 0, .int .i64 0, .int .i64 0, .int .i64 0, .int .i64 0, .int .i64 0, .int .i64 0, .int .i64 0, .int .i64 0, .int .i64 0, .int .i64 0, .int .i64 0, .int .i64 0, .int .i64 0, .int .i64 12000, .int .i64 0, .int .i64 0, .int .i64 0, .int .i64 0, .int .i64 0, .int .i64 0, .int .i64 0, .int .i64 0, .int .i64 0, .int .i64 0, .int .i64 0]) (.int .u8 18)).run Try.prog w = .ok (.int .i64 0) w := by kernel_rfl
theorem index_19 (w : World) : (Instr.index 31 (.agg #[.int .i64 0, .int .i64 0, .int .i64 12000, .int .i64 0, .int .i64 0, .int .i64 0, .int .i64 0, .int .i64 0, .int .i64 0, .int .i64 0, .int .i64 0, .int .i64 0, .int .i64 0, .int .i64 0, .int .i64 0, .int .i64 0, .int .i64 0, .int .i64 0, .int .i64 0, .int .i64 0, .int .i64 12000, .int .i64 0, .int .i64 0, .int .i64 0, .int .i64 0, .int .i64 0, .int .i64 0, .int .i64 0, .int .i64 0, .int .i64 0, .int .i64 0, .int .i64 0]) (.int .u8 19)).run Try.prog w = .ok (.int .i64 0) w := by kernel_rfl
theorem index_20 (w : World) : (Instr.index 31 (.agg #[.int .i64 0, .int .i64 0, .int .i64 12000, .int .i64 0, .int .i64 0, .int .i64 0, .int .i64 0, .int .i64 0, .int .i64 0, .int .i64 0, .int .i64 0, .int .i64 0, .int .i64 0, .int .i64 0, .int .i64 0, .int .i64 0, .int .i64 0, .int .i64 0, .int .i64 0, .int .i64 0, .int .i64 12000, .int .i64 0, .int .i64 0, .int .i64 0, .int .i64 0, .int .i64 0, .int .i64 0, .int .i64 0, .int .i64 0, .int .i64 0, .int .i64 0, .int .i64 0]) (.int .u8 20)).run Try.prog w = .ok (.int .i64 12000) w := by kernel_rfl
theorem index_21 (w : World) : (Instr.index 31 (.agg #[.int .i64 0, .int .i64 0, .int .i64 12000, .int .i64 0, .int .i64 0, .int .i64 0, .int .i64 0, .int .i64 0, .int .i64 0, .int .i64 0, .int .i64 0, .int .i64 0, .int .i64 0, .int .i64 0, .int .i64 0, .int .i64 0, .int .i64 0, .int .i64 0, .int .i64 0, .int .i64 0, .int .i64 12000, .int .i64 0, .int .i64 0, .int .i64 0, .int .i64 0, .int .i64 0, .int .i64 0, .int .i64 0, .int .i64 0, .int .i64 0, .int .i64 0, .int .i64 0]) (.int .u8 21)).run Try.prog w = .ok (.int .i64 0) w := by kernel_rfl
theorem index_22 (w : World) : (Instr.index 31 (.agg #[.int .i64 0, .int .i64 0, .int .i64 12000, .int .i64 0, .int .i64 0, .int .i64 0, .int .i64 0, .int .i64 0, .int .i64 0, .int .i64 0, .int .i64 0, .int .i64 0, .int .i64 0, .int .i64 0, .int .i64 0, .int .i64 0, .int .i64 0, .int .i64 0, .int .i64 0, .int .i64 0, .int .i64 12000, .int .i64 0, .int .i64 0, .int .i64 0, .int .i64 0, .int .i64 0, .int .i64 0, .int .i64 0, .int .i64 0, .int .i64 0, .int .i64 0, .int .i64 0]) (.int .u8 22)).run Try.prog w = .ok (.int .i64 0) w := by kernel_rfl
theorem index_23 (w : World) : (Instr.index 31 (.agg #[.int .i64 0, .int .i64 0, .int .i64 12000, .int .i64 0, .int .i64 0, .int .i64 0, .int .i64 0, .int .i64 0, .int .i64 0, .int .i64 0, .int .i64 0, .int .i64 0, .int .i64 0, .int .i64 0, .int .i64 0, .int .i64 0, .int .i64 0, .int .i64 0, .int .i64 0, .int .i64 0, .int .i64 12000, .int .i64 0, .int .i64 0, .int .i64 0, .int .i64 0, .int .i64 0, .int .i64 0, .int .i64 0, .int .i64 0, .int .i64 0, .int .i64 0, .int .i64 0]) (.int .u8 23)).run Try.prog w = .ok (.int .i64 0) w := by kernel_rfl
theorem index_24 (w : World) : (Instr.index 31 (.agg #[.int .i64 0, .int .i64 0, .int .i64 12000, .int .i64 0, .int .i64 0, .int .i64 0, .int .i64 0, .int .i64 0, .int .i64 0, .int .i64 0, .int .i64 0, .int .i64 0, .int .i64 0, .int .i64 0, .int .i64 0, .int .i64 0, .int .i64 0, .int .i64 0, .int .i64 0, .int .i64 0, .int .i64 12000, .int .i64 0, .int .i64 0, .int .i64 0, .int .i64 0, .int .i64 0, .int .i64 0, .int .i64 0, .int .i64 0, .int .i64 0, .int .i64 0, .int .i64 0]) (.int .u8 24)).run Try.prog w = .ok (.int .i64 0) w := by kernel_rfl
theorem index_25 (w : World) : (Instr.index 31 (.agg #[.int .i64 0, .int .i64 0, .int .i64 12000, .int .i64 0, .int .i64 0, .int .i64 0, .int .i64 0, .int .i64 0, .int .i64 0, .int .i64 0, .int .i64 0, .int .i64 0, .int .i64 0, .int .i64 0, .int .i64 0, .int .i64 0, .int .i64 0, .int .i64 0, .int .i64 0, .int .i64 0, .int .i64 12000, .int .i64 0, .int .i64 0, .int .i64 0, .int .i64 0, .int .i64 0, .int .i64 0, .int .i64 0, .int .i64 0, .int .i64 0, .int .i64 0, .int .i64 0]) (.int .u8 25)).run Try.prog w = .ok (.int .i64 0) w := by kernel_rfl
theorem index_26 (w : World) : (Instr.index 31 (.agg #[.int .i64 0, .int .i64 0, .int .i64 12000, .int .i64 0, .int .i64 0, .int .i64 0, .int .i64 0, .int .i64 0, .int .i64 0, .int .i64 0, .int .i64 0, .int .i64 0, .int .i64 0, .int .i64 0, .int .i64 0, .int .i64 0, .int .i64 0, .int .i64 0, .int .i64 0, .int .i64 0, .int .i64 12000, .int .i64 0, .int .i64 0, .int .i64 0, .int .i64 0, .int .i64 0, .int .i64 0, .int .i64 0, .int .i64 0, .int .i64 0, .int .i64 0, .int .i64 0]) (.int .u8 26)).run Try.prog w = .ok (.int .i64 0) w := by kernel_rfl
theorem index_27 (w : World) : (Instr.index 31 (.agg #[.int .i64 0, .int .i64 0, .int .i64 12000, .int .i64 0, .int .i64 0, .int .i64 0, .int .i64 0, .int .i64 0, .int .i64 0, .int .i64 0, .int .i64 0, .int .i64 0, .int .i64 0, .int .i64 0, .int .i64 0, .int .i64 0, .int .i64 0, .int .i64 0, .int .i64 0, .int .i64 0, .int .i64 12000, .int .i64 0, .int .i64 0, .int .i64 0, .int .i64 0, .int .i64 0, .int .i64 0, .int .i64 0, .int .i64 0, .int .i64 0, .int .i64 0, .int .i64 0]) (.int .u8 27)).run Try.prog w = .ok (.int .i64 0) w := by kernel_rfl
theorem index_28 (w : World) : (Instr.index 31 (.agg #[.int .i64 0, .int .i64 0, .int .i64 12000, .int .i64 0, .int .i64 0, .int .i64 0, .int .i64 0, .int .i64 0, .int .i64 0, .int .i64 0, .int .i64 0, .int .i64 0, .int .i64 0, .int .i64 0, .int .i64 0, .int .i64 0, .int .i64 0, .int .i64 0, .int .i64 0, .int .i64 0, .int .i64 12000, .int .i64 0, .int .i64 0, .int .i64 0, .int .i64 0, .int .i64 0, .int .i64 0, .int .i64 0, .int .i64 0, .int .i64 0, .int .i64 0, .int .i64 0]) (.int .u8 28)).run Try.prog w = .ok (.int .i64 0) w := by kernel_rfl
theorem index_29 (w : World) : (Instr.index 31 (.agg #[.int .i64 0, .int .i64 0, .int .i64 12000, .int .i64 0, .int .i64 0, .int .i64 0, .int .i64 0, .int .i64 0, .int .i64 0, .int .i64 0, .int .i64 0, .int .i64 0, .int .i64 0, .int .i64 0, .int .i64 0, .int .i64 0, .int .i64 0, .int .i64 0, .int .i64 0, .int .i64 0, .int .i64 12000, .int .i64 0, .int .i64 0, .int .i64 0, .int .i64 0, .int .i64 0, .int .i64 0, .int .i64 0, .int .i64 0, .int .i64 0, .int .i64 0, .int .i64 0]) (.int .u8 29)).run Try.prog w = .ok (.int .i64 0) w := by kernel_rfl
theorem index_30 (w : World) : (Instr.index 31 (.agg #[.int .i64 0, .int .i64 0, .int .i64 12000, .int .i64 0, .int .i64 0, .int .i64 0, .int .i64 0, .int .i64 0, .int .i64 0, .int .i64 0, .int .i64 0, .int .i64 0, .int .i64 0, .int .i64 0, .int .i64 0, .int .i64 0, .int .i64 0, .int .i64 0, .int .i64 0, .int .i64 0, .int .i64 12000, .int .i64 0, .int .i64 0, .int .i64 0, .int .i64 0, .int .i64 0, .int .i64 0, .int .i64 0, .int .i64 0, .int .i64 0, .int .i64 0, .int .i64 0]) (.int .u8 30)).run Try.prog w = .ok (.int .i64 0) w := by kernel_rfl
theorem index_31 (w : World) : (Instr.index 31 (.agg #[.int .i64 0, .int .i64 0, .int .i64 12000, .int .i64 0, .int .i64 0, .int .i64 0, .int .i64 0, .int .i64 0, .int .i64 0, .int .i64 0, .int .i64 0, .int .i64 0, .int .i64 0, .int .i64 0, .int .i64 0, .int .i64 0, .int .i64 0, .int .i64 0, .int .i64 0, .int .i64 0, .int .i64 12000, .int .i64 0, .int .i64 0, .int .i64 0, .int .i64 0, .int .i64 0, .int .i64 0, .int .i64 0, .int .i64 0, .int .i64 0, .int .i64 0, .int .i64 0]) (.int .u8 31)).run Try.prog w = .ok (.int .i64 0) w := by kernel_rfl
theorem index_at (op : Int) (h0 : 0 ≤ op) (h1 : op < 32) (w : World) : (Instr.index 31 (.agg #[.int .i64 0, .int .i64 0, .int .i64 12000, .int .i64 0, .int .i64 0, .int .i64 0, .int .i64 0, .int .i64 0, .int .i64 0, .int .i64 0, .int .i64 0, .int .i64 0, .int .i64 0, .int .i64 0, .int .i64 0, .int .i64 0, .int .i64 0, .int .i64 0, .int .i64 0, .int .i64 0, .int .i64 12000, .int .i64 0, .int .i64 0, .int .i64 0, .int .i64 0, .int .i64 0, .int .i64 0, .int .i64 0, .int .i64 0, .int .i64 0, .int .i64 0, .int .i64 0]) (.int .u8 op)).run Try.prog w = .ok (.int .i64 (bnd op)) w := by
  have h : op = 0 ∨ op = 1 ∨ op = 2 ∨ op = 3 ∨ op = 4 ∨ op = 5 ∨ op = 6 ∨ op = 7 ∨ op = 8 ∨ op = 9 ∨ op = 10 ∨ op = 11 ∨ op = 12 ∨ op = 13 ∨ op = 14 ∨ op = 15 ∨ op = 16 ∨ op = 17 ∨ op = 18 ∨ op = 19 ∨ op = 20 ∨ op = 21 ∨ op = 22 ∨ op = 23 ∨ op = 24 ∨ op = 25 ∨ op = 26 ∨ op = 27 ∨ op = 28 ∨ op = 29 ∨ op = 30 ∨ op = 31 := by omega
  rcases h with rfl | rfl | rfl | rfl | rfl | rfl | rfl | rfl | rfl | rfl | rfl | rfl | rfl | rfl | rfl | rfl | rfl | rfl | rfl | rfl | rfl | rfl | rfl | rfl | rfl | rfl | rfl | rfl | rfl | rfl | rfl | rfl
  · exact index_0 w
  · exact index_1 w
  · exact index_2 w
  · exact index_3 w
  · exact index_4 w
  · exact index_5 w
  · exact index_6 w
  · exact index_7 w
  · exact index_8 w
  · exact index_9 w
  · exact index_10 w
  · exact index_11 w
  · exact index_12 w
  · exact index_13 w
  · exact index_14 w
  · exact index_15 w
  · exact index_16 w
  · exact index_17 w
  · exact index_18 w
  · exact index_19 w
  · exact index_20 w
  · exact index_21 w
  · exact index_22 w
  · exact index_23 w
  · exact index_24 w
  · exact index_25 w
  · exact index_26 w
  · exact index_27 w
  · exact index_28 w
  · exact index_29 w
  · exact index_30 w
  · exact index_31 w
theorem ok_op (o : Ord) (h : tbl.any (okB o) = true) : 0 ≤ o.op ∧ o.op < 32 := by
  obtain ⟨r, hr, hk⟩ := List.any_eq_true.1 h
  unfold okB at hk
  rw [Bool.and_eq_true] at hk
  have e : r.op = o.op := beq_iff_eq.1 hk.1
  have h2 : (tbl.all fun r => decide (0 ≤ r.op) && decide (r.op < 32)) = true := by decide
  have h3 := List.all_eq_true.1 h2 r hr
  rw [Bool.and_eq_true] at h3
  exact ⟨e ▸ of_decide_eq_true h3.1, e ▸ of_decide_eq_true h3.2⟩
theorem put_bounds : putAll #[.int .i64 0, .int .i64 0, .int .i64 0, .int .i64 0, .int .i64 0, .int .i64 0, .int .i64 0, .int .i64 0, .int .i64 0, .int .i64 0, .int .i64 0, .int .i64 0, .int .i64 0, .int .i64 0, .int .i64 0, .int .i64 0, .int .i64 0, .int .i64 0, .int .i64 0, .int .i64 0, .int .i64 0, .int .i64 0, .int .i64 0, .int .i64 0, .int .i64 0, .int .i64 0, .int .i64 0, .int .i64 0, .int .i64 0, .int .i64 0, .int .i64 0, .int .i64 0] 0 (#[.int .i64 0, .int .i64 0, .int .i64 12000, .int .i64 0, .int .i64 0, .int .i64 0, .int .i64 0, .int .i64 0, .int .i64 0, .int .i64 0, .int .i64 0, .int .i64 0, .int .i64 0, .int .i64 0, .int .i64 0, .int .i64 0, .int .i64 0, .int .i64 0, .int .i64 0, .int .i64 0, .int .i64 12000, .int .i64 0, .int .i64 0, .int .i64 0, .int .i64 0, .int .i64 0, .int .i64 0, .int .i64 0, .int .i64 0, .int .i64 0, .int .i64 0, .int .i64 0] : Array Value).toList = #[.int .i64 0, .int .i64 0, .int .i64 12000, .int .i64 0, .int .i64 0, .int .i64 0, .int .i64 0, .int .i64 0, .int .i64 0, .int .i64 0, .int .i64 0, .int .i64 0, .int .i64 0, .int .i64 0, .int .i64 0, .int .i64 0, .int .i64 0, .int .i64 0, .int .i64 0, .int .i64 0, .int .i64 12000, .int .i64 0, .int .i64 0, .int .i64 0, .int .i64 0, .int .i64 0, .int .i64 0, .int .i64 0, .int .i64 0, .int .i64 0, .int .i64 0, .int .i64 0] := by kernel_rfl
set_option maxRecDepth 100000 in
theorem bounds_calls (w : World) : Calls Try.prog 7 #[] w fun e w' => e = .returned (.agg #[.int .i64 0, .int .i64 0, .int .i64 12000, .int .i64 0, .int .i64 0, .int .i64 0, .int .i64 0, .int .i64 0, .int .i64 0, .int .i64 0, .int .i64 0, .int .i64 0, .int .i64 0, .int .i64 0, .int .i64 0, .int .i64 0, .int .i64 0, .int .i64 0, .int .i64 0, .int .i64 0, .int .i64 12000, .int .i64 0, .int .i64 0, .int .i64 0, .int .i64 0, .int .i64 0, .int .i64 0, .int .i64 0, .int .i64 0, .int .i64 0, .int .i64 0, .int .i64 0]) ∧ Below w.heap.size w w' := by
  go_enter Try.func7, Try.ntmps7
  go_upto_region 1 with fail
  have hz := blk_new w (.cells #[.int .i64 0, .int .i64 0, .int .i64 0, .int .i64 0, .int .i64 0, .int .i64 0, .int .i64 0, .int .i64 0, .int .i64 0, .int .i64 0, .int .i64 0, .int .i64 0, .int .i64 0, .int .i64 0, .int .i64 0, .int .i64 0, .int .i64 0, .int .i64 0, .int .i64 0, .int .i64 0, .int .i64 0, .int .i64 0, .int .i64 0, .int .i64 0, .int .i64 0, .int .i64 0, .int .i64 0, .int .i64 0, .int .i64 0, .int .i64 0, .int .i64 0, .int .i64 0] 31)
  have hb := below_alloc (Below.refl w.heap.size w) (.cells #[.int .i64 0, .int .i64 0, .int .i64 0, .int .i64 0, .int .i64 0, .int .i64 0, .int .i64 0, .int .i64 0, .int .i64 0, .int .i64 0, .int .i64 0, .int .i64 0, .int .i64 0, .int .i64 0, .int .i64 0, .int .i64 0, .int .i64 0, .int .i64 0, .int .i64 0, .int .i64 0, .int .i64 0, .int .i64 0, .int .i64 0, .int .i64 0, .int .i64 0, .int .i64 0, .int .i64 0, .int .i64 0, .int .i64 0, .int .i64 0, .int .i64 0, .int .i64 0] 31)
  generalize (w.alloc (.cells #[.int .i64 0, .int .i64 0, .int .i64 0, .int .i64 0, .int .i64 0, .int .i64 0, .int .i64 0, .int .i64 0, .int .i64 0, .int .i64 0, .int .i64 0, .int .i64 0, .int .i64 0, .int .i64 0, .int .i64 0, .int .i64 0, .int .i64 0, .int .i64 0, .int .i64 0, .int .i64 0, .int .i64 0, .int .i64 0, .int .i64 0, .int .i64 0, .int .i64 0, .int .i64 0, .int .i64 0, .int .i64 0, .int .i64 0, .int .i64 0, .int .i64 0, .int .i64 0] 31)) = W at hz hb ⊢
  have ht : W.there w.heap.size 0 (#[.int .i64 0, .int .i64 0, .int .i64 12000, .int .i64 0, .int .i64 0, .int .i64 0, .int .i64 0, .int .i64 0, .int .i64 0, .int .i64 0, .int .i64 0, .int .i64 0, .int .i64 0, .int .i64 0, .int .i64 0, .int .i64 0, .int .i64 0, .int .i64 0, .int .i64 0, .int .i64 0, .int .i64 12000, .int .i64 0, .int .i64 0, .int .i64 0, .int .i64 0, .int .i64 0, .int .i64 0, .int .i64 0, .int .i64 0, .int .i64 0, .int .i64 0, .int .i64 0] : Array Value).size := fun j hj => ⟨by rw [blk_cell hz]; rw [Nat.zero_add, Array.getElem?_eq_getElem (by exact hj)]; rfl, blk_frozen hz _⟩
  have hi : (Try.prog.info? 31).map (·.size) = some (#[.int .i64 0, .int .i64 0, .int .i64 12000, .int .i64 0, .int .i64 0, .int .i64 0, .int .i64 0, .int .i64 0, .int .i64 0, .int .i64 0, .int .i64 0, .int .i64 0, .int .i64 0, .int .i64 0, .int .i64 0, .int .i64 0, .int .i64 0, .int .i64 0, .int .i64 0, .int .i64 0, .int .i64 12000, .int .i64 0, .int .i64 0, .int .i64 0, .int .i64 0, .int .i64 0, .int .i64 0, .int .i64 0, .int .i64 0, .int .i64 0, .int .i64 0, .int .i64 0] : Array Value).size := by kernel_rfl
  have h1 : (#[.int .i64 0, .int .i64 0, .int .i64 12000, .int .i64 0, .int .i64 0, .int .i64 0, .int .i64 0, .int .i64 0, .int .i64 0, .int .i64 0, .int .i64 0, .int .i64 0, .int .i64 0, .int .i64 0, .int .i64 0, .int .i64 0, .int .i64 0, .int .i64 0, .int .i64 0, .int .i64 0, .int .i64 12000, .int .i64 0, .int .i64 0, .int .i64 0, .int .i64 0, .int .i64 0, .int .i64 0, .int .i64 0, .int .i64 0, .int .i64 0, .int .i64 0, .int .i64 0] : Array Value).all (·.oneCell') = true := by kernel_rfl
  go_wp2_with (refine wpList_store_mid rfl 31 (.tmp 0) (.tmp 1) rfl w.heap.size 0 #[.int .i64 0, .int .i64 0, .int .i64 12000, .int .i64 0, .int .i64 0, .int .i64 0, .int .i64 0, .int .i64 0, .int .i64 0, .int .i64 0, .int .i64 0, .int .i64 0, .int .i64 0, .int .i64 0, .int .i64 0, .int .i64 0, .int .i64 0, .int .i64 0, .int .i64 0, .int .i64 0, .int .i64 12000, .int .i64 0, .int .i64 0, .int .i64 0, .int .i64 0, .int .i64 0, .int .i64 0, .int .i64 0, .int .i64 0, .int .i64 0, .int .i64 0, .int .i64 0] rfl rfl ht hi h1 ?_)
  refine bodyPost_ret (results_cell_row rfl _ _ w.heap.size 31 #[.int .i64 0, .int .i64 0, .int .i64 12000, .int .i64 0, .int .i64 0, .int .i64 0, .int .i64 0, .int .i64 0, .int .i64 0, .int .i64 0, .int .i64 0, .int .i64 0, .int .i64 0, .int .i64 0, .int .i64 0, .int .i64 0, .int .i64 0, .int .i64 0, .int .i64 0, .int .i64 0, .int .i64 12000, .int .i64 0, .int .i64 0, .int .i64 0, .int .i64 0, .int .i64 0, .int .i64 0, .int .i64 0, .int .i64 0, .int .i64 0, .int .i64 0, .int .i64 0] (0, 0) _ rfl (by have h := blk_sets (#[.int .i64 0, .int .i64 0, .int .i64 12000, .int .i64 0, .int .i64 0, .int .i64 0, .int .i64 0, .int .i64 0, .int .i64 0, .int .i64 0, .int .i64 0, .int .i64 0, .int .i64 0, .int .i64 0, .int .i64 0, .int .i64 0, .int .i64 0, .int .i64 0, .int .i64 0, .int .i64 0, .int .i64 12000, .int .i64 0, .int .i64 0, .int .i64 0, .int .i64 0, .int .i64 0, .int .i64 0, .int .i64 0, .int .i64 0, .int .i64 0, .int .i64 0, .int .i64 0] : Array Value).toList 0 hz; rw [put_bounds] at h; exact h) Try.underlying31 rfl (by kernel_rfl)) rfl ?_
  exact ⟨rfl, below_sets _ 0 hb (Nat.le_refl _)⟩
def boundN (o : Ord) : Int := if tbl.any (okB o) then (if o.op = 1 then 0 else if bnd o.op > 0 then bnd o.op else 5000) else 0
set_option maxRecDepth 100000 in
set_option maxHeartbeats 4000000 in
theorem bound_calls (RC : RowsSaid) (o : Ord) (ho : o.Ok) (w : World) : Calls Try.prog 4 #[.agg #[.int .u8 o.op, .int .u8 o.x, .int .u8 o.y, .int .u8 o.n, .int .u8 o.b, .int .u16 o.a]] w fun e w' => e = .returned (.int .i64 (boundN o)) ∧ Below w.heap.size w w' := by
  have hq := blk_new w (.cells #[.int .u8 o.op, .int .u8 o.x, .int .u8 o.y, .int .u8 o.n, .int .u8 o.b, .int .u16 o.a] 25)
  have hb := below_alloc (Below.refl w.heap.size w) (.cells #[.int .u8 o.op, .int .u8 o.x, .int .u8 o.y, .int .u8 o.n, .int .u8 o.b, .int .u16 o.a] 25)
  have HQ := Aside0.mk hq
  have HB := Aside0.mk hb
  have HOK := Aside0.mk ho
  clear hq hb ho
  go_enter Try.func4, Try.ntmps4
  go_wp2_with fail
  (with_reducible refine (encode_calls RC o HOK.out _).mono ?_)
  rintro e w1 ⟨x, rfl, hb1⟩
  have Q1 := Aside0.mk (blk_below HQ.out hb1)
  have B1 := Aside0.mk (below_step HB.out hb1)
  clear hb1 HQ HB
  have hq := Q1.out
  have x0 := (blk_cell hq 0).trans (rfl : _ = some (Value.int .u8 o.op))
  have hl : w.heap.size < w1.heap.size := blk_lt hq
  clear hq
  cases hk : tbl.any (okB o)
  · have HE : Aside0 (boundN o = 0) := ⟨by unfold boundN; rw [hk]; rfl⟩
    clear hk
    go_wp2
    go_ret
    exact ⟨by rw [HE.out]; rfl, B1.out⟩
  · have hop := ok_op o hk
    by_cases h1 : o.op = 1
    · have h1b : (o.op == 1) = true := beq_iff_eq.2 h1
      have HE : Aside0 (boundN o = 0) := ⟨by unfold boundN; rw [hk, if_pos rfl, if_pos h1]⟩
      clear hk h1
      go_wp2
      go_ret
      exact ⟨by rw [HE.out]; rfl, B1.out⟩
    · have h1b : (o.op == 1) = false := beq_eq_false_iff_ne.2 h1
      have HE : Aside0 (boundN o = if bnd o.op > 0 then bnd o.op else 5000) := ⟨by unfold boundN; rw [hk, if_pos rfl, if_neg h1]⟩
      obtain ⟨y, hy⟩ : ∃ y, bnd o.op = y := ⟨_, rfl⟩
      have hix := fun W => index_at o.op hop.1 hop.2 W
      rw [hy] at HE hix
      clear hk h1 hy
      have HOP2 := Aside0.mk hop
      clear hop
      go_wp2_with fail
      go_region_held3 (fun w' => w'.cell? ⟨w.heap.size, 0, none⟩ = some (Value.int .u8 o.op)) (first | go_keep | exact (cell_below hbw x0)) (first | (go_at_call 7; (with_reducible refine (bounds_calls _).mono ?_); rintro e w2 ⟨rfl, hb2⟩; have hbw := Below.trans (show Below w1.heap.size w1 w1.drew from below_drew1 (Below.refl _ _)) hb2; have x2 := cell_below hbw x0))
      all_goals
        have HBW := Aside0.mk hbw
        clear hbw
        by_cases hy0 : 0 < y
        · have hyb : decide (0 < y) = true := decide_eq_true hy0
          have HY := Aside0.mk hy0
          clear hy0
          go_wp2
          go_ret
          exact ⟨by rw [HE.out, if_pos HY.out]; rfl, by first | exact below_step B1.out HBW.out | exact below_drew1 (below_step B1.out HBW.out)⟩
        · have hyb : decide (0 < y) = false := decide_eq_false hy0
          have HY := Aside0.mk hy0
          clear hy0
          go_wp2
          go_ret
          exact ⟨by rw [HE.out, if_neg (by have := HY.out; omega)]; rfl, by first | exact below_step B1.out HBW.out | exact below_drew1 (below_step B1.out HBW.out)⟩
end Go.Proofs.Ytffbkmcaecmmgaa.Ops
