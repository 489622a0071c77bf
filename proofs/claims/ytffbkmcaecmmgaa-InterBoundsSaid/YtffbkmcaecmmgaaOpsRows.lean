/- ops.rows, walked. -/
import Derived.Test.YtffbkmcaecmmgaaOpsD
set_option linter.unusedVariables false
set_option linter.unusedSimpArgs false
namespace Go.Proofs.Ytffbkmcaecmmgaa.Ops
open Go Go.RowKit
open Go.Proofs.YtffbkmcaecmmgaaW.PrintWords
set_option maxRecDepth 100000 in
set_option maxHeartbeats 8000000 in
theorem rows_calls0 (w : World) : Calls Try.prog 11 #[] w fun e w' => e = .returned (.slice (some ⟨(fin29 (five w)).heap.size, 0, none⟩) 31 31) ∧ w' = (fin29 (five w)).alloc (.cells (rowCells (five w)) 44) := by
  go_enter Try.func11, Try.ntmps11
  go_upto_region 6 with fail
  have hw5 : (((((w.alloc (.cells #[.int .i64 8, .int .i64 1, .string ⟨#[118]⟩, .func (.func 15) #[] #[], .func (.func 16) #[] #[]] 48)).alloc (.cells #[.int .i64 4, .int .i64 1, .string ⟨#[118]⟩, .func (.func 17) #[] #[], .func (.func 18) #[] #[]] 48)).alloc (.cells #[.int .i64 0, .int .i64 1, .string ⟨#[]⟩, .func (.func 19) #[] #[], .func (.func 20) #[] #[]] 48)).alloc (.cells #[.int .i64 0, .int .i64 2, .string ⟨#[]⟩, .func (.func 21) #[] #[], .func (.func 22) #[] #[]] 48)).alloc (.cells #[.int .i64 0, .int .i64 3, .string ⟨#[]⟩, .func (.func 23) #[] #[], .func (.func 24) #[] #[]] 48)) = five w := rfl
  rw [hw5]
  clear hw5
  obtain ⟨W, b0, hW, h0, hs, c00, c01, c02, c03, c04, c10, c11, c12, c13, c14, c20, c21, c22, c23, c24, c30, c31, c32, c33, c34, c40, c41, c42, c43, c44⟩ : ∃ W b0, five w = W ∧ w.heap.size = b0 ∧ W.heap.size = b0 + 5 ∧ W.cell? ⟨b0, 0, none⟩ = some (.int .i64 8) ∧ W.cell? ⟨b0, 1, none⟩ = some (.int .i64 1) ∧ W.cell? ⟨b0, 2, none⟩ = some (.string ⟨#[118]⟩) ∧ W.cell? ⟨b0, 3, none⟩ = some (.func (.func 15) #[] #[]) ∧ W.cell? ⟨b0, 4, none⟩ = some (.func (.func 16) #[] #[]) ∧ W.cell? ⟨b0 + 1, 0, none⟩ = some (.int .i64 4) ∧ W.cell? ⟨b0 + 1, 1, none⟩ = some (.int .i64 1) ∧ W.cell? ⟨b0 + 1, 2, none⟩ = some (.string ⟨#[118]⟩) ∧ W.cell? ⟨b0 + 1, 3, none⟩ = some (.func (.func 17) #[] #[]) ∧ W.cell? ⟨b0 + 1, 4, none⟩ = some (.func (.func 18) #[] #[]) ∧ W.cell? ⟨b0 + 1 + 1, 0, none⟩ = some (.int .i64 0) ∧ W.cell? ⟨b0 + 1 + 1, 1, none⟩ = some (.int .i64 1) ∧ W.cell? ⟨b0 + 1 + 1, 2, none⟩ = some (.string ⟨#[]⟩) ∧ W.cell? ⟨b0 + 1 + 1, 3, none⟩ = some (.func (.func 19) #[] #[]) ∧ W.cell? ⟨b0 + 1 + 1, 4, none⟩ = some (.func (.func 20) #[] #[]) ∧ W.cell? ⟨b0 + 1 + 1 + 1, 0, none⟩ = some (.int .i64 0) ∧ W.cell? ⟨b0 + 1 + 1 + 1, 1, none⟩ = some (.int .i64 2) ∧ W.cell? ⟨b0 + 1 + 1 + 1, 2, none⟩ = some (.string ⟨#[]⟩) ∧ W.cell? ⟨b0 + 1 + 1 + 1, 3, none⟩ = some (.func (.func 21) #[] #[]) ∧ W.cell? ⟨b0 + 1 + 1 + 1, 4, none⟩ = some (.func (.func 22) #[] #[]) ∧ W.cell? ⟨b0 + 1 + 1 + 1 + 1, 0, none⟩ = some (.int .i64 0) ∧ W.cell? ⟨b0 + 1 + 1 + 1 + 1, 1, none⟩ = some (.int .i64 3) ∧ W.cell? ⟨b0 + 1 + 1 + 1 + 1, 2, none⟩ = some (.string ⟨#[]⟩) ∧ W.cell? ⟨b0 + 1 + 1 + 1 + 1, 3, none⟩ = some (.func (.func 23) #[] #[]) ∧ W.cell? ⟨b0 + 1 + 1 + 1 + 1, 4, none⟩ = some (.func (.func 24) #[] #[]) :=
    ⟨five w, _, rfl, rfl, five_size w, (blk_cell (five_0 w) 0).trans rfl, (blk_cell (five_0 w) 1).trans rfl, (blk_cell (five_0 w) 2).trans rfl, (blk_cell (five_0 w) 3).trans rfl, (blk_cell (five_0 w) 4).trans rfl, (blk_cell (five_1 w) 0).trans rfl, (blk_cell (five_1 w) 1).trans rfl, (blk_cell (five_1 w) 2).trans rfl, (blk_cell (five_1 w) 3).trans rfl, (blk_cell (five_1 w) 4).trans rfl, (blk_cell (five_2 w) 0).trans rfl, (blk_cell (five_2 w) 1).trans rfl, (blk_cell (five_2 w) 2).trans rfl, (blk_cell (five_2 w) 3).trans rfl, (blk_cell (five_2 w) 4).trans rfl, (blk_cell (five_3 w) 0).trans rfl, (blk_cell (five_3 w) 1).trans rfl, (blk_cell (five_3 w) 2).trans rfl, (blk_cell (five_3 w) 3).trans rfl, (blk_cell (five_3 w) 4).trans rfl, (blk_cell (five_4 w) 0).trans rfl, (blk_cell (five_4 w) 1).trans rfl, (blk_cell (five_4 w) 2).trans rfl, (blk_cell (five_4 w) 3).trans rfl, (blk_cell (five_4 w) 4).trans rfl⟩
  rw [hW, h0]
  have l0 : b0 < W.heap.size := by omega
  have l1 : b0 + 1 < W.heap.size := by omega
  have l2 : b0 + 1 + 1 < W.heap.size := by omega
  have l3 : b0 + 1 + 1 + 1 < W.heap.size := by omega
  have l4 : b0 + 1 + 1 + 1 + 1 < W.heap.size := by omega
  have m1 : b0 < W.heap.size + 1 := by omega
  have m2 : b0 < W.heap.size + 1 + 1 := by omega
  have m3 : b0 < W.heap.size + 1 + 1 + 1 := by omega
  have m4 : b0 < W.heap.size + 1 + 1 + 1 + 1 := by omega
  have m5 : b0 < W.heap.size + 1 + 1 + 1 + 1 + 1 := by omega
  have m6 : b0 < W.heap.size + 1 + 1 + 1 + 1 + 1 + 1 := by omega
  have m7 : b0 < W.heap.size + 1 + 1 + 1 + 1 + 1 + 1 + 1 := by omega
  have m8 : b0 < W.heap.size + 1 + 1 + 1 + 1 + 1 + 1 + 1 + 1 := by omega
  have m9 : b0 < W.heap.size + 1 + 1 + 1 + 1 + 1 + 1 + 1 + 1 + 1 := by omega
  have m10 : b0 < W.heap.size + 1 + 1 + 1 + 1 + 1 + 1 + 1 + 1 + 1 + 1 := by omega
  have m11 : b0 < W.heap.size + 1 + 1 + 1 + 1 + 1 + 1 + 1 + 1 + 1 + 1 + 1 := by omega
  have m12 : b0 < W.heap.size + 1 + 1 + 1 + 1 + 1 + 1 + 1 + 1 + 1 + 1 + 1 + 1 := by omega
  have m13 : b0 < W.heap.size + 1 + 1 + 1 + 1 + 1 + 1 + 1 + 1 + 1 + 1 + 1 + 1 + 1 := by omega
  have m14 : b0 < W.heap.size + 1 + 1 + 1 + 1 + 1 + 1 + 1 + 1 + 1 + 1 + 1 + 1 + 1 + 1 := by omega
  have m15 : b0 < W.heap.size + 1 + 1 + 1 + 1 + 1 + 1 + 1 + 1 + 1 + 1 + 1 + 1 + 1 + 1 + 1 := by omega
  have m16 : b0 < W.heap.size + 1 + 1 + 1 + 1 + 1 + 1 + 1 + 1 + 1 + 1 + 1 + 1 + 1 + 1 + 1 + 1 := by omega
  have m17 : b0 < W.heap.size + 1 + 1 + 1 + 1 + 1 + 1 + 1 + 1 + 1 + 1 + 1 + 1 + 1 + 1 + 1 + 1 + 1 := by omega
  have m18 : b0 < W.heap.size + 1 + 1 + 1 + 1 + 1 + 1 + 1 + 1 + 1 + 1 + 1 + 1 + 1 + 1 + 1 + 1 + 1 + 1 := by omega
  have m19 : b0 < W.heap.size + 1 + 1 + 1 + 1 + 1 + 1 + 1 + 1 + 1 + 1 + 1 + 1 + 1 + 1 + 1 + 1 + 1 + 1 + 1 := by omega
  have m20 : b0 < W.heap.size + 1 + 1 + 1 + 1 + 1 + 1 + 1 + 1 + 1 + 1 + 1 + 1 + 1 + 1 + 1 + 1 + 1 + 1 + 1 + 1 := by omega
  have m21 : b0 < W.heap.size + 1 + 1 + 1 + 1 + 1 + 1 + 1 + 1 + 1 + 1 + 1 + 1 + 1 + 1 + 1 + 1 + 1 + 1 + 1 + 1 + 1 := by omega
  have m22 : b0 < W.heap.size + 1 + 1 + 1 + 1 + 1 + 1 + 1 + 1 + 1 + 1 + 1 + 1 + 1 + 1 + 1 + 1 + 1 + 1 + 1 + 1 + 1 + 1 := by omega
  have m23 : b0 < W.heap.size + 1 + 1 + 1 + 1 + 1 + 1 + 1 + 1 + 1 + 1 + 1 + 1 + 1 + 1 + 1 + 1 + 1 + 1 + 1 + 1 + 1 + 1 + 1 := by omega
  have m24 : b0 < W.heap.size + 1 + 1 + 1 + 1 + 1 + 1 + 1 + 1 + 1 + 1 + 1 + 1 + 1 + 1 + 1 + 1 + 1 + 1 + 1 + 1 + 1 + 1 + 1 + 1 := by omega
  have m25 : b0 < W.heap.size + 1 + 1 + 1 + 1 + 1 + 1 + 1 + 1 + 1 + 1 + 1 + 1 + 1 + 1 + 1 + 1 + 1 + 1 + 1 + 1 + 1 + 1 + 1 + 1 + 1 := by omega
  have m26 : b0 < W.heap.size + 1 + 1 + 1 + 1 + 1 + 1 + 1 + 1 + 1 + 1 + 1 + 1 + 1 + 1 + 1 + 1 + 1 + 1 + 1 + 1 + 1 + 1 + 1 + 1 + 1 + 1 := by omega
  have m27 : b0 < W.heap.size + 1 + 1 + 1 + 1 + 1 + 1 + 1 + 1 + 1 + 1 + 1 + 1 + 1 + 1 + 1 + 1 + 1 + 1 + 1 + 1 + 1 + 1 + 1 + 1 + 1 + 1 + 1 := by omega
  have m28 : b0 < W.heap.size + 1 + 1 + 1 + 1 + 1 + 1 + 1 + 1 + 1 + 1 + 1 + 1 + 1 + 1 + 1 + 1 + 1 + 1 + 1 + 1 + 1 + 1 + 1 + 1 + 1 + 1 + 1 + 1 := by omega
  have m29 : b0 < W.heap.size + 1 + 1 + 1 + 1 + 1 + 1 + 1 + 1 + 1 + 1 + 1 + 1 + 1 + 1 + 1 + 1 + 1 + 1 + 1 + 1 + 1 + 1 + 1 + 1 + 1 + 1 + 1 + 1 + 1 := by omega
  have m30 : b0 < W.heap.size + 1 + 1 + 1 + 1 + 1 + 1 + 1 + 1 + 1 + 1 + 1 + 1 + 1 + 1 + 1 + 1 + 1 + 1 + 1 + 1 + 1 + 1 + 1 + 1 + 1 + 1 + 1 + 1 + 1 + 1 := by omega
  have m31 : b0 < W.heap.size + 1 + 1 + 1 + 1 + 1 + 1 + 1 + 1 + 1 + 1 + 1 + 1 + 1 + 1 + 1 + 1 + 1 + 1 + 1 + 1 + 1 + 1 + 1 + 1 + 1 + 1 + 1 + 1 + 1 + 1 + 1 := by omega
  have m32 : b0 < W.heap.size + 1 + 1 + 1 + 1 + 1 + 1 + 1 + 1 + 1 + 1 + 1 + 1 + 1 + 1 + 1 + 1 + 1 + 1 + 1 + 1 + 1 + 1 + 1 + 1 + 1 + 1 + 1 + 1 + 1 + 1 + 1 + 1 := by omega
  have m33 : b0 < W.heap.size + 1 + 1 + 1 + 1 + 1 + 1 + 1 + 1 + 1 + 1 + 1 + 1 + 1 + 1 + 1 + 1 + 1 + 1 + 1 + 1 + 1 + 1 + 1 + 1 + 1 + 1 + 1 + 1 + 1 + 1 + 1 + 1 + 1 := by omega
  clear hs h0
  have HWW := Aside0.mk hW
  clear hW
  go_wp2_with fail
  refine wp_of_run (.slice (some ⟨(fin29 W).heap.size, 0, none⟩) 31 31) ((fin29 W).alloc (.cells (rowCells W) 44)) (by kernel_rfl) ?_
  go_wp2
  go_ret
  rw [HWW.out]
  exact ⟨rfl, rfl⟩
end Go.Proofs.Ytffbkmcaecmmgaa.Ops
