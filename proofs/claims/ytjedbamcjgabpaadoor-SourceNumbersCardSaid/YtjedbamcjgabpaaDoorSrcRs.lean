/- source.readers' second and third closure, walked: an item that says where, and one that is an address. -/
import Derived.Test.YtjedbamcjgabpaaDoorSrcMs
set_option linter.unusedVariables false
set_option linter.unusedSimpArgs false
namespace Go.Proofs.YtjedbamcjgabpaaDoor.PSo
open Go Go.RowKit
open Go.Proofs.YtjedbamcjgabpaaDoorW.PrintWords
open Go.Proofs.YtjedbamcjgabpaaDoor.Src

def zcells : Array Value := #[.int .u8 0, .string ⟨#[]⟩, .int .i64 0, .string ⟨#[]⟩, .int .u8 0, .slice none 0 0]
theorem two_cell {w : World} {A : Option Addr} {x0 x1 : ByteArray} (hr : Kd.C Kd.string w A 2 [x0, x1]) : ∃ ad, A = some ad ∧ w.cell? ⟨ad.block, ad.off + 1, none⟩ = some (.string x1) := by
  obtain ⟨ad, e, h⟩ := Kd.at_string hr 1 (by decide) (by decide)
  exact ⟨ad, e, h⟩
set_option maxRecDepth 100000 in
set_option maxHeartbeats 2000000 in
theorem rd3_yes (A : Option Addr) (c : Nat) (x0 x1 : ByteArray) (w : World) (hr : Kd.C Kd.string w A 2 [x0, x1]) :
    Calls Tryd.prog 65 #[.slice A 2 c] w fun e w' => e = .returned (.agg #[.int .u8 5, .string ⟨#[]⟩, .int .i64 0, .string x1, .int .u8 0, .slice none 0 0]) ∧ Below w.heap.size w w' := by
  obtain ⟨ad, rfl, hq⟩ := two_cell hr
  have HB := Aside0.mk (below_alloc (Below.refl w.heap.size w) (.cells zcells 43))
  have HR := Aside0.mk (blk_new w (.cells zcells 43))
  unfold zcells at HB HR
  have hq2 := (HB.out.cell (World.block_lt_of_cell? w _ hq)).trans hq
  clear hr hq
  go_enter Tryd.func65, Tryd.ntmps65
  go_wp2_with fail
  (with_reducible refine (must_yes _).mono ?_)
  rintro e w2 ⟨rfl, rfl⟩
  generalize w.alloc (.cells #[.int .u8 0, .string ⟨#[]⟩, .int .i64 0, .string ⟨#[]⟩, .int .u8 0, .slice none 0 0] 43) = W at HB HR hq2 ⊢
  have z0 := (blk_cell HR.out 0).trans (rfl : _ = some (Value.int .u8 0))
  have z1 := (blk_cell HR.out 1).trans (rfl : _ = some (Value.string ⟨#[]⟩))
  have z2 := (blk_cell HR.out 2).trans (rfl : _ = some (Value.int .i64 0))
  have z3 := (blk_cell HR.out 3).trans (rfl : _ = some (Value.string ⟨#[]⟩))
  have z4 := (blk_cell HR.out 4).trans (rfl : _ = some (Value.int .u8 0))
  have z5 := (blk_cell HR.out 5).trans (rfl : _ = some (Value.slice none 0 0))
  have f0 := blk_frozen HR.out 0
  have f1 := blk_frozen HR.out 1
  have f2 := blk_frozen HR.out 2
  have f3 := blk_frozen HR.out 3
  have f4 := blk_frozen HR.out 4
  have f5 := blk_frozen HR.out 5
  go_wp2
  refine bodyPost_ret (results_cell_row rfl _ _ w.heap.size 43 #[.int .u8 5, .string ⟨#[]⟩, .int .i64 0, .string x1, .int .u8 0, .slice none 0 0] (0, 0) _ rfl (blk_put (blk_put (blk_put (blk_put (blk_put (blk_put HR.out 0 _ rfl) 1 _ rfl) 2 _ rfl) 3 _ rfl) 4 _ rfl) 5 _ rfl) Tryd.underlying43 rfl (by kernel_rfl)) rfl ?_
  exact ⟨rfl, below_set (below_set (below_set (below_set (below_set (below_set HB.out (Nat.le_refl _)) (Nat.le_refl _)) (Nat.le_refl _)) (Nat.le_refl _)) (Nat.le_refl _)) (Nat.le_refl _)⟩
set_option maxRecDepth 100000 in
theorem rd3_no (A : Option Addr) (c n : Nat) (hn : n ≠ 2) (w : World) :
    Calls Tryd.prog 65 #[.slice A n c] w fun e w' => e = .panicked PN ∧ Below w.heap.size w w' := by
  have HB := Aside0.mk (below_alloc (Below.refl w.heap.size w) (.cells zcells 43))
  unfold zcells at HB
  have t1 : ((n : Int) == 2) = false := beq_eq_false_iff_ne.2 (by omega)
  clear hn
  go_enter Tryd.func65, Tryd.ntmps65
  go_wp2_with fail
  (with_reducible refine (must_no _).mono ?_)
  rintro e w2 ⟨rfl, rfl⟩
  exact bodyPost_panic rfl ⟨rfl, HB.out⟩
set_option maxRecDepth 100000 in
theorem rd2_no (A : Option Addr) (c n : Nat) (hn : n ≠ 2) (w : World) :
    Calls Tryd.prog 64 #[.slice A n c] w fun e w' => e = .panicked PN ∧ Below w.heap.size w w' := by
  have HB := Aside0.mk (below_alloc (Below.refl w.heap.size w) (.cells zcells 43))
  unfold zcells at HB
  have t1 : ((n : Int) == 2) = false := beq_eq_false_iff_ne.2 (by omega)
  clear hn
  go_enter Tryd.func64, Tryd.ntmps64
  go_wp2_with fail
  (with_reducible refine (must_no _).mono ?_)
  rintro e w2 ⟨rfl, rfl⟩
  exact bodyPost_panic rfl ⟨rfl, HB.out⟩
set_option maxRecDepth 100000 in
set_option maxHeartbeats 2000000 in
theorem rd2_num (A : Option Addr) (c : Nat) (x0 x1 : ByteArray) (w : World) (hr : Kd.C Kd.string w A 2 [x0, x1]) (h : source_number.f x1 4 = none) :
    Calls Tryd.prog 64 #[.slice A 2 c] w fun e w' => e = .panicked PN ∧ Below w.heap.size w w' := by
  obtain ⟨ad, rfl, hq⟩ := two_cell hr
  have HB := Aside0.mk (below_alloc (Below.refl w.heap.size w) (.cells zcells 43))
  unfold zcells at HB
  have hq2 := (HB.out.cell (World.block_lt_of_cell? w _ hq)).trans hq
  have HN := Aside0.mk h
  clear hr hq h
  go_enter Tryd.func64, Tryd.ntmps64
  go_wp2_with fail
  (with_reducible refine (must_yes _).mono ?_)
  rintro e w2 ⟨rfl, rfl⟩
  go_wp2_with fail
  (with_reducible refine (source_number.none_ x1 4 _ HN.out).mono ?_)
  rintro e w3 ⟨rfl, hb⟩
  exact bodyPost_panic rfl ⟨rfl, below_step HB.out hb⟩
set_option maxRecDepth 100000 in
set_option maxHeartbeats 2000000 in
theorem rd2_yes (A : Option Addr) (c : Nat) (x0 x1 : ByteArray) (v : Int) (w : World) (hr : Kd.C Kd.string w A 2 [x0, x1]) (h : source_number.f x1 4 = some v) :
    Calls Tryd.prog 64 #[.slice A 2 c] w fun e w' => e = .returned (.agg #[.int .u8 4, .string ⟨#[]⟩, .int .i64 v, .string ⟨#[]⟩, .int .u8 0, .slice none 0 0]) ∧ Below w.heap.size w w' := by
  obtain ⟨ad, rfl, hq⟩ := two_cell hr
  have HB := Aside0.mk (below_alloc (Below.refl w.heap.size w) (.cells zcells 43))
  have HR := Aside0.mk (blk_new w (.cells zcells 43))
  unfold zcells at HB HR
  have hq2 := (HB.out.cell (World.block_lt_of_cell? w _ hq)).trans hq
  have HN := Aside0.mk h
  clear hr hq h
  go_enter Tryd.func64, Tryd.ntmps64
  go_wp2_with fail
  (with_reducible refine (must_yes _).mono ?_)
  rintro e w2 ⟨rfl, rfl⟩
  go_wp2_with fail
  (with_reducible refine (source_number.calls x1 4 v _ HN.out).mono ?_)
  rintro e w3 ⟨rfl, hb⟩
  have HB3 := Aside0.mk (below_step HB.out hb)
  have HR3 := Aside0.mk (blk_below HR.out hb)
  clear hb HB HR hq2
  have z0 := (blk_cell HR3.out 0).trans (rfl : _ = some (Value.int .u8 0))
  have z1 := (blk_cell HR3.out 1).trans (rfl : _ = some (Value.string ⟨#[]⟩))
  have z2 := (blk_cell HR3.out 2).trans (rfl : _ = some (Value.int .i64 0))
  have z3 := (blk_cell HR3.out 3).trans (rfl : _ = some (Value.string ⟨#[]⟩))
  have z4 := (blk_cell HR3.out 4).trans (rfl : _ = some (Value.int .u8 0))
  have z5 := (blk_cell HR3.out 5).trans (rfl : _ = some (Value.slice none 0 0))
  have f0 := blk_frozen HR3.out 0
  have f1 := blk_frozen HR3.out 1
  have f2 := blk_frozen HR3.out 2
  have f3 := blk_frozen HR3.out 3
  have f4 := blk_frozen HR3.out 4
  have f5 := blk_frozen HR3.out 5
  go_wp2
  refine bodyPost_ret (results_cell_row rfl _ _ w.heap.size 43 #[.int .u8 4, .string ⟨#[]⟩, .int .i64 v, .string ⟨#[]⟩, .int .u8 0, .slice none 0 0] (0, 0) _ rfl (blk_put (blk_put (blk_put (blk_put (blk_put (blk_put HR3.out 0 _ rfl) 1 _ rfl) 2 _ rfl) 3 _ rfl) 4 _ rfl) 5 _ rfl) Tryd.underlying43 rfl (by kernel_rfl)) rfl ?_
  exact ⟨rfl, below_set (below_set (below_set (below_set (below_set (below_set HB3.out (Nat.le_refl _)) (Nat.le_refl _)) (Nat.le_refl _)) (Nat.le_refl _)) (Nat.le_refl _)) (Nat.le_refl _)⟩
end Go.Proofs.YtjedbamcjgabpaaDoor.PSo
