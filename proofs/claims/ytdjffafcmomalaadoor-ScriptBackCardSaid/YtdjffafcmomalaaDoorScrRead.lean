/- script.read: a line whose first word is no number, or one that no span has. -/
import Derived.Test.YtdjffafcmomalaaDoorScrReadL
import Derived.Lib.SplitLaws
set_option linter.unusedVariables false
set_option linter.unusedSimpArgs false
namespace Go.Proofs.YtdjffafcmomalaaDoor.Scr
open Go Go.RowKit
open Go.Proofs.YtdjffafcmomalaaDoorW.PrintWords Go.Proofs.YtdjffafcmomalaaDoor.PScr

theorem words_len (l : ByteArray) : (wordsOf l).length = Lib.countB l blank + 1 := Lib.splitB_all blank (by decide) 0 _ l rfl
set_option maxRecDepth 100000 in
set_option maxHeartbeats 4000000 in
theorem read_bad (l : ByteArray) (w0 : World) (hl : l.size ≤ 70000) (hG : GOk w0) (x : ByteArray) (hx : (wordsOf l).headD ⟨#[]⟩ = x) (hxs : x.size ≤ 1000000) (v : Int) (h : Lib.atoiAll x.data.toList = .syntax ∧ v = 0 ∨ Lib.atoiAll x.data.toList = .range ∧ v = Lib.atoiSat x.data.toList) :
    Calls Tryd.prog 43 #[.string l] w0 fun e w' => e = .returned (.tuple #[.agg #[.int .i64 v, .int .u16 0, .bool false, .bool false, .bool false, .bool false, .bool false, .bool false, .bool false, .int .u8 0], .bool false]) ∧ Below w0.heap.size w0 w' := by
  have HG := Aside0.mk hG
  have HX := Aside0.mk hx
  have HA := Aside0.mk h
  clear hG hx h
  have HWL : Aside0 ((wordsOf l).length = Lib.countB l blank + 1) := ⟨words_len l⟩
  have ZB0 : Aside0 (Bx (zero34 0) w0.heap.size (w0.alloc (.cells #[.int .i64 0, .int .u16 0, .bool false, .bool false, .bool false, .bool false, .bool false, .bool false, .bool false, .int .u8 0] 34))) := ⟨heap_alloc_new w0 _⟩
  have B0 := Aside0.mk (below_alloc (Below.refl w0.heap.size w0) (.cells #[.int .i64 0, .int .u16 0, .bool false, .bool false, .bool false, .bool false, .bool false, .bool false, .bool false, .int .u8 0] 34))
  go_enter Tryd.func43, Tryd.ntmps43
  go_wp2_with fail
  generalize w0.alloc (.cells #[.int .i64 0, .int .u16 0, .bool false, .bool false, .bool false, .bool false, .bool false, .bool false, .bool false, .int .u8 0] 34) = w at ZB0 B0 ⊢
  obtain ⟨m, hm⟩ := (GOk.below HG.out B0.out).max
  (with_reducible refine (Tryd.strings_Split l blank m w (by omega) hm (by decide)).mono ?_)
  rintro e w1 ⟨rfl, hw1⟩
  have W1 : Aside0 (Wd (wordsOf l) w.heap.size w1) := ⟨by rw [hw1]; exact heap_alloc_new w _⟩
  have hb1 : Below w.heap.size w w1 := by rw [hw1]; exact below_alloc (Below.refl _ _) _
  have Z1 := Aside0.mk (ZB0.out.below hb1)
  have B1 := Aside0.mk (below_step B0.out hb1)
  have NE := Aside0.mk (show w0.heap.size < w.heap.size from World.block_lt_of_cell? _ _ ((blk_cell ZB0.out 0).trans rfl))
  clear hm hw1 hb1 ZB0 B0
  generalize w.heap.size = wb at W1 NE ⊢
  have k0 : 0 < (wordsOf l).length := by rw [HWL.out]; omega
  have q0 : w1.cell? ⟨wb, 0, none⟩ = some (.string x) := by
    rw [W1.out.head k0, HX.out]
  clear k0
  generalize Lib.countB l blank = nw at HWL ⊢
  go_wp2_with fail
  (with_reducible refine (atoi_no x hxs v HA.out w1 (GOk.below HG.out B1.out)).mono ?_)
  rintro e w2 ⟨N, rfl, hb⟩
  have Z2 := Aside0.mk (Z1.out.below hb)
  have B2 := Aside0.mk (below_step B1.out hb)
  clear hb q0 Z1 B1 W1
  have n2 : w0.heap.size < w2.heap.size := World.block_lt_of_cell? _ _ ((blk_cell Z2.out 0).trans rfl)
  have n3 : w2.heap.size ≠ w0.heap.size := by omega
  have n4 : w0.heap.size ≠ w2.heap.size := by omega
  have z0 : w2.cell? ⟨w0.heap.size, 0, none⟩ = some (.int .i64 0) := (blk_cell Z2.out 0).trans rfl
  have y0 := blk_frozen Z2.out 0
  have z1 : w2.cell? ⟨w0.heap.size, 1, none⟩ = some (.int .u16 0) := (blk_cell Z2.out 1).trans rfl
  have y1 := blk_frozen Z2.out 1
  have z2 : w2.cell? ⟨w0.heap.size, 2, none⟩ = some (.bool false) := (blk_cell Z2.out 2).trans rfl
  have y2 := blk_frozen Z2.out 2
  have z3 : w2.cell? ⟨w0.heap.size, 3, none⟩ = some (.bool false) := (blk_cell Z2.out 3).trans rfl
  have y3 := blk_frozen Z2.out 3
  have z4 : w2.cell? ⟨w0.heap.size, 4, none⟩ = some (.bool false) := (blk_cell Z2.out 4).trans rfl
  have y4 := blk_frozen Z2.out 4
  have z5 : w2.cell? ⟨w0.heap.size, 5, none⟩ = some (.bool false) := (blk_cell Z2.out 5).trans rfl
  have y5 := blk_frozen Z2.out 5
  have z6 : w2.cell? ⟨w0.heap.size, 6, none⟩ = some (.bool false) := (blk_cell Z2.out 6).trans rfl
  have y6 := blk_frozen Z2.out 6
  have z7 : w2.cell? ⟨w0.heap.size, 7, none⟩ = some (.bool false) := (blk_cell Z2.out 7).trans rfl
  have y7 := blk_frozen Z2.out 7
  have z8 : w2.cell? ⟨w0.heap.size, 8, none⟩ = some (.bool false) := (blk_cell Z2.out 8).trans rfl
  have y8 := blk_frozen Z2.out 8
  have z9 : w2.cell? ⟨w0.heap.size, 9, none⟩ = some (.int .u8 0) := (blk_cell Z2.out 9).trans rfl
  have y9 := blk_frozen Z2.out 9
  have P3 : Aside0 (Bx (zero34 v) w0.heap.size (put34 w2 w0.heap.size (zero34 v))) := ⟨put34_bx Z2.out _⟩
  have B3 : Aside0 (Below w0.heap.size w0 (put34 w2 w0.heap.size (zero34 v))) := ⟨put34_below _ B2.out (Nat.le_refl _) _⟩
  unfold put34 at P3 B3
  simp only [zero34] at P3 B3
  go_wp2
  generalize ((((((((((w2.setCell ⟨w0.heap.size, 0, none⟩ (.int .i64 v)).setCell ⟨w0.heap.size, 1, none⟩ (.int .u16 0)).setCell ⟨w0.heap.size, 2, none⟩ (.bool false)).setCell ⟨w0.heap.size, 3, none⟩ (.bool false)).setCell ⟨w0.heap.size, 4, none⟩ (.bool false)).setCell ⟨w0.heap.size, 5, none⟩ (.bool false)).setCell ⟨w0.heap.size, 6, none⟩ (.bool false)).setCell ⟨w0.heap.size, 7, none⟩ (.bool false)).setCell ⟨w0.heap.size, 8, none⟩ (.bool false)).setCell ⟨w0.heap.size, 9, none⟩ (.int .u8 0)) = w3 at P3 B3 ⊢
  have FIN : Aside0 (Bx (zero34 v) w0.heap.size (w3.alloc (.cells #[.int .i64 v, .int .u16 0, .bool false, .bool false, .bool false, .bool false, .bool false, .bool false, .bool false, .int .u8 0] 34))) := ⟨P3.out.below (below_alloc (Below.refl _ _) _)⟩
  have BF := Aside0.mk (below_alloc B3.out (.cells #[.int .i64 v, .int .u16 0, .bool false, .bool false, .bool false, .bool false, .bool false, .bool false, .bool false, .int .u8 0] 34))
  generalize w3.alloc (.cells #[.int .i64 v, .int .u16 0, .bool false, .bool false, .bool false, .bool false, .bool false, .bool false, .bool false, .int .u8 0] 34) = w4 at FIN BF ⊢
  have c0 : w4.cell? ⟨w0.heap.size, 0, none⟩ = some (.int .i64 v) := (blk_cell FIN.out 0).trans rfl
  have c1 : w4.cell? ⟨w0.heap.size, 1, none⟩ = some (.int .u16 0) := (blk_cell FIN.out 1).trans rfl
  have c2 : w4.cell? ⟨w0.heap.size, 2, none⟩ = some (.bool false) := (blk_cell FIN.out 2).trans rfl
  have c3 : w4.cell? ⟨w0.heap.size, 3, none⟩ = some (.bool false) := (blk_cell FIN.out 3).trans rfl
  have c4 : w4.cell? ⟨w0.heap.size, 4, none⟩ = some (.bool false) := (blk_cell FIN.out 4).trans rfl
  have c5 : w4.cell? ⟨w0.heap.size, 5, none⟩ = some (.bool false) := (blk_cell FIN.out 5).trans rfl
  have c6 : w4.cell? ⟨w0.heap.size, 6, none⟩ = some (.bool false) := (blk_cell FIN.out 6).trans rfl
  have c7 : w4.cell? ⟨w0.heap.size, 7, none⟩ = some (.bool false) := (blk_cell FIN.out 7).trans rfl
  have c8 : w4.cell? ⟨w0.heap.size, 8, none⟩ = some (.bool false) := (blk_cell FIN.out 8).trans rfl
  have c9 : w4.cell? ⟨w0.heap.size, 9, none⟩ = some (.int .u8 0) := (blk_cell FIN.out 9).trans rfl
  refine bodyPost_ret (v := .tuple #[.agg #[.int .i64 v, .int .u16 0, .bool false, .bool false, .bool false, .bool false, .bool false, .bool false, .bool false, .int .u8 0], .bool false]) (by simp [results, Tryd.results43, go_sem, c0, c1, c2, c3, c4, c5, c6, c7, c8, c9]) rfl ⟨rfl, BF.out⟩

set_option maxRecDepth 100000 in
set_option maxHeartbeats 4000000 in
theorem read_low (l : ByteArray) (w0 : World) (hl : l.size ≤ 70000) (hG : GOk w0) (x : ByteArray) (hx : (wordsOf l).headD ⟨#[]⟩ = x) (hxs : x.size ≤ 1000000) (v : Int) (h : Lib.atoiAll x.data.toList = .ok v) (hv : v < 1) :
    Calls Tryd.prog 43 #[.string l] w0 fun e w' => e = .returned (.tuple #[.agg #[.int .i64 v, .int .u16 0, .bool false, .bool false, .bool false, .bool false, .bool false, .bool false, .bool false, .int .u8 0], .bool false]) ∧ Below w0.heap.size w0 w' := by
  have HG := Aside0.mk hG
  have HX := Aside0.mk hx
  have HA := Aside0.mk h
  clear hG hx h
  have HWL : Aside0 ((wordsOf l).length = Lib.countB l blank + 1) := ⟨words_len l⟩
  have ZB0 : Aside0 (Bx (zero34 0) w0.heap.size (w0.alloc (.cells #[.int .i64 0, .int .u16 0, .bool false, .bool false, .bool false, .bool false, .bool false, .bool false, .bool false, .int .u8 0] 34))) := ⟨heap_alloc_new w0 _⟩
  have B0 := Aside0.mk (below_alloc (Below.refl w0.heap.size w0) (.cells #[.int .i64 0, .int .u16 0, .bool false, .bool false, .bool false, .bool false, .bool false, .bool false, .bool false, .int .u8 0] 34))
  go_enter Tryd.func43, Tryd.ntmps43
  go_wp2_with fail
  generalize w0.alloc (.cells #[.int .i64 0, .int .u16 0, .bool false, .bool false, .bool false, .bool false, .bool false, .bool false, .bool false, .int .u8 0] 34) = w at ZB0 B0 ⊢
  obtain ⟨m, hm⟩ := (GOk.below HG.out B0.out).max
  (with_reducible refine (Tryd.strings_Split l blank m w (by omega) hm (by decide)).mono ?_)
  rintro e w1 ⟨rfl, hw1⟩
  have W1 : Aside0 (Wd (wordsOf l) w.heap.size w1) := ⟨by rw [hw1]; exact heap_alloc_new w _⟩
  have hb1 : Below w.heap.size w w1 := by rw [hw1]; exact below_alloc (Below.refl _ _) _
  have Z1 := Aside0.mk (ZB0.out.below hb1)
  have B1 := Aside0.mk (below_step B0.out hb1)
  have NE := Aside0.mk (show w0.heap.size < w.heap.size from World.block_lt_of_cell? _ _ ((blk_cell ZB0.out 0).trans rfl))
  clear hm hw1 hb1 ZB0 B0
  generalize w.heap.size = wb at W1 NE ⊢
  have k0 : 0 < (wordsOf l).length := by rw [HWL.out]; omega
  have q0 : w1.cell? ⟨wb, 0, none⟩ = some (.string x) := by
    rw [W1.out.head k0, HX.out]
  clear k0
  generalize Lib.countB l blank = nw at HWL ⊢
  go_wp2_with fail
  (with_reducible refine (atoi_ok x hxs v HA.out w1).mono ?_)
  rintro e w2 ⟨rfl, hb⟩
  have Z2 := Aside0.mk (Z1.out.below hb)
  have B2 := Aside0.mk (below_step B1.out hb)
  clear hb q0 Z1 B1 W1
  have n2 : w0.heap.size < w2.heap.size := World.block_lt_of_cell? _ _ ((blk_cell Z2.out 0).trans rfl)
  have n3 : w2.heap.size ≠ w0.heap.size := by omega
  have n4 : w0.heap.size ≠ w2.heap.size := by omega
  have z0 : w2.cell? ⟨w0.heap.size, 0, none⟩ = some (.int .i64 0) := (blk_cell Z2.out 0).trans rfl
  have y0 := blk_frozen Z2.out 0
  have z1 : w2.cell? ⟨w0.heap.size, 1, none⟩ = some (.int .u16 0) := (blk_cell Z2.out 1).trans rfl
  have y1 := blk_frozen Z2.out 1
  have z2 : w2.cell? ⟨w0.heap.size, 2, none⟩ = some (.bool false) := (blk_cell Z2.out 2).trans rfl
  have y2 := blk_frozen Z2.out 2
  have z3 : w2.cell? ⟨w0.heap.size, 3, none⟩ = some (.bool false) := (blk_cell Z2.out 3).trans rfl
  have y3 := blk_frozen Z2.out 3
  have z4 : w2.cell? ⟨w0.heap.size, 4, none⟩ = some (.bool false) := (blk_cell Z2.out 4).trans rfl
  have y4 := blk_frozen Z2.out 4
  have z5 : w2.cell? ⟨w0.heap.size, 5, none⟩ = some (.bool false) := (blk_cell Z2.out 5).trans rfl
  have y5 := blk_frozen Z2.out 5
  have z6 : w2.cell? ⟨w0.heap.size, 6, none⟩ = some (.bool false) := (blk_cell Z2.out 6).trans rfl
  have y6 := blk_frozen Z2.out 6
  have z7 : w2.cell? ⟨w0.heap.size, 7, none⟩ = some (.bool false) := (blk_cell Z2.out 7).trans rfl
  have y7 := blk_frozen Z2.out 7
  have z8 : w2.cell? ⟨w0.heap.size, 8, none⟩ = some (.bool false) := (blk_cell Z2.out 8).trans rfl
  have y8 := blk_frozen Z2.out 8
  have z9 : w2.cell? ⟨w0.heap.size, 9, none⟩ = some (.int .u8 0) := (blk_cell Z2.out 9).trans rfl
  have y9 := blk_frozen Z2.out 9
  have P3 : Aside0 (Bx (zero34 v) w0.heap.size (put34 w2 w0.heap.size (zero34 v))) := ⟨put34_bx Z2.out _⟩
  have B3 : Aside0 (Below w0.heap.size w0 (put34 w2 w0.heap.size (zero34 v))) := ⟨put34_below _ B2.out (Nat.le_refl _) _⟩
  unfold put34 at P3 B3
  simp only [zero34] at P3 B3
  go_wp2
  generalize ((((((((((w2.setCell ⟨w0.heap.size, 0, none⟩ (.int .i64 v)).setCell ⟨w0.heap.size, 1, none⟩ (.int .u16 0)).setCell ⟨w0.heap.size, 2, none⟩ (.bool false)).setCell ⟨w0.heap.size, 3, none⟩ (.bool false)).setCell ⟨w0.heap.size, 4, none⟩ (.bool false)).setCell ⟨w0.heap.size, 5, none⟩ (.bool false)).setCell ⟨w0.heap.size, 6, none⟩ (.bool false)).setCell ⟨w0.heap.size, 7, none⟩ (.bool false)).setCell ⟨w0.heap.size, 8, none⟩ (.bool false)).setCell ⟨w0.heap.size, 9, none⟩ (.int .u8 0)) = w3 at P3 B3 ⊢
  have FIN : Aside0 (Bx (zero34 v) w0.heap.size (w3.alloc (.cells #[.int .i64 v, .int .u16 0, .bool false, .bool false, .bool false, .bool false, .bool false, .bool false, .bool false, .int .u8 0] 34))) := ⟨P3.out.below (below_alloc (Below.refl _ _) _)⟩
  have BF := Aside0.mk (below_alloc B3.out (.cells #[.int .i64 v, .int .u16 0, .bool false, .bool false, .bool false, .bool false, .bool false, .bool false, .bool false, .int .u8 0] 34))
  generalize w3.alloc (.cells #[.int .i64 v, .int .u16 0, .bool false, .bool false, .bool false, .bool false, .bool false, .bool false, .bool false, .int .u8 0] 34) = w4 at FIN BF ⊢
  have c0 : w4.cell? ⟨w0.heap.size, 0, none⟩ = some (.int .i64 v) := (blk_cell FIN.out 0).trans rfl
  have c1 : w4.cell? ⟨w0.heap.size, 1, none⟩ = some (.int .u16 0) := (blk_cell FIN.out 1).trans rfl
  have c2 : w4.cell? ⟨w0.heap.size, 2, none⟩ = some (.bool false) := (blk_cell FIN.out 2).trans rfl
  have c3 : w4.cell? ⟨w0.heap.size, 3, none⟩ = some (.bool false) := (blk_cell FIN.out 3).trans rfl
  have c4 : w4.cell? ⟨w0.heap.size, 4, none⟩ = some (.bool false) := (blk_cell FIN.out 4).trans rfl
  have c5 : w4.cell? ⟨w0.heap.size, 5, none⟩ = some (.bool false) := (blk_cell FIN.out 5).trans rfl
  have c6 : w4.cell? ⟨w0.heap.size, 6, none⟩ = some (.bool false) := (blk_cell FIN.out 6).trans rfl
  have c7 : w4.cell? ⟨w0.heap.size, 7, none⟩ = some (.bool false) := (blk_cell FIN.out 7).trans rfl
  have c8 : w4.cell? ⟨w0.heap.size, 8, none⟩ = some (.bool false) := (blk_cell FIN.out 8).trans rfl
  have c9 : w4.cell? ⟨w0.heap.size, 9, none⟩ = some (.int .u8 0) := (blk_cell FIN.out 9).trans rfl
  refine bodyPost_ret (v := .tuple #[.agg #[.int .i64 v, .int .u16 0, .bool false, .bool false, .bool false, .bool false, .bool false, .bool false, .bool false, .int .u8 0], .bool false]) (by simp [results, Tryd.results43, go_sem, c0, c1, c2, c3, c4, c5, c6, c7, c8, c9]) rfl ⟨rfl, BF.out⟩

set_option maxRecDepth 100000 in
set_option maxHeartbeats 4000000 in
theorem read_high (l : ByteArray) (w0 : World) (hl : l.size ≤ 70000) (hG : GOk w0) (x : ByteArray) (hx : (wordsOf l).headD ⟨#[]⟩ = x) (hxs : x.size ≤ 1000000) (v : Int) (h : Lib.atoiAll x.data.toList = .ok v) (hv : 1048576 < v) :
    Calls Tryd.prog 43 #[.string l] w0 fun e w' => e = .returned (.tuple #[.agg #[.int .i64 v, .int .u16 0, .bool false, .bool false, .bool false, .bool false, .bool false, .bool false, .bool false, .int .u8 0], .bool false]) ∧ Below w0.heap.size w0 w' := by
  have HG := Aside0.mk hG
  have HX := Aside0.mk hx
  have HA := Aside0.mk h
  clear hG hx h
  have HWL : Aside0 ((wordsOf l).length = Lib.countB l blank + 1) := ⟨words_len l⟩
  have ZB0 : Aside0 (Bx (zero34 0) w0.heap.size (w0.alloc (.cells #[.int .i64 0, .int .u16 0, .bool false, .bool false, .bool false, .bool false, .bool false, .bool false, .bool false, .int .u8 0] 34))) := ⟨heap_alloc_new w0 _⟩
  have B0 := Aside0.mk (below_alloc (Below.refl w0.heap.size w0) (.cells #[.int .i64 0, .int .u16 0, .bool false, .bool false, .bool false, .bool false, .bool false, .bool false, .bool false, .int .u8 0] 34))
  go_enter Tryd.func43, Tryd.ntmps43
  go_wp2_with fail
  generalize w0.alloc (.cells #[.int .i64 0, .int .u16 0, .bool false, .bool false, .bool false, .bool false, .bool false, .bool false, .bool false, .int .u8 0] 34) = w at ZB0 B0 ⊢
  obtain ⟨m, hm⟩ := (GOk.below HG.out B0.out).max
  (with_reducible refine (Tryd.strings_Split l blank m w (by omega) hm (by decide)).mono ?_)
  rintro e w1 ⟨rfl, hw1⟩
  have W1 : Aside0 (Wd (wordsOf l) w.heap.size w1) := ⟨by rw [hw1]; exact heap_alloc_new w _⟩
  have hb1 : Below w.heap.size w w1 := by rw [hw1]; exact below_alloc (Below.refl _ _) _
  have Z1 := Aside0.mk (ZB0.out.below hb1)
  have B1 := Aside0.mk (below_step B0.out hb1)
  have NE := Aside0.mk (show w0.heap.size < w.heap.size from World.block_lt_of_cell? _ _ ((blk_cell ZB0.out 0).trans rfl))
  clear hm hw1 hb1 ZB0 B0
  generalize w.heap.size = wb at W1 NE ⊢
  have k0 : 0 < (wordsOf l).length := by rw [HWL.out]; omega
  have q0 : w1.cell? ⟨wb, 0, none⟩ = some (.string x) := by
    rw [W1.out.head k0, HX.out]
  clear k0
  generalize Lib.countB l blank = nw at HWL ⊢
  go_wp2_with fail
  (with_reducible refine (atoi_ok x hxs v HA.out w1).mono ?_)
  rintro e w2 ⟨rfl, hb⟩
  have v1 : 1 ≤ v := by omega
  have v2 : ¬ v < 1 := by omega
  have Z2 := Aside0.mk (Z1.out.below hb)
  have B2 := Aside0.mk (below_step B1.out hb)
  clear hb q0 Z1 B1 W1
  have n2 : w0.heap.size < w2.heap.size := World.block_lt_of_cell? _ _ ((blk_cell Z2.out 0).trans rfl)
  have n3 : w2.heap.size ≠ w0.heap.size := by omega
  have n4 : w0.heap.size ≠ w2.heap.size := by omega
  have z0 : w2.cell? ⟨w0.heap.size, 0, none⟩ = some (.int .i64 0) := (blk_cell Z2.out 0).trans rfl
  have y0 := blk_frozen Z2.out 0
  have z1 : w2.cell? ⟨w0.heap.size, 1, none⟩ = some (.int .u16 0) := (blk_cell Z2.out 1).trans rfl
  have y1 := blk_frozen Z2.out 1
  have z2 : w2.cell? ⟨w0.heap.size, 2, none⟩ = some (.bool false) := (blk_cell Z2.out 2).trans rfl
  have y2 := blk_frozen Z2.out 2
  have z3 : w2.cell? ⟨w0.heap.size, 3, none⟩ = some (.bool false) := (blk_cell Z2.out 3).trans rfl
  have y3 := blk_frozen Z2.out 3
  have z4 : w2.cell? ⟨w0.heap.size, 4, none⟩ = some (.bool false) := (blk_cell Z2.out 4).trans rfl
  have y4 := blk_frozen Z2.out 4
  have z5 : w2.cell? ⟨w0.heap.size, 5, none⟩ = some (.bool false) := (blk_cell Z2.out 5).trans rfl
  have y5 := blk_frozen Z2.out 5
  have z6 : w2.cell? ⟨w0.heap.size, 6, none⟩ = some (.bool false) := (blk_cell Z2.out 6).trans rfl
  have y6 := blk_frozen Z2.out 6
  have z7 : w2.cell? ⟨w0.heap.size, 7, none⟩ = some (.bool false) := (blk_cell Z2.out 7).trans rfl
  have y7 := blk_frozen Z2.out 7
  have z8 : w2.cell? ⟨w0.heap.size, 8, none⟩ = some (.bool false) := (blk_cell Z2.out 8).trans rfl
  have y8 := blk_frozen Z2.out 8
  have z9 : w2.cell? ⟨w0.heap.size, 9, none⟩ = some (.int .u8 0) := (blk_cell Z2.out 9).trans rfl
  have y9 := blk_frozen Z2.out 9
  have P3 : Aside0 (Bx (zero34 v) w0.heap.size (put34 w2 w0.heap.size (zero34 v))) := ⟨put34_bx Z2.out _⟩
  have B3 : Aside0 (Below w0.heap.size w0 (put34 w2 w0.heap.size (zero34 v))) := ⟨put34_below _ B2.out (Nat.le_refl _) _⟩
  unfold put34 at P3 B3
  simp only [zero34] at P3 B3
  go_wp2
  generalize ((((((((((w2.setCell ⟨w0.heap.size, 0, none⟩ (.int .i64 v)).setCell ⟨w0.heap.size, 1, none⟩ (.int .u16 0)).setCell ⟨w0.heap.size, 2, none⟩ (.bool false)).setCell ⟨w0.heap.size, 3, none⟩ (.bool false)).setCell ⟨w0.heap.size, 4, none⟩ (.bool false)).setCell ⟨w0.heap.size, 5, none⟩ (.bool false)).setCell ⟨w0.heap.size, 6, none⟩ (.bool false)).setCell ⟨w0.heap.size, 7, none⟩ (.bool false)).setCell ⟨w0.heap.size, 8, none⟩ (.bool false)).setCell ⟨w0.heap.size, 9, none⟩ (.int .u8 0)) = w3 at P3 B3 ⊢
  have FIN : Aside0 (Bx (zero34 v) w0.heap.size (w3.alloc (.cells #[.int .i64 v, .int .u16 0, .bool false, .bool false, .bool false, .bool false, .bool false, .bool false, .bool false, .int .u8 0] 34))) := ⟨P3.out.below (below_alloc (Below.refl _ _) _)⟩
  have BF := Aside0.mk (below_alloc B3.out (.cells #[.int .i64 v, .int .u16 0, .bool false, .bool false, .bool false, .bool false, .bool false, .bool false, .bool false, .int .u8 0] 34))
  generalize w3.alloc (.cells #[.int .i64 v, .int .u16 0, .bool false, .bool false, .bool false, .bool false, .bool false, .bool false, .bool false, .int .u8 0] 34) = w4 at FIN BF ⊢
  have c0 : w4.cell? ⟨w0.heap.size, 0, none⟩ = some (.int .i64 v) := (blk_cell FIN.out 0).trans rfl
  have c1 : w4.cell? ⟨w0.heap.size, 1, none⟩ = some (.int .u16 0) := (blk_cell FIN.out 1).trans rfl
  have c2 : w4.cell? ⟨w0.heap.size, 2, none⟩ = some (.bool false) := (blk_cell FIN.out 2).trans rfl
  have c3 : w4.cell? ⟨w0.heap.size, 3, none⟩ = some (.bool false) := (blk_cell FIN.out 3).trans rfl
  have c4 : w4.cell? ⟨w0.heap.size, 4, none⟩ = some (.bool false) := (blk_cell FIN.out 4).trans rfl
  have c5 : w4.cell? ⟨w0.heap.size, 5, none⟩ = some (.bool false) := (blk_cell FIN.out 5).trans rfl
  have c6 : w4.cell? ⟨w0.heap.size, 6, none⟩ = some (.bool false) := (blk_cell FIN.out 6).trans rfl
  have c7 : w4.cell? ⟨w0.heap.size, 7, none⟩ = some (.bool false) := (blk_cell FIN.out 7).trans rfl
  have c8 : w4.cell? ⟨w0.heap.size, 8, none⟩ = some (.bool false) := (blk_cell FIN.out 8).trans rfl
  have c9 : w4.cell? ⟨w0.heap.size, 9, none⟩ = some (.int .u8 0) := (blk_cell FIN.out 9).trans rfl
  refine bodyPost_ret (v := .tuple #[.agg #[.int .i64 v, .int .u16 0, .bool false, .bool false, .bool false, .bool false, .bool false, .bool false, .bool false, .int .u8 0], .bool false]) (by simp [results, Tryd.results43, go_sem, c0, c1, c2, c3, c4, c5, c6, c7, c8, c9]) rfl ⟨rfl, BF.out⟩
end Go.Proofs.YtdjffafcmomalaaDoor.Scr
