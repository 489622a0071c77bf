/- Written by a program of this session (gprint.py, over the kit's printer): functions of the seat YtdjffafcmomalaaDoor and their contracts. No condition but each contract's own. -/
import Derived.Test.YtdjffafcmomalaaDoorPScrx0
import Derived.Test.YtdjffafcmomalaaDoorPScrx1
import Derived.Test.YtdjffafcmomalaaDoorPScrx3
namespace Go.Proofs.YtdjffafcmomalaaDoor.PScr
open Go.RowKit Go.Proofs.YtdjffafcmomalaaDoorW.PrintWords Go.Proofs.YtdjffafcmomalaaDoorW.PrintLast Go.Proofs.YtdjffafcmomalaaDoorW.PrintMore
attribute [local go_sem] max2_int min2_int max_two min_two max_three min_three max_four min_four   -- for this text's walks alone
set_option linter.unusedVariables false
set_option linter.unusedSimpArgs false

attribute [local go_sem high] eqA34
/-! ### vesperref07_Alike: function 47 -/
def vesperref07_Alike.f (a0_0 : Int) (a0_1 : Int) (a0_2 : Bool) (a0_3 : Bool) (a0_4 : Bool) (a0_5 : Bool) (a0_6 : Bool) (a0_7 : Bool) (a0_8 : Bool) (a0_9 : Int) (a1_0 : Int) (a1_1 : Int) (a1_2 : Bool) (a1_3 : Bool) (a1_4 : Bool) (a1_5 : Bool) (a1_6 : Bool) (a1_7 : Bool) (a1_8 : Bool) (a1_9 : Int) : Option (Bool) := some (a0_1 == a1_1 && (a0_2 == a1_2 && (a0_3 == a1_3 && (a0_4 == a1_4 && (a0_5 == a1_5 && (a0_6 == a1_6 && (a0_7 == a1_7 && (a0_8 == a1_8 && (a0_9 == a1_9)))))))))
set_option maxHeartbeats 8000000 in
set_option maxRecDepth 100000 in
theorem vesperref07_Alike.calls (a0_0 : Int) (a0_1 : Int) (a0_2 : Bool) (a0_3 : Bool) (a0_4 : Bool) (a0_5 : Bool) (a0_6 : Bool) (a0_7 : Bool) (a0_8 : Bool) (a0_9 : Int) (a1_0 : Int) (a1_1 : Int) (a1_2 : Bool) (a1_3 : Bool) (a1_4 : Bool) (a1_5 : Bool) (a1_6 : Bool) (a1_7 : Bool) (a1_8 : Bool) (a1_9 : Int) (r : Bool) (w : World) (h : vesperref07_Alike.f a0_0 a0_1 a0_2 a0_3 a0_4 a0_5 a0_6 a0_7 a0_8 a0_9 a1_0 a1_1 a1_2 a1_3 a1_4 a1_5 a1_6 a1_7 a1_8 a1_9 = some r) :
    Calls Tryd.prog 47 #[.agg #[.int .i64 a0_0, .int .u16 a0_1, .bool a0_2, .bool a0_3, .bool a0_4, .bool a0_5, .bool a0_6, .bool a0_7, .bool a0_8, .int .u8 a0_9], .agg #[.int .i64 a1_0, .int .u16 a1_1, .bool a1_2, .bool a1_3, .bool a1_4, .bool a1_5, .bool a1_6, .bool a1_7, .bool a1_8, .int .u8 a1_9]] w fun e w' => e = .returned (.bool r) ∧ Below w.heap.size w w' := by
  have hu34 := Tryd.underlying34
  have HB := Aside0.mk (Below.refl w.heap.size w)
  have H : (some (a0_1 == a1_1 && (a0_2 == a1_2 && (a0_3 == a1_3 && (a0_4 == a1_4 && (a0_5 == a1_5 && (a0_6 == a1_6 && (a0_7 == a1_7 && (a0_8 == a1_8 && (a0_9 == a1_9)))))))))) = some r := h
  clear h
  obtain rfl := Option.some.inj H
  go_enter Tryd.func47, Tryd.ntmps47
  go_wp2_with (first | ((with_reducible refine gate_dst (N := 2) rfl ?_); refine box_event ?hg (N := 2) ?hd (cs := #[.int .i64 a0_0, .int .u16 a0_1, .bool a0_2, .bool a0_3, .bool a0_4, .bool a0_5, .bool a0_6, .bool a0_7, .bool a0_8, .int .u8 a0_9]) (t := 34) ?hr ?_; (case hd => rfl); (case hg => rfl); (case hr => first | (go_simp; done) | (go_simp; rfl)); intro gb282 hg w3 hbox hb; have n0_ := Aside0.mk (below_step (by repeat (first | (with_reducible first | exact HB.out | apply below_alloc | apply pw_below_drewN | apply below_drew1) | exact HB.out)) hb); have n1_ := Aside0.mk (hbox); have n2_ := Aside0.mk ((by rw [hg]; exact (below_size (by repeat (first | (with_reducible first | exact HB.out | apply below_alloc | apply pw_below_drewN | apply below_drew1) | exact HB.out))) : w.heap.size ≤ gb282)); have n3_ := Aside0.mk ((by rw [hg]; exact (below_size (by repeat (first | (with_reducible first | exact HB.out | apply below_alloc | apply pw_below_drewN | apply below_drew1) | exact HB.out))) : w.heap.size ≤ gb282)); clear HB; have HB := n0_; have BK282 := n1_; have GW282 := n2_; have GE282 := n3_; clear n0_ n1_ n2_ n3_; clear hb hbox hg) | ((with_reducible refine gate_dst (N := 3) rfl ?_); refine box_event ?hg (N := 3) ?hd (cs := #[.int .i64 a1_0, .int .u16 a1_1, .bool a1_2, .bool a1_3, .bool a1_4, .bool a1_5, .bool a1_6, .bool a1_7, .bool a1_8, .int .u8 a1_9]) (t := 34) ?hr ?_; (case hd => rfl); (case hg => rfl); (case hr => first | (go_simp; done) | (go_simp; rfl)); intro gb283 hg w4 hbox hb; have n0_ := Aside0.mk (blk_below (g := gb282) (o := .cells #[.int .i64 a0_0, .int .u16 a0_1, .bool a0_2, .bool a0_3, .bool a0_4, .bool a0_5, .bool a0_6, .bool a0_7, .bool a0_8, .int .u8 a0_9] 34 (0, 0)) (by (with_reducible repeat (first | refine blk_drewN ?_ _ | refine blk_drew ?_ | refine blk_alloc ?_ _)); exact BK282.out) hb); have n1_ := Aside0.mk (below_step (by repeat (first | (with_reducible first | exact HB.out | apply below_alloc | apply pw_below_drewN | apply below_drew1 | refine below_set ?_ GE282.out) | exact HB.out)) hb); have n2_ := Aside0.mk (hbox); have n3_ := Aside0.mk ((by rw [hg]; exact (below_size (by repeat (first | (with_reducible first | exact HB.out | apply below_alloc | apply pw_below_drewN | apply below_drew1 | refine below_set ?_ GE282.out) | exact HB.out))) : w.heap.size ≤ gb283)); have n4_ := Aside0.mk ((by rw [hg]; exact (below_size (by repeat (first | (with_reducible first | exact HB.out | apply below_alloc | apply pw_below_drewN | apply below_drew1 | refine below_set ?_ GE282.out) | exact HB.out))) : w.heap.size ≤ gb283)); have n5_ := Aside0.mk ((by rw [hg]; exact Nat.ne_of_lt (blk_lt (g := gb282) (o := .cells #[.int .i64 a0_0, .int .u16 a0_1, .bool a0_2, .bool a0_3, .bool a0_4, .bool a0_5, .bool a0_6, .bool a0_7, .bool a0_8, .int .u8 a0_9] 34 (0, 0)) (by (with_reducible repeat (first | refine blk_drewN ?_ _ | refine blk_drew ?_ | refine blk_alloc ?_ _)); exact BK282.out)) : gb282 ≠ gb283)); have n6_ := Aside0.mk ((by rw [hg]; exact Nat.ne_of_gt (blk_lt (g := gb282) (o := .cells #[.int .i64 a0_0, .int .u16 a0_1, .bool a0_2, .bool a0_3, .bool a0_4, .bool a0_5, .bool a0_6, .bool a0_7, .bool a0_8, .int .u8 a0_9] 34 (0, 0)) (by (with_reducible repeat (first | refine blk_drewN ?_ _ | refine blk_drew ?_ | refine blk_alloc ?_ _)); exact BK282.out)) : gb283 ≠ gb282)); clear BK282; clear HB; have BK282 := n0_; have HB := n1_; have BK283 := n2_; have GW283 := n3_; have GE283 := n4_; have NB282_283 := n5_; have NB283_282 := n6_; clear n0_ n1_ n2_ n3_ n4_ n5_ n6_; clear hb hbox hg; have hnb5 := NB282_283.out; have hnc5 := NB283_282.out; have hcz6_0 : w4.cell? ⟨gb282, 0, none⟩ = some (.int .i64 a0_0) := (blk_cell BK282.out 0).trans rfl; have hcz6_1 : w4.cell? ⟨gb282, 1, none⟩ = some (.int .u16 a0_1) := (blk_cell BK282.out 1).trans rfl; have hcz6_2 : w4.cell? ⟨gb282, 2, none⟩ = some (.bool a0_2) := (blk_cell BK282.out 2).trans rfl; have hcz6_3 : w4.cell? ⟨gb282, 3, none⟩ = some (.bool a0_3) := (blk_cell BK282.out 3).trans rfl; have hcz6_4 : w4.cell? ⟨gb282, 4, none⟩ = some (.bool a0_4) := (blk_cell BK282.out 4).trans rfl; have hcz6_5 : w4.cell? ⟨gb282, 5, none⟩ = some (.bool a0_5) := (blk_cell BK282.out 5).trans rfl; have hcz6_6 : w4.cell? ⟨gb282, 6, none⟩ = some (.bool a0_6) := (blk_cell BK282.out 6).trans rfl; have hcz6_7 : w4.cell? ⟨gb282, 7, none⟩ = some (.bool a0_7) := (blk_cell BK282.out 7).trans rfl; have hcz6_8 : w4.cell? ⟨gb282, 8, none⟩ = some (.bool a0_8) := (blk_cell BK282.out 8).trans rfl; have hcz6_9 : w4.cell? ⟨gb282, 9, none⟩ = some (.int .u8 a0_9) := (blk_cell BK282.out 9).trans rfl; have hfz6_0 := blk_frozen BK282.out 0; have hfz6_1 := blk_frozen BK282.out 1; have hfz6_2 := blk_frozen BK282.out 2; have hfz6_3 := blk_frozen BK282.out 3; have hfz6_4 := blk_frozen BK282.out 4; have hfz6_5 := blk_frozen BK282.out 5; have hfz6_6 := blk_frozen BK282.out 6; have hfz6_7 := blk_frozen BK282.out 7; have hfz6_8 := blk_frozen BK282.out 8; have hfz6_9 := blk_frozen BK282.out 9; have hcz7_0 : w4.cell? ⟨gb283, 0, none⟩ = some (.int .i64 a1_0) := (blk_cell BK283.out 0).trans rfl; have hcz7_1 : w4.cell? ⟨gb283, 1, none⟩ = some (.int .u16 a1_1) := (blk_cell BK283.out 1).trans rfl; have hcz7_2 : w4.cell? ⟨gb283, 2, none⟩ = some (.bool a1_2) := (blk_cell BK283.out 2).trans rfl; have hcz7_3 : w4.cell? ⟨gb283, 3, none⟩ = some (.bool a1_3) := (blk_cell BK283.out 3).trans rfl; have hcz7_4 : w4.cell? ⟨gb283, 4, none⟩ = some (.bool a1_4) := (blk_cell BK283.out 4).trans rfl; have hcz7_5 : w4.cell? ⟨gb283, 5, none⟩ = some (.bool a1_5) := (blk_cell BK283.out 5).trans rfl; have hcz7_6 : w4.cell? ⟨gb283, 6, none⟩ = some (.bool a1_6) := (blk_cell BK283.out 6).trans rfl; have hcz7_7 : w4.cell? ⟨gb283, 7, none⟩ = some (.bool a1_7) := (blk_cell BK283.out 7).trans rfl; have hcz7_8 : w4.cell? ⟨gb283, 8, none⟩ = some (.bool a1_8) := (blk_cell BK283.out 8).trans rfl; have hcz7_9 : w4.cell? ⟨gb283, 9, none⟩ = some (.int .u8 a1_9) := (blk_cell BK283.out 9).trans rfl; have hfz7_0 := blk_frozen BK283.out 0; have hfz7_1 := blk_frozen BK283.out 1; have hfz7_2 := blk_frozen BK283.out 2; have hfz7_3 := blk_frozen BK283.out 3; have hfz7_4 := blk_frozen BK283.out 4; have hfz7_5 := blk_frozen BK283.out 5; have hfz7_6 := blk_frozen BK283.out 6; have hfz7_7 := blk_frozen BK283.out 7; have hfz7_8 := blk_frozen BK283.out 8; have hfz7_9 := blk_frozen BK283.out 9))
  go_ret
  exact ⟨by first | rfl | (simp [errW_none, errW_some] <;> rfl) | (simp [*, errW_none, errW_some] <;> rfl), by repeat (first | (with_reducible first | exact HB.out | apply below_alloc | apply pw_below_drewN | apply below_drew1 | refine below_set ?_ GE282.out | refine below_set ?_ GE283.out) | exact HB.out)⟩

/-! ### vesperref07_Normal: function 28 -/
mutual
def vesperref07_Normal.l0 : Nat → List (S34) → List (S34) → Int → Option ((List (S34)) × Int)
  | 0, _, _, _ => none
  | k + 1, x0, x5, x6 => if x6 < (x0.length : Int) then (vesperref07_Normal.l1 k x0 x5 x6 0 x6) else (some (x5, 0))
def vesperref07_Normal.j2 : Nat → List (S34) → List (S34) → Int → Int → Int → Option ((List (S34)) × Int)
  | 0, _, _, _, _, _ => none
  | k + 1, x0, x5, x6, x7, x8 => vesperref07_Normal.l2 k x0 x5 x6 x7 x8
def vesperref07_Normal.l2 : Nat → List (S34) → List (S34) → Int → Int → Int → Option ((List (S34)) × Int)
  | 0, _, _, _, _, _ => none
  | k + 1, x0, x5, x6, x7, x8 => if x7 > 0 then (if 0 ≤ x6 then (if x6 < (x0.length : Int) then (if x5.length < 5864062014805 then (vesperref07_Normal.l2 k x0 (x5 ++ [(⟨mn x7 1048576, (rd_T34 x0 x6).f1, (rd_T34 x0 x6).f2, (rd_T34 x0 x6).f3, (rd_T34 x0 x6).f4, (rd_T34 x0 x6).f5, (rd_T34 x0 x6).f6, (rd_T34 x0 x6).f7, (rd_T34 x0 x6).f8, (rd_T34 x0 x6).f9⟩ : S34)]) x6 (wrap64 (x7 - (mn x7 1048576))) x8) else (none)) else (none)) else (none)) else (vesperref07_Normal.l0 k x0 x5 x8)
def vesperref07_Normal.l1 : Nat → List (S34) → List (S34) → Int → Int → Int → Option ((List (S34)) × Int)
  | 0, _, _, _, _, _ => none
  | k + 1, x0, x5, x6, x7, x8 => if x8 < (x0.length : Int) then (if 0 ≤ x6 then (if x6 < (x0.length : Int) then (if 0 ≤ x8 then ((vesperref07_Alike.f ((rd_T34 x0 x6).f0) ((rd_T34 x0 x6).f1) ((rd_T34 x0 x6).f2) ((rd_T34 x0 x6).f3) ((rd_T34 x0 x6).f4) ((rd_T34 x0 x6).f5) ((rd_T34 x0 x6).f6) ((rd_T34 x0 x6).f7) ((rd_T34 x0 x6).f8) ((rd_T34 x0 x6).f9) ((rd_T34 x0 x8).f0) ((rd_T34 x0 x8).f1) ((rd_T34 x0 x8).f2) ((rd_T34 x0 x8).f3) ((rd_T34 x0 x8).f4) ((rd_T34 x0 x8).f5) ((rd_T34 x0 x8).f6) ((rd_T34 x0 x8).f7) ((rd_T34 x0 x8).f8) ((rd_T34 x0 x8).f9)).bind fun t287 => (if t287 = true then (vesperref07_Normal.l1 k x0 x5 x6 (wrap64 (x7 + ((rd_T34 x0 x8).f0))) (wrap64 (x8 + 1))) else (vesperref07_Normal.j2 k x0 x5 x6 x7 x8))) else (none)) else (none)) else (none)) else (vesperref07_Normal.j2 k x0 x5 x6 x7 x8)
end
def vesperref07_Normal.f (k : Nat) (l0 : List (S34)) : Option ((List (S34)) × Int) := (vesperref07_Check.f k l0).bind fun t284 => (if t284 = 0 then (vesperref07_Normal.l0 k l0 ([] : List (S34)) 0) else (some (([] : List (S34)), t284)))
theorem vesperref07_Normal.mono_l : ∀ k, (∀ y0 y1 y2, LeO (vesperref07_Normal.l0 k y0 y1 y2) (vesperref07_Normal.l0 (k + 1) y0 y1 y2)) ∧ (∀ y0 y1 y2 y3 y4, LeO (vesperref07_Normal.j2 k y0 y1 y2 y3 y4) (vesperref07_Normal.j2 (k + 1) y0 y1 y2 y3 y4)) ∧ (∀ y0 y1 y2 y3 y4, LeO (vesperref07_Normal.l2 k y0 y1 y2 y3 y4) (vesperref07_Normal.l2 (k + 1) y0 y1 y2 y3 y4)) ∧ (∀ y0 y1 y2 y3 y4, LeO (vesperref07_Normal.l1 k y0 y1 y2 y3 y4) (vesperref07_Normal.l1 (k + 1) y0 y1 y2 y3 y4))
  | 0 => ⟨fun _ _ _ r h => by simp [vesperref07_Normal.l0] at h, fun _ _ _ _ _ r h => by simp [vesperref07_Normal.j2] at h, fun _ _ _ _ _ r h => by simp [vesperref07_Normal.l2] at h, fun _ _ _ _ _ r h => by simp [vesperref07_Normal.l1] at h⟩
  | k + 1 => by
    obtain ⟨ih0, ih1, ih2, ih3⟩ := vesperref07_Normal.mono_l k
    refine ⟨?_, ?_, ?_, ?_⟩
    · intro y0 y1 y2
      unfold vesperref07_Normal.l0
      repeat' first
      | (with_reducible exact ih0 _ _ _)
      | (with_reducible exact ih1 _ _ _ _ _)
      | (with_reducible exact ih2 _ _ _ _ _)
      | (with_reducible exact ih3 _ _ _ _ _)
      | (with_reducible exact vesperref07_Check.mono _ _)
      | (with_reducible exact LeO.refl _)
      | (with_reducible exact LeO.none _)
      | (with_reducible refine LeO.ite ?_ ?_)
      | (with_reducible refine LeO.bind ?_ (fun _ => ?_))
      | exact ih0 _ _ _
      | exact ih1 _ _ _ _ _
      | exact ih2 _ _ _ _ _
      | exact ih3 _ _ _ _ _
      | exact vesperref07_Check.mono _ _
      | exact LeO.none _
      | refine LeO.ite ?_ ?_
      | refine LeO.bind ?_ (fun _ => ?_)
    · intro y0 y1 y2 y3 y4
      unfold vesperref07_Normal.j2
      repeat' first
      | (with_reducible exact ih0 _ _ _)
      | (with_reducible exact ih1 _ _ _ _ _)
      | (with_reducible exact ih2 _ _ _ _ _)
      | (with_reducible exact ih3 _ _ _ _ _)
      | (with_reducible exact vesperref07_Check.mono _ _)
      | (with_reducible exact LeO.refl _)
      | (with_reducible exact LeO.none _)
      | (with_reducible refine LeO.ite ?_ ?_)
      | (with_reducible refine LeO.bind ?_ (fun _ => ?_))
      | exact ih0 _ _ _
      | exact ih1 _ _ _ _ _
      | exact ih2 _ _ _ _ _
      | exact ih3 _ _ _ _ _
      | exact vesperref07_Check.mono _ _
      | exact LeO.none _
      | refine LeO.ite ?_ ?_
      | refine LeO.bind ?_ (fun _ => ?_)
    · intro y0 y1 y2 y3 y4
      unfold vesperref07_Normal.l2
      repeat' first
      | (with_reducible exact ih0 _ _ _)
      | (with_reducible exact ih1 _ _ _ _ _)
      | (with_reducible exact ih2 _ _ _ _ _)
      | (with_reducible exact ih3 _ _ _ _ _)
      | (with_reducible exact vesperref07_Check.mono _ _)
      | (with_reducible exact LeO.refl _)
      | (with_reducible exact LeO.none _)
      | (with_reducible refine LeO.ite ?_ ?_)
      | (with_reducible refine LeO.bind ?_ (fun _ => ?_))
      | exact ih0 _ _ _
      | exact ih1 _ _ _ _ _
      | exact ih2 _ _ _ _ _
      | exact ih3 _ _ _ _ _
      | exact vesperref07_Check.mono _ _
      | exact LeO.none _
      | refine LeO.ite ?_ ?_
      | refine LeO.bind ?_ (fun _ => ?_)
    · intro y0 y1 y2 y3 y4
      unfold vesperref07_Normal.l1
      repeat' first
      | (with_reducible exact ih0 _ _ _)
      | (with_reducible exact ih1 _ _ _ _ _)
      | (with_reducible exact ih2 _ _ _ _ _)
      | (with_reducible exact ih3 _ _ _ _ _)
      | (with_reducible exact vesperref07_Check.mono _ _)
      | (with_reducible exact LeO.refl _)
      | (with_reducible exact LeO.none _)
      | (with_reducible refine LeO.ite ?_ ?_)
      | (with_reducible refine LeO.bind ?_ (fun _ => ?_))
      | exact ih0 _ _ _
      | exact ih1 _ _ _ _ _
      | exact ih2 _ _ _ _ _
      | exact ih3 _ _ _ _ _
      | exact vesperref07_Check.mono _ _
      | exact LeO.none _
      | refine LeO.ite ?_ ?_
      | refine LeO.bind ?_ (fun _ => ?_)
theorem vesperref07_Normal.mono : ∀ a0 k, LeO (vesperref07_Normal.f k a0) (vesperref07_Normal.f (k + 1) a0) := by
  intro a0 k
  obtain ⟨ih0, ih1, ih2, ih3⟩ := vesperref07_Normal.mono_l k
  unfold vesperref07_Normal.f
  repeat' first
      | (with_reducible exact ih0 _ _ _)
      | (with_reducible exact ih1 _ _ _ _ _)
      | (with_reducible exact ih2 _ _ _ _ _)
      | (with_reducible exact ih3 _ _ _ _ _)
      | (with_reducible exact vesperref07_Check.mono _ _)
      | (with_reducible exact LeO.refl _)
      | (with_reducible exact LeO.none _)
      | (with_reducible refine LeO.ite ?_ ?_)
      | (with_reducible refine LeO.bind ?_ (fun _ => ?_))
      | exact ih0 _ _ _
      | exact ih1 _ _ _ _ _
      | exact ih2 _ _ _ _ _
      | exact ih3 _ _ _ _ _
      | exact vesperref07_Check.mono _ _
      | exact LeO.none _
      | refine LeO.ite ?_ ?_
      | refine LeO.bind ?_ (fun _ => ?_)
def vesperref07_Normal.T10 : Bool × List (List Nat × List Nat) := (true, [([], []), ([], []), ([0, 1], [0, 1]), ([2], [2]), ([], []), ([], []), ([4, 5], [4, 5]), ([6], [6]), ([3, 7], [3, 7]), ([8, 8, 0, 1, 2, 3, 4, 5, 6, 7, 8], [8])])
def vesperref07_Normal.B10 : List Nat := [0, 0, 3, 7, 0, 0, 48, 112, 255, 511]
theorem vesperref07_Normal.tab10 : rtab .any (opsOf Tryd.f28 10) = vesperref07_Normal.T10 := by kernel_rfl
theorem vesperref07_Normal.bits10 : waitsOk vesperref07_Normal.T10.2 vesperref07_Normal.B10 = true := by kernel_rfl
set_option maxHeartbeats 8000000 in
set_option maxRecDepth 100000 in
theorem vesperref07_Normal.calls (k : Nat) (A0 : Option Addr) (c0 : Nat) (l0 : List (S34)) (r1 : List (S34)) (r2 : Int) (w : World) (hr0 : Kd.C k34 w A0 l0.length l0) (hc0 : l0.length ≤ c0) (h : vesperref07_Normal.f k l0 = some (r1, r2)) :
    Calls Tryd.prog 28 #[.slice A0 l0.length c0] w fun e w' => ∃ v0_ : Value, e = .returned (.tuple #[v0_, .int .i64 r2]) ∧ Kd.R k34 34 w' w.heap.size (fun _ => True) v0_ r1 ∧ Below w.heap.size w w' := by
  have hu34 := Tryd.underlying34
  have HR0 := Aside0.mk hr0
  have HC0 := Aside0.mk hc0
  clear hr0 hc0
  have HB := Aside0.mk (Below.refl w.heap.size w)
  have H : ((vesperref07_Check.f k l0).bind fun t284 => (if t284 = 0 then (vesperref07_Normal.l0 k l0 ([] : List (S34)) 0) else (some (([] : List (S34)), t284)))) = some (r1, r2) := h
  clear h
  replace H := Option.bind_eq_some_iff.mp H
  obtain ⟨t284, A20, H⟩ := H
  replace H : (if t284 = 0 then (vesperref07_Normal.l0 k l0 ([] : List (S34)) 0) else (some (([] : List (S34)), t284))) = some (r1, r2) := H
  have A2 := Aside0.mk A20
  clear A20
  by_cases c3 : t284 = 0
  · rw [if_pos c3] at H
    have c3b0 : (t284 == 0) = true := beq_iff_eq.mpr c3
    have c3b1 : (t284 != 0) = false := bne_eq_false_iff_eq.mpr c3
    clear c3
    have H' := Aside0.mk H
    clear H
    go_enter Tryd.func28, Tryd.ntmps28
    go_wp2_with (first | ((with_reducible refine gate_callee (f := 17) rfl ?_); refine goesL_ (some 12) rfl rfl Tryd.func17 (by kernel_rfl) rfl #[.slice A0 l0.length c0] rfl (by (try simp only [List.map_toArray, List.map_cons, List.map_nil]); first | done | rfl | (simp only [List.length_drop, List.length_take]; rfl)) ?_; (with_reducible refine (vesperref07_Check.calls k _ _ l0 t284 _ ?side1 ?side2 A2.out).mono ?_); (case side1 => repeat (first | exact HR0.out | (with_reducible refine Kd.C_alloc ?_ _) | (with_reducible refine Kd.C_drewN ?_ _) | (with_reducible refine Kd.C_drew ?_))); (case side2 => exact HC0.out); rintro e w' ⟨rfl, ⟨nd, rfl⟩⟩; refine ⟨_, rfl, ?_⟩))
    go_loopg [5, 6] k (fun kq v5 v6 w' => ∃ (x5_1 : List (S34)) (x6_1 : Int), v6 = .int .i64 x6_1 ∧ Aside0 (vesperref07_Normal.l0 kq l0 x5_1 x6_1 = some (r1, r2)) ∧ Aside0 (kq ≤ k) ∧ Aside0 (Kd.R k34 34 w' w.heap.size (fun _ => True) v5 x5_1) ∧ Aside0 (Below w.heap.size w w'))
    case atStart => exact ⟨(([] : List (S34))), (0), (by first | rfl | (simp; done) | (simp [*]; done)), H', ⟨Nat.le_refl _⟩, ⟨by first | exact Kd.R_nil _ _ _ _ _ | exact Kd.N_nil _ _ _ _ _ | exact Kd.V_nil _ _ _ _ _ | exact Kd.Q_nil _ _ _ _ _ | exact Kd.S_nil _ _ _ _ _⟩, ⟨by repeat (first | (with_reducible first | exact HB.out | apply below_alloc | apply pw_below_drewN | apply below_drew1) | exact HB.out)⟩⟩
    case round =>
      clear H'
      try clear c1
      try clear c2
      try clear p2
      try clear c3
      try clear c3b0
      try clear c3b1
      obtain ⟨x5_1, x6_1, rfl, HA, HK1, HO_5, HB⟩ := hrel
      cases gk with
      | zero => exact absurd HA.out (by simp [vesperref07_Normal.l0])
      | succ k1 =>
        have H := HA.out
        clear HA
        simp only [vesperref07_Normal.l0] at H
        by_cases c4 : x6_1 < (l0.length : Int)
        · rw [if_pos c4] at H
          have c4b0 : decide (x6_1 < (l0.length : Int)) = true := decide_eq_true c4
          clear c4
          have HC5 := Aside0.mk H
          clear H
          go_upto_block 2 with (fail)
          go_cut [7, 8] (fun v7 v8 wc => ∃ (kq : Nat) (x7_4 : Int) (x8_4 : Int), v7 = .int .i64 x7_4 ∧ v8 = .int .i64 x8_4 ∧ Aside0 (vesperref07_Normal.j2 kq l0 x5_1 x6_1 x7_4 x8_4 = some (r1, r2)) ∧ Aside0 (kq ≤ k1) ∧ Aside0 (Kd.R k34 34 wc w.heap.size (fun _ => True) u5 x5_1) ∧ Aside0 (Below w.heap.size w wc))
          case first =>
            have H := HC5.out
            clear HC5
            have H' := Aside0.mk H
            clear H
            go_wp2
            go_loopg [7, 8] k1 (fun kq v7 v8 w' => ∃ (x7_2 : Int) (x8_2 : Int), v7 = .int .i64 x7_2 ∧ v8 = .int .i64 x8_2 ∧ Aside0 (vesperref07_Normal.l1 kq l0 x5_1 x6_1 x7_2 x8_2 = some (r1, r2)) ∧ Aside0 (kq ≤ k1) ∧ Aside0 (Kd.R k34 34 w' w.heap.size (fun _ => True) u5 x5_1) ∧ Aside0 (Below w.heap.size w w'))
            case atStart => exact ⟨(0), (x6_1), (by first | rfl | (simp; done) | (simp [*]; done)), (by first | rfl | (simp; done) | (simp [*]; done)), H', ⟨Nat.le_refl _⟩, ⟨by (with_reducible repeat (first | apply Kd.R_alloc | apply Kd.R_drewN | apply Kd.R_drew)); exact HO_5.out⟩, ⟨by repeat (first | (with_reducible first | exact HB.out | apply below_alloc | apply pw_below_drewN | apply below_drew1) | exact HB.out)⟩⟩
            case round =>
              clear H'
              try clear c1
              try clear c2
              try clear p2
              try clear c3
              try clear c3b0
              try clear c3b1
              try clear c4
              try clear c4b0
              try clear p2
              obtain ⟨x7_2, x8_2, rfl, rfl, HA, HK2, HO_5, HB⟩ := hrel
              cases gk with
              | zero => exact absurd HA.out (by simp [vesperref07_Normal.l1])
              | succ k2 =>
                have H := HA.out
                clear HA
                simp only [vesperref07_Normal.l1] at H
                by_cases c6 : x8_2 < (l0.length : Int)
                · rw [if_pos c6] at H
                  have c6b0 : decide (x8_2 < (l0.length : Int)) = true := decide_eq_true c6
                  clear c6
                  (first | rw [c6b0] | (simp only [i64_w, i32_w]; rw [c6b0]) | skip)
                  by_cases c7 : 0 ≤ x6_1
                  · rw [if_pos c7] at H
                    have c7b0 : decide (0 ≤ x6_1) = true := decide_eq_true c7
                    clear c7
                    by_cases c8 : x6_1 < (l0.length : Int)
                    · rw [if_pos c8] at H
                      have c8b0 : decide (x6_1 < (l0.length : Int)) = true := decide_eq_true c8
                      clear c8
                      by_cases c9 : 0 ≤ x8_2
                      · rw [if_pos c9] at H
                        have c9b0 : decide (0 ≤ x8_2) = true := decide_eq_true c9
                        clear c9
                        replace H := Option.bind_eq_some_iff.mp H
                        obtain ⟨t287, A100, H⟩ := H
                        replace H : (if t287 = true then (vesperref07_Normal.l1 k2 l0 x5_1 x6_1 (wrap64 (x7_2 + ((rd_T34 l0 x8_2).f0))) (wrap64 (x8_2 + 1))) else (vesperref07_Normal.j2 k2 l0 x5_1 x6_1 x7_2 x8_2)) = some (r1, r2) := H
                        have A10 := Aside0.mk A100
                        clear A100
                        by_cases c11 : t287 = true
                        · subst c11
                          have H1 : (vesperref07_Normal.l1 k2 l0 x5_1 x6_1 (wrap64 (x7_2 + ((rd_T34 l0 x8_2).f0))) (wrap64 (x8_2 + 1))) = some (r1, r2) := by rw [if_pos rfl] at H; exact H
                          clear H
                          have H := H1
                          clear H1
                          have H' := Aside0.mk H
                          clear H
                          try go_wp2
                          have n0_ := Aside0.mk (Kd.R_drew HO_5.out)
                          have n1_ := Aside0.mk (below_drew1 HB.out)
                          clear HO_5
                          clear HB
                          have HO_5 := n0_
                          have HB := n1_
                          clear n0_ n1_
                          have p285 : 0 ≤ (x6_1 : Int) := of_decide_eq_true (by first | (with_reducible assumption) | assumption)
                          have q285 : x6_1 < (l0.length : Int) := of_decide_eq_true (by first | (with_reducible assumption) | assumption)
                          obtain ⟨ad285, e285, hx285_0, hx285_1, hx285_2, hx285_3, hx285_4, hx285_5, hx285_6, hx285_7, hx285_8, hx285_9⟩ := at_T34 HR0.out x6_1 p285 q285
                          have hw285_9 := hx285_9
                          have hw285_8 := hx285_8
                          have hw285_7 := hx285_7
                          have hw285_6 := hx285_6
                          have hw285_5 := hx285_5
                          have hw285_4 := hx285_4
                          have hw285_3 := hx285_3
                          have hw285_2 := hx285_2
                          have hw285_1 := hx285_1
                          have hw285_0 := hx285_0
                          cases e285
                          replace hx285_0 := (HB.out.cell (World.block_lt_of_cell? w _ hx285_0)).trans hx285_0
                          replace hx285_1 := (HB.out.cell (World.block_lt_of_cell? w _ hx285_1)).trans hx285_1
                          replace hx285_2 := (HB.out.cell (World.block_lt_of_cell? w _ hx285_2)).trans hx285_2
                          replace hx285_3 := (HB.out.cell (World.block_lt_of_cell? w _ hx285_3)).trans hx285_3
                          replace hx285_4 := (HB.out.cell (World.block_lt_of_cell? w _ hx285_4)).trans hx285_4
                          replace hx285_5 := (HB.out.cell (World.block_lt_of_cell? w _ hx285_5)).trans hx285_5
                          replace hx285_6 := (HB.out.cell (World.block_lt_of_cell? w _ hx285_6)).trans hx285_6
                          replace hx285_7 := (HB.out.cell (World.block_lt_of_cell? w _ hx285_7)).trans hx285_7
                          replace hx285_8 := (HB.out.cell (World.block_lt_of_cell? w _ hx285_8)).trans hx285_8
                          replace hx285_9 := (HB.out.cell (World.block_lt_of_cell? w _ hx285_9)).trans hx285_9
                          replace p285 := eq_true p285
                          replace q285 := eq_true q285
                          have p286 : 0 ≤ (x8_2 : Int) := of_decide_eq_true (by first | (with_reducible assumption) | assumption)
                          have q286 : x8_2 < (l0.length : Int) := of_decide_eq_true (by first | (with_reducible assumption) | assumption)
                          obtain ⟨ad286, e286, hx286_0, hx286_1, hx286_2, hx286_3, hx286_4, hx286_5, hx286_6, hx286_7, hx286_8, hx286_9⟩ := at_T34 HR0.out x8_2 p286 q286
                          have hw286_9 := hx286_9
                          have hw286_8 := hx286_8
                          have hw286_7 := hx286_7
                          have hw286_6 := hx286_6
                          have hw286_5 := hx286_5
                          have hw286_4 := hx286_4
                          have hw286_3 := hx286_3
                          have hw286_2 := hx286_2
                          have hw286_1 := hx286_1
                          have hw286_0 := hx286_0
                          obtain rfl : ad285 = ad286 := (by injection e286)
                          replace hx286_0 := (HB.out.cell (World.block_lt_of_cell? w _ hx286_0)).trans hx286_0
                          replace hx286_1 := (HB.out.cell (World.block_lt_of_cell? w _ hx286_1)).trans hx286_1
                          replace hx286_2 := (HB.out.cell (World.block_lt_of_cell? w _ hx286_2)).trans hx286_2
                          replace hx286_3 := (HB.out.cell (World.block_lt_of_cell? w _ hx286_3)).trans hx286_3
                          replace hx286_4 := (HB.out.cell (World.block_lt_of_cell? w _ hx286_4)).trans hx286_4
                          replace hx286_5 := (HB.out.cell (World.block_lt_of_cell? w _ hx286_5)).trans hx286_5
                          replace hx286_6 := (HB.out.cell (World.block_lt_of_cell? w _ hx286_6)).trans hx286_6
                          replace hx286_7 := (HB.out.cell (World.block_lt_of_cell? w _ hx286_7)).trans hx286_7
                          replace hx286_8 := (HB.out.cell (World.block_lt_of_cell? w _ hx286_8)).trans hx286_8
                          replace hx286_9 := (HB.out.cell (World.block_lt_of_cell? w _ hx286_9)).trans hx286_9
                          replace p286 := eq_true p286
                          replace q286 := eq_true q286
                          refine start_ (n := 10) (S := fun w' => w'.cell? (ad285.add ((x6_1).toNat * 10)) = some (.int .i64 ((rd_T34 l0 x6_1).f0)) ∧ w'.cell? ⟨(ad285.add ((x6_1).toNat * 10)).block, (ad285.add ((x6_1).toNat * 10)).off + 1, none⟩ = some (.int .u16 ((rd_T34 l0 x6_1).f1)) ∧ w'.cell? ⟨(ad285.add ((x6_1).toNat * 10)).block, (ad285.add ((x6_1).toNat * 10)).off + 2, none⟩ = some (.bool ((rd_T34 l0 x6_1).f2)) ∧ w'.cell? ⟨(ad285.add ((x6_1).toNat * 10)).block, (ad285.add ((x6_1).toNat * 10)).off + 3, none⟩ = some (.bool ((rd_T34 l0 x6_1).f3)) ∧ w'.cell? ⟨(ad285.add ((x6_1).toNat * 10)).block, (ad285.add ((x6_1).toNat * 10)).off + 4, none⟩ = some (.bool ((rd_T34 l0 x6_1).f4)) ∧ w'.cell? ⟨(ad285.add ((x6_1).toNat * 10)).block, (ad285.add ((x6_1).toNat * 10)).off + 5, none⟩ = some (.bool ((rd_T34 l0 x6_1).f5)) ∧ w'.cell? ⟨(ad285.add ((x6_1).toNat * 10)).block, (ad285.add ((x6_1).toNat * 10)).off + 6, none⟩ = some (.bool ((rd_T34 l0 x6_1).f6)) ∧ w'.cell? ⟨(ad285.add ((x6_1).toNat * 10)).block, (ad285.add ((x6_1).toNat * 10)).off + 7, none⟩ = some (.bool ((rd_T34 l0 x6_1).f7)) ∧ w'.cell? ⟨(ad285.add ((x6_1).toNat * 10)).block, (ad285.add ((x6_1).toNat * 10)).off + 8, none⟩ = some (.bool ((rd_T34 l0 x6_1).f8)) ∧ w'.cell? ⟨(ad285.add ((x6_1).toNat * 10)).block, (ad285.add ((x6_1).toNat * 10)).off + 9, none⟩ = some (.int .u8 ((rd_T34 l0 x6_1).f9)) ∧ w'.cell? (ad285.add ((x8_2).toNat * 10)) = some (.int .i64 ((rd_T34 l0 x8_2).f0)) ∧ w'.cell? ⟨(ad285.add ((x8_2).toNat * 10)).block, (ad285.add ((x8_2).toNat * 10)).off + 1, none⟩ = some (.int .u16 ((rd_T34 l0 x8_2).f1)) ∧ w'.cell? ⟨(ad285.add ((x8_2).toNat * 10)).block, (ad285.add ((x8_2).toNat * 10)).off + 2, none⟩ = some (.bool ((rd_T34 l0 x8_2).f2)) ∧ w'.cell? ⟨(ad285.add ((x8_2).toNat * 10)).block, (ad285.add ((x8_2).toNat * 10)).off + 3, none⟩ = some (.bool ((rd_T34 l0 x8_2).f3)) ∧ w'.cell? ⟨(ad285.add ((x8_2).toNat * 10)).block, (ad285.add ((x8_2).toNat * 10)).off + 4, none⟩ = some (.bool ((rd_T34 l0 x8_2).f4)) ∧ w'.cell? ⟨(ad285.add ((x8_2).toNat * 10)).block, (ad285.add ((x8_2).toNat * 10)).off + 5, none⟩ = some (.bool ((rd_T34 l0 x8_2).f5)) ∧ w'.cell? ⟨(ad285.add ((x8_2).toNat * 10)).block, (ad285.add ((x8_2).toNat * 10)).off + 6, none⟩ = some (.bool ((rd_T34 l0 x8_2).f6)) ∧ w'.cell? ⟨(ad285.add ((x8_2).toNat * 10)).block, (ad285.add ((x8_2).toNat * 10)).off + 7, none⟩ = some (.bool ((rd_T34 l0 x8_2).f7)) ∧ w'.cell? ⟨(ad285.add ((x8_2).toNat * 10)).block, (ad285.add ((x8_2).toNat * 10)).off + 8, none⟩ = some (.bool ((rd_T34 l0 x8_2).f8)) ∧ w'.cell? ⟨(ad285.add ((x8_2).toNat * 10)).block, (ad285.add ((x8_2).toNat * 10)).off + 9, none⟩ = some (.int .u8 ((rd_T34 l0 x8_2).f9))) (ds := []) #[false, false, false, false, false, false, false, false, false, false] (by kernel_rfl) rfl rfl ⟨((HB.out.cell (World.block_lt_of_cell? w _ hw285_0)).trans hw285_0), ((HB.out.cell (World.block_lt_of_cell? w _ hw285_1)).trans hw285_1), ((HB.out.cell (World.block_lt_of_cell? w _ hw285_2)).trans hw285_2), ((HB.out.cell (World.block_lt_of_cell? w _ hw285_3)).trans hw285_3), ((HB.out.cell (World.block_lt_of_cell? w _ hw285_4)).trans hw285_4), ((HB.out.cell (World.block_lt_of_cell? w _ hw285_5)).trans hw285_5), ((HB.out.cell (World.block_lt_of_cell? w _ hw285_6)).trans hw285_6), ((HB.out.cell (World.block_lt_of_cell? w _ hw285_7)).trans hw285_7), ((HB.out.cell (World.block_lt_of_cell? w _ hw285_8)).trans hw285_8), ((HB.out.cell (World.block_lt_of_cell? w _ hw285_9)).trans hw285_9), ((HB.out.cell (World.block_lt_of_cell? w _ hw286_0)).trans hw286_0), ((HB.out.cell (World.block_lt_of_cell? w _ hw286_1)).trans hw286_1), ((HB.out.cell (World.block_lt_of_cell? w _ hw286_2)).trans hw286_2), ((HB.out.cell (World.block_lt_of_cell? w _ hw286_3)).trans hw286_3), ((HB.out.cell (World.block_lt_of_cell? w _ hw286_4)).trans hw286_4), ((HB.out.cell (World.block_lt_of_cell? w _ hw286_5)).trans hw286_5), ((HB.out.cell (World.block_lt_of_cell? w _ hw286_6)).trans hw286_6), ((HB.out.cell (World.block_lt_of_cell? w _ hw286_7)).trans hw286_7), ((HB.out.cell (World.block_lt_of_cell? w _ hw286_8)).trans hw286_8), ((HB.out.cell (World.block_lt_of_cell? w _ hw286_9)).trans hw286_9)⟩ (fun hHeld => ?_); refine with_tabW vesperref07_Normal.tab10 vesperref07_Normal.bits10 (fun HT_ HW_ => ?_)
                          generalize wr.drew = w12 at HO_5 HB hx285_0 hx285_1 hx285_2 hx285_3 hx285_4 hx285_5 hx285_6 hx285_7 hx285_8 hx285_9 hx286_0 hx286_1 hx286_2 hx286_3 hx286_4 hx286_5 hx286_6 hx286_7 hx286_8 hx286_9 hHeld ⊢
                          refine pure_ (i := 0) (N := some 25) (v := ?_) (a' := ?_) #[true, false, false, false, false, false, false, false, false, false] rfl rfl (any_of HT_.out (by kernel_rfl)) (fun _ _ _ h => h) (Or.inl ⟨by rfl, ?_⟩) ?_ ?_
                          rotate_left
                          · intro w'
                            go_simp
                            with_reducible rfl
                          rotate_left
                          · simp only [Act.put, List.setIfInBounds_toArray, List.set_cons_zero, List.set_cons_succ, i64_w, i32_w]
                            rfl
                          refine pure_ (i := 1) (N := some 26) (v := ?_) (a' := ?_) #[true, true, false, false, false, false, false, false, false, false] rfl rfl (any_of HT_.out (by kernel_rfl)) (fun _ _ _ h => h) (Or.inl ⟨by rfl, ?_⟩) ?_ ?_
                          rotate_left
                          · intro w'
                            go_simp
                            with_reducible rfl
                          rotate_left
                          · simp only [Act.put, List.setIfInBounds_toArray, List.set_cons_zero, List.set_cons_succ, i64_w, i32_w]
                            rfl
                          refine pure_ (i := 2) (N := some 27) (v := ?_) (a' := ?_) #[true, true, true, false, false, false, false, false, false, false] rfl rfl (any_of HT_.out (by kernel_rfl)) (fun _ _ _ h => h) (Or.inl ⟨by rfl, ?_⟩) ?_ ?_
                          rotate_left
                          · intro w'
                            go_simp
                            with_reducible rfl
                          rotate_left
                          · simp only [Act.put, List.setIfInBounds_toArray, List.set_cons_zero, List.set_cons_succ, i64_w, i32_w]
                            rfl
                          refine pure_ (i := 4) (N := some 29) (v := ?_) (a' := ?_) #[true, true, true, false, true, false, false, false, false, false] rfl rfl (any_of HT_.out (by kernel_rfl)) (fun _ _ _ h => h) (Or.inl ⟨by rfl, ?_⟩) ?_ ?_
                          rotate_left
                          · intro w'
                            go_simp
                            with_reducible rfl
                          rotate_left
                          · simp only [Act.put, List.setIfInBounds_toArray, List.set_cons_zero, List.set_cons_succ, i64_w, i32_w]
                            rfl
                          refine pure_ (i := 5) (N := some 30) (v := ?_) (a' := ?_) #[true, true, true, false, true, true, false, false, false, false] rfl rfl (any_of HT_.out (by kernel_rfl)) (fun _ _ _ h => h) (Or.inl ⟨by rfl, ?_⟩) ?_ ?_
                          rotate_left
                          · intro w'
                            go_simp
                            with_reducible rfl
                          rotate_left
                          · simp only [Act.put, List.setIfInBounds_toArray, List.set_cons_zero, List.set_cons_succ, i64_w, i32_w]
                            rfl
                          refine pure_ (i := 6) (N := some 31) (v := ?_) (a' := ?_) #[true, true, true, false, true, true, true, false, false, false] rfl rfl (any_of HT_.out (by kernel_rfl)) (fun _ _ _ h => h) (Or.inl ⟨by rfl, ?_⟩) ?_ ?_
                          rotate_left
                          · intro w'
                            go_simp
                            with_reducible rfl
                          rotate_left
                          · simp only [Act.put, List.setIfInBounds_toArray, List.set_cons_zero, List.set_cons_succ, i64_w, i32_w]
                            rfl
                          refine take_ (i := 3) (N := some 28) (v := ?_) (a' := ?_) #[true, true, true, true, true, true, true, false, false, false] rfl rfl (take_ofW HT_.out HW_.out (by kernel_rfl)) (fun _ _ _ h => h) (Or.inl ⟨by rfl, ?_⟩) hHeld ?_ ?_
                          rotate_left
                          · rintro w' ⟨s0, s1, s2, s3, s4, s5, s6, s7, s8, s9, s10, s11, s12, s13, s14, s15, s16, s17, s18, s19⟩
                            go_simp
                            with_reducible rfl
                          rotate_left
                          · simp only [Act.put, List.setIfInBounds_toArray, List.set_cons_zero, List.set_cons_succ, i64_w, i32_w]
                            rfl
                          refine take_ (i := 7) (N := some 32) (v := ?_) (a' := ?_) #[true, true, true, true, true, true, true, true, false, false] rfl rfl (take_ofW HT_.out HW_.out (by kernel_rfl)) (fun _ _ _ h => h) (Or.inl ⟨by rfl, ?_⟩) hHeld ?_ ?_
                          rotate_left
                          · rintro w' ⟨s0, s1, s2, s3, s4, s5, s6, s7, s8, s9, s10, s11, s12, s13, s14, s15, s16, s17, s18, s19⟩
                            go_simp
                            with_reducible rfl
                          rotate_left
                          · simp only [Act.put, List.setIfInBounds_toArray, List.set_cons_zero, List.set_cons_succ, i64_w, i32_w]
                            rfl
                          refine one_ (i := 8) (N := some 33) #[true, true, true, true, true, true, true, true, true, false] rfl rfl (one_of HT_.out (by kernel_rfl)) (by decide) (fun K hK => ?_)
                          refine goes_ Tryd.func47 (by kernel_rfl) rfl #[.agg #[.int .i64 ((rd_T34 l0 x6_1).f0), .int .u16 ((rd_T34 l0 x6_1).f1), .bool ((rd_T34 l0 x6_1).f2), .bool ((rd_T34 l0 x6_1).f3), .bool ((rd_T34 l0 x6_1).f4), .bool ((rd_T34 l0 x6_1).f5), .bool ((rd_T34 l0 x6_1).f6), .bool ((rd_T34 l0 x6_1).f7), .bool ((rd_T34 l0 x6_1).f8), .int .u8 ((rd_T34 l0 x6_1).f9)], .agg #[.int .i64 ((rd_T34 l0 x8_2).f0), .int .u16 ((rd_T34 l0 x8_2).f1), .bool ((rd_T34 l0 x8_2).f2), .bool ((rd_T34 l0 x8_2).f3), .bool ((rd_T34 l0 x8_2).f4), .bool ((rd_T34 l0 x8_2).f5), .bool ((rd_T34 l0 x8_2).f6), .bool ((rd_T34 l0 x8_2).f7), .bool ((rd_T34 l0 x8_2).f8), .int .u8 ((rd_T34 l0 x8_2).f9)]] (by rfl) rfl rfl (by (try simp only [List.map_toArray, List.map_cons, List.map_nil]); first | done | rfl | (simp only [List.length_drop, List.length_take]; rfl)) ?_
                          with_reducible refine (vesperref07_Alike.calls ((rd_T34 l0 x6_1).f0) ((rd_T34 l0 x6_1).f1) ((rd_T34 l0 x6_1).f2) ((rd_T34 l0 x6_1).f3) ((rd_T34 l0 x6_1).f4) ((rd_T34 l0 x6_1).f5) ((rd_T34 l0 x6_1).f6) ((rd_T34 l0 x6_1).f7) ((rd_T34 l0 x6_1).f8) ((rd_T34 l0 x6_1).f9) ((rd_T34 l0 x8_2).f0) ((rd_T34 l0 x8_2).f1) ((rd_T34 l0 x8_2).f2) ((rd_T34 l0 x8_2).f3) ((rd_T34 l0 x8_2).f4) ((rd_T34 l0 x8_2).f5) ((rd_T34 l0 x8_2).f6) ((rd_T34 l0 x8_2).f7) ((rd_T34 l0 x8_2).f8) ((rd_T34 l0 x8_2).f9) true _ A10.out).mono ?_
                          rintro e w13 ⟨rfl, hb⟩
                          refine ⟨_, rfl, ?_⟩
                          have n0_ := Aside0.mk (Kd.R_below (by (with_reducible repeat (first | apply Kd.R_alloc | apply Kd.R_drewN | apply Kd.R_drew)); exact HO_5.out) hb)
                          have n1_ := Aside0.mk (below_step (by repeat (first | (with_reducible first | exact HB.out | apply below_alloc | apply pw_below_drewN | apply below_drew1) | exact HB.out)) hb)
                          clear HO_5
                          clear HB
                          have HO_5 := n0_
                          have HB := n1_
                          clear n0_ n1_
                          (try clear hb)
                          (try clear hb2)
                          (try clear hk)
                          (try clear hi)
                          refine hK.out _ _ ⟨((HB.out.cell (World.block_lt_of_cell? w _ hw285_0)).trans hw285_0), ((HB.out.cell (World.block_lt_of_cell? w _ hw285_1)).trans hw285_1), ((HB.out.cell (World.block_lt_of_cell? w _ hw285_2)).trans hw285_2), ((HB.out.cell (World.block_lt_of_cell? w _ hw285_3)).trans hw285_3), ((HB.out.cell (World.block_lt_of_cell? w _ hw285_4)).trans hw285_4), ((HB.out.cell (World.block_lt_of_cell? w _ hw285_5)).trans hw285_5), ((HB.out.cell (World.block_lt_of_cell? w _ hw285_6)).trans hw285_6), ((HB.out.cell (World.block_lt_of_cell? w _ hw285_7)).trans hw285_7), ((HB.out.cell (World.block_lt_of_cell? w _ hw285_8)).trans hw285_8), ((HB.out.cell (World.block_lt_of_cell? w _ hw285_9)).trans hw285_9), ((HB.out.cell (World.block_lt_of_cell? w _ hw286_0)).trans hw286_0), ((HB.out.cell (World.block_lt_of_cell? w _ hw286_1)).trans hw286_1), ((HB.out.cell (World.block_lt_of_cell? w _ hw286_2)).trans hw286_2), ((HB.out.cell (World.block_lt_of_cell? w _ hw286_3)).trans hw286_3), ((HB.out.cell (World.block_lt_of_cell? w _ hw286_4)).trans hw286_4), ((HB.out.cell (World.block_lt_of_cell? w _ hw286_5)).trans hw286_5), ((HB.out.cell (World.block_lt_of_cell? w _ hw286_6)).trans hw286_6), ((HB.out.cell (World.block_lt_of_cell? w _ hw286_7)).trans hw286_7), ((HB.out.cell (World.block_lt_of_cell? w _ hw286_8)).trans hw286_8), ((HB.out.cell (World.block_lt_of_cell? w _ hw286_9)).trans hw286_9)⟩ (fun hHeld => ?_)
                          clear hK K
                          refine norm_ (a' := ?_) ?_ ?_
                          rotate_left
                          · show Act.put _ (some 33) _ = _
                            simp only [Act.put, List.setIfInBounds_toArray, List.set_cons_zero, List.set_cons_succ, i64_w, i32_w]
                            rfl
                          refine pure_ (i := 9) (N := some 9) (v := ?_) (a' := ?_) #[true, true, true, true, true, true, true, true, true, true] rfl rfl (any_of HT_.out (by kernel_rfl)) (fun _ _ _ h => h) (Or.inl ⟨by rfl, ?_⟩) ?_ ?_
                          rotate_left
                          · intro w'
                            go_simp
                            with_reducible rfl
                          rotate_left
                          · simp only [Act.put, List.setIfInBounds_toArray, List.set_cons_zero, List.set_cons_succ, i64_w, i32_w]
                            rfl
                          refine done_ (done_of HT_.out (by kernel_rfl)) ?_
                          have p288 : 0 ≤ (x8_2 : Int) := of_decide_eq_true (by first | (with_reducible assumption) | assumption)
                          have q288 : x8_2 < (l0.length : Int) := of_decide_eq_true (by first | (with_reducible assumption) | assumption)
                          obtain ⟨ad288, e288, hx288_0, hx288_1, hx288_2, hx288_3, hx288_4, hx288_5, hx288_6, hx288_7, hx288_8, hx288_9⟩ := at_T34 HR0.out x8_2 p288 q288
                          obtain rfl : ad285 = ad288 := (by injection e288)
                          replace hx288_0 := (HB.out.cell (World.block_lt_of_cell? w _ hx288_0)).trans hx288_0
                          replace hx288_1 := (HB.out.cell (World.block_lt_of_cell? w _ hx288_1)).trans hx288_1
                          replace hx288_2 := (HB.out.cell (World.block_lt_of_cell? w _ hx288_2)).trans hx288_2
                          replace hx288_3 := (HB.out.cell (World.block_lt_of_cell? w _ hx288_3)).trans hx288_3
                          replace hx288_4 := (HB.out.cell (World.block_lt_of_cell? w _ hx288_4)).trans hx288_4
                          replace hx288_5 := (HB.out.cell (World.block_lt_of_cell? w _ hx288_5)).trans hx288_5
                          replace hx288_6 := (HB.out.cell (World.block_lt_of_cell? w _ hx288_6)).trans hx288_6
                          replace hx288_7 := (HB.out.cell (World.block_lt_of_cell? w _ hx288_7)).trans hx288_7
                          replace hx288_8 := (HB.out.cell (World.block_lt_of_cell? w _ hx288_8)).trans hx288_8
                          replace hx288_9 := (HB.out.cell (World.block_lt_of_cell? w _ hx288_9)).trans hx288_9
                          replace p288 := eq_true p288
                          replace q288 := eq_true q288
                          try go_wp2
                          go_roundg k2
                          case measure => have := HK1.out; have := HK2.out; omega
                          case rel => exact ⟨(wrap64 (x7_2 + ((rd_T34 l0 x8_2).f0))), (wrap64 (x8_2 + 1)), (by first | rfl | (simp; done) | (simp [*]; done)), (by first | rfl | (simp; done) | (simp [*]; done)), H', ⟨by have := HK1.out; have := HK2.out; omega⟩, ⟨by (with_reducible repeat (first | apply Kd.R_alloc | apply Kd.R_drewN | apply Kd.R_drew)); exact HO_5.out⟩, ⟨by repeat (first | (with_reducible first | exact HB.out | apply below_alloc | apply pw_below_drewN | apply below_drew1) | exact HB.out)⟩⟩
                        · replace c11 := Bool.eq_false_iff.mpr c11
                          subst c11
                          have H1 : (vesperref07_Normal.j2 k2 l0 x5_1 x6_1 x7_2 x8_2) = some (r1, r2) := by rw [if_neg (show ¬ (false = true) by decide)] at H; exact H
                          clear H
                          have H := H1
                          clear H1
                          have H' := Aside0.mk H
                          clear H
                          try go_wp2
                          have n0_ := Aside0.mk (Kd.R_drew HO_5.out)
                          have n1_ := Aside0.mk (below_drew1 HB.out)
                          clear HO_5
                          clear HB
                          have HO_5 := n0_
                          have HB := n1_
                          clear n0_ n1_
                          have p285 : 0 ≤ (x6_1 : Int) := of_decide_eq_true (by first | (with_reducible assumption) | assumption)
                          have q285 : x6_1 < (l0.length : Int) := of_decide_eq_true (by first | (with_reducible assumption) | assumption)
                          obtain ⟨ad285, e285, hx285_0, hx285_1, hx285_2, hx285_3, hx285_4, hx285_5, hx285_6, hx285_7, hx285_8, hx285_9⟩ := at_T34 HR0.out x6_1 p285 q285
                          have hw285_9 := hx285_9
                          have hw285_8 := hx285_8
                          have hw285_7 := hx285_7
                          have hw285_6 := hx285_6
                          have hw285_5 := hx285_5
                          have hw285_4 := hx285_4
                          have hw285_3 := hx285_3
                          have hw285_2 := hx285_2
                          have hw285_1 := hx285_1
                          have hw285_0 := hx285_0
                          cases e285
                          replace hx285_0 := (HB.out.cell (World.block_lt_of_cell? w _ hx285_0)).trans hx285_0
                          replace hx285_1 := (HB.out.cell (World.block_lt_of_cell? w _ hx285_1)).trans hx285_1
                          replace hx285_2 := (HB.out.cell (World.block_lt_of_cell? w _ hx285_2)).trans hx285_2
                          replace hx285_3 := (HB.out.cell (World.block_lt_of_cell? w _ hx285_3)).trans hx285_3
                          replace hx285_4 := (HB.out.cell (World.block_lt_of_cell? w _ hx285_4)).trans hx285_4
                          replace hx285_5 := (HB.out.cell (World.block_lt_of_cell? w _ hx285_5)).trans hx285_5
                          replace hx285_6 := (HB.out.cell (World.block_lt_of_cell? w _ hx285_6)).trans hx285_6
                          replace hx285_7 := (HB.out.cell (World.block_lt_of_cell? w _ hx285_7)).trans hx285_7
                          replace hx285_8 := (HB.out.cell (World.block_lt_of_cell? w _ hx285_8)).trans hx285_8
                          replace hx285_9 := (HB.out.cell (World.block_lt_of_cell? w _ hx285_9)).trans hx285_9
                          replace p285 := eq_true p285
                          replace q285 := eq_true q285
                          have p286 : 0 ≤ (x8_2 : Int) := of_decide_eq_true (by first | (with_reducible assumption) | assumption)
                          have q286 : x8_2 < (l0.length : Int) := of_decide_eq_true (by first | (with_reducible assumption) | assumption)
                          obtain ⟨ad286, e286, hx286_0, hx286_1, hx286_2, hx286_3, hx286_4, hx286_5, hx286_6, hx286_7, hx286_8, hx286_9⟩ := at_T34 HR0.out x8_2 p286 q286
                          have hw286_9 := hx286_9
                          have hw286_8 := hx286_8
                          have hw286_7 := hx286_7
                          have hw286_6 := hx286_6
                          have hw286_5 := hx286_5
                          have hw286_4 := hx286_4
                          have hw286_3 := hx286_3
                          have hw286_2 := hx286_2
                          have hw286_1 := hx286_1
                          have hw286_0 := hx286_0
                          obtain rfl : ad285 = ad286 := (by injection e286)
                          replace hx286_0 := (HB.out.cell (World.block_lt_of_cell? w _ hx286_0)).trans hx286_0
                          replace hx286_1 := (HB.out.cell (World.block_lt_of_cell? w _ hx286_1)).trans hx286_1
                          replace hx286_2 := (HB.out.cell (World.block_lt_of_cell? w _ hx286_2)).trans hx286_2
                          replace hx286_3 := (HB.out.cell (World.block_lt_of_cell? w _ hx286_3)).trans hx286_3
                          replace hx286_4 := (HB.out.cell (World.block_lt_of_cell? w _ hx286_4)).trans hx286_4
                          replace hx286_5 := (HB.out.cell (World.block_lt_of_cell? w _ hx286_5)).trans hx286_5
                          replace hx286_6 := (HB.out.cell (World.block_lt_of_cell? w _ hx286_6)).trans hx286_6
                          replace hx286_7 := (HB.out.cell (World.block_lt_of_cell? w _ hx286_7)).trans hx286_7
                          replace hx286_8 := (HB.out.cell (World.block_lt_of_cell? w _ hx286_8)).trans hx286_8
                          replace hx286_9 := (HB.out.cell (World.block_lt_of_cell? w _ hx286_9)).trans hx286_9
                          replace p286 := eq_true p286
                          replace q286 := eq_true q286
                          refine start_ (n := 10) (S := fun w' => w'.cell? (ad285.add ((x6_1).toNat * 10)) = some (.int .i64 ((rd_T34 l0 x6_1).f0)) ∧ w'.cell? ⟨(ad285.add ((x6_1).toNat * 10)).block, (ad285.add ((x6_1).toNat * 10)).off + 1, none⟩ = some (.int .u16 ((rd_T34 l0 x6_1).f1)) ∧ w'.cell? ⟨(ad285.add ((x6_1).toNat * 10)).block, (ad285.add ((x6_1).toNat * 10)).off + 2, none⟩ = some (.bool ((rd_T34 l0 x6_1).f2)) ∧ w'.cell? ⟨(ad285.add ((x6_1).toNat * 10)).block, (ad285.add ((x6_1).toNat * 10)).off + 3, none⟩ = some (.bool ((rd_T34 l0 x6_1).f3)) ∧ w'.cell? ⟨(ad285.add ((x6_1).toNat * 10)).block, (ad285.add ((x6_1).toNat * 10)).off + 4, none⟩ = some (.bool ((rd_T34 l0 x6_1).f4)) ∧ w'.cell? ⟨(ad285.add ((x6_1).toNat * 10)).block, (ad285.add ((x6_1).toNat * 10)).off + 5, none⟩ = some (.bool ((rd_T34 l0 x6_1).f5)) ∧ w'.cell? ⟨(ad285.add ((x6_1).toNat * 10)).block, (ad285.add ((x6_1).toNat * 10)).off + 6, none⟩ = some (.bool ((rd_T34 l0 x6_1).f6)) ∧ w'.cell? ⟨(ad285.add ((x6_1).toNat * 10)).block, (ad285.add ((x6_1).toNat * 10)).off + 7, none⟩ = some (.bool ((rd_T34 l0 x6_1).f7)) ∧ w'.cell? ⟨(ad285.add ((x6_1).toNat * 10)).block, (ad285.add ((x6_1).toNat * 10)).off + 8, none⟩ = some (.bool ((rd_T34 l0 x6_1).f8)) ∧ w'.cell? ⟨(ad285.add ((x6_1).toNat * 10)).block, (ad285.add ((x6_1).toNat * 10)).off + 9, none⟩ = some (.int .u8 ((rd_T34 l0 x6_1).f9)) ∧ w'.cell? (ad285.add ((x8_2).toNat * 10)) = some (.int .i64 ((rd_T34 l0 x8_2).f0)) ∧ w'.cell? ⟨(ad285.add ((x8_2).toNat * 10)).block, (ad285.add ((x8_2).toNat * 10)).off + 1, none⟩ = some (.int .u16 ((rd_T34 l0 x8_2).f1)) ∧ w'.cell? ⟨(ad285.add ((x8_2).toNat * 10)).block, (ad285.add ((x8_2).toNat * 10)).off + 2, none⟩ = some (.bool ((rd_T34 l0 x8_2).f2)) ∧ w'.cell? ⟨(ad285.add ((x8_2).toNat * 10)).block, (ad285.add ((x8_2).toNat * 10)).off + 3, none⟩ = some (.bool ((rd_T34 l0 x8_2).f3)) ∧ w'.cell? ⟨(ad285.add ((x8_2).toNat * 10)).block, (ad285.add ((x8_2).toNat * 10)).off + 4, none⟩ = some (.bool ((rd_T34 l0 x8_2).f4)) ∧ w'.cell? ⟨(ad285.add ((x8_2).toNat * 10)).block, (ad285.add ((x8_2).toNat * 10)).off + 5, none⟩ = some (.bool ((rd_T34 l0 x8_2).f5)) ∧ w'.cell? ⟨(ad285.add ((x8_2).toNat * 10)).block, (ad285.add ((x8_2).toNat * 10)).off + 6, none⟩ = some (.bool ((rd_T34 l0 x8_2).f6)) ∧ w'.cell? ⟨(ad285.add ((x8_2).toNat * 10)).block, (ad285.add ((x8_2).toNat * 10)).off + 7, none⟩ = some (.bool ((rd_T34 l0 x8_2).f7)) ∧ w'.cell? ⟨(ad285.add ((x8_2).toNat * 10)).block, (ad285.add ((x8_2).toNat * 10)).off + 8, none⟩ = some (.bool ((rd_T34 l0 x8_2).f8)) ∧ w'.cell? ⟨(ad285.add ((x8_2).toNat * 10)).block, (ad285.add ((x8_2).toNat * 10)).off + 9, none⟩ = some (.int .u8 ((rd_T34 l0 x8_2).f9))) (ds := []) #[false, false, false, false, false, false, false, false, false, false] (by kernel_rfl) rfl rfl ⟨((HB.out.cell (World.block_lt_of_cell? w _ hw285_0)).trans hw285_0), ((HB.out.cell (World.block_lt_of_cell? w _ hw285_1)).trans hw285_1), ((HB.out.cell (World.block_lt_of_cell? w _ hw285_2)).trans hw285_2), ((HB.out.cell (World.block_lt_of_cell? w _ hw285_3)).trans hw285_3), ((HB.out.cell (World.block_lt_of_cell? w _ hw285_4)).trans hw285_4), ((HB.out.cell (World.block_lt_of_cell? w _ hw285_5)).trans hw285_5), ((HB.out.cell (World.block_lt_of_cell? w _ hw285_6)).trans hw285_6), ((HB.out.cell (World.block_lt_of_cell? w _ hw285_7)).trans hw285_7), ((HB.out.cell (World.block_lt_of_cell? w _ hw285_8)).trans hw285_8), ((HB.out.cell (World.block_lt_of_cell? w _ hw285_9)).trans hw285_9), ((HB.out.cell (World.block_lt_of_cell? w _ hw286_0)).trans hw286_0), ((HB.out.cell (World.block_lt_of_cell? w _ hw286_1)).trans hw286_1), ((HB.out.cell (World.block_lt_of_cell? w _ hw286_2)).trans hw286_2), ((HB.out.cell (World.block_lt_of_cell? w _ hw286_3)).trans hw286_3), ((HB.out.cell (World.block_lt_of_cell? w _ hw286_4)).trans hw286_4), ((HB.out.cell (World.block_lt_of_cell? w _ hw286_5)).trans hw286_5), ((HB.out.cell (World.block_lt_of_cell? w _ hw286_6)).trans hw286_6), ((HB.out.cell (World.block_lt_of_cell? w _ hw286_7)).trans hw286_7), ((HB.out.cell (World.block_lt_of_cell? w _ hw286_8)).trans hw286_8), ((HB.out.cell (World.block_lt_of_cell? w _ hw286_9)).trans hw286_9)⟩ (fun hHeld => ?_); refine with_tabW vesperref07_Normal.tab10 vesperref07_Normal.bits10 (fun HT_ HW_ => ?_)
                          generalize wr.drew = w14 at HO_5 HB hx285_0 hx285_1 hx285_2 hx285_3 hx285_4 hx285_5 hx285_6 hx285_7 hx285_8 hx285_9 hx286_0 hx286_1 hx286_2 hx286_3 hx286_4 hx286_5 hx286_6 hx286_7 hx286_8 hx286_9 hHeld ⊢
                          refine pure_ (i := 0) (N := some 25) (v := ?_) (a' := ?_) #[true, false, false, false, false, false, false, false, false, false] rfl rfl (any_of HT_.out (by kernel_rfl)) (fun _ _ _ h => h) (Or.inl ⟨by rfl, ?_⟩) ?_ ?_
                          rotate_left
                          · intro w'
                            go_simp
                            with_reducible rfl
                          rotate_left
                          · simp only [Act.put, List.setIfInBounds_toArray, List.set_cons_zero, List.set_cons_succ, i64_w, i32_w]
                            rfl
                          refine pure_ (i := 1) (N := some 26) (v := ?_) (a' := ?_) #[true, true, false, false, false, false, false, false, false, false] rfl rfl (any_of HT_.out (by kernel_rfl)) (fun _ _ _ h => h) (Or.inl ⟨by rfl, ?_⟩) ?_ ?_
                          rotate_left
                          · intro w'
                            go_simp
                            with_reducible rfl
                          rotate_left
                          · simp only [Act.put, List.setIfInBounds_toArray, List.set_cons_zero, List.set_cons_succ, i64_w, i32_w]
                            rfl
                          refine pure_ (i := 2) (N := some 27) (v := ?_) (a' := ?_) #[true, true, true, false, false, false, false, false, false, false] rfl rfl (any_of HT_.out (by kernel_rfl)) (fun _ _ _ h => h) (Or.inl ⟨by rfl, ?_⟩) ?_ ?_
                          rotate_left
                          · intro w'
                            go_simp
                            with_reducible rfl
                          rotate_left
                          · simp only [Act.put, List.setIfInBounds_toArray, List.set_cons_zero, List.set_cons_succ, i64_w, i32_w]
                            rfl
                          refine pure_ (i := 4) (N := some 29) (v := ?_) (a' := ?_) #[true, true, true, false, true, false, false, false, false, false] rfl rfl (any_of HT_.out (by kernel_rfl)) (fun _ _ _ h => h) (Or.inl ⟨by rfl, ?_⟩) ?_ ?_
                          rotate_left
                          · intro w'
                            go_simp
                            with_reducible rfl
                          rotate_left
                          · simp only [Act.put, List.setIfInBounds_toArray, List.set_cons_zero, List.set_cons_succ, i64_w, i32_w]
                            rfl
                          refine pure_ (i := 5) (N := some 30) (v := ?_) (a' := ?_) #[true, true, true, false, true, true, false, false, false, false] rfl rfl (any_of HT_.out (by kernel_rfl)) (fun _ _ _ h => h) (Or.inl ⟨by rfl, ?_⟩) ?_ ?_
                          rotate_left
                          · intro w'
                            go_simp
                            with_reducible rfl
                          rotate_left
                          · simp only [Act.put, List.setIfInBounds_toArray, List.set_cons_zero, List.set_cons_succ, i64_w, i32_w]
                            rfl
                          refine pure_ (i := 6) (N := some 31) (v := ?_) (a' := ?_) #[true, true, true, false, true, true, true, false, false, false] rfl rfl (any_of HT_.out (by kernel_rfl)) (fun _ _ _ h => h) (Or.inl ⟨by rfl, ?_⟩) ?_ ?_
                          rotate_left
                          · intro w'
                            go_simp
                            with_reducible rfl
                          rotate_left
                          · simp only [Act.put, List.setIfInBounds_toArray, List.set_cons_zero, List.set_cons_succ, i64_w, i32_w]
                            rfl
                          refine take_ (i := 3) (N := some 28) (v := ?_) (a' := ?_) #[true, true, true, true, true, true, true, false, false, false] rfl rfl (take_ofW HT_.out HW_.out (by kernel_rfl)) (fun _ _ _ h => h) (Or.inl ⟨by rfl, ?_⟩) hHeld ?_ ?_
                          rotate_left
                          · rintro w' ⟨s0, s1, s2, s3, s4, s5, s6, s7, s8, s9, s10, s11, s12, s13, s14, s15, s16, s17, s18, s19⟩
                            go_simp
                            with_reducible rfl
                          rotate_left
                          · simp only [Act.put, List.setIfInBounds_toArray, List.set_cons_zero, List.set_cons_succ, i64_w, i32_w]
                            rfl
                          refine take_ (i := 7) (N := some 32) (v := ?_) (a' := ?_) #[true, true, true, true, true, true, true, true, false, false] rfl rfl (take_ofW HT_.out HW_.out (by kernel_rfl)) (fun _ _ _ h => h) (Or.inl ⟨by rfl, ?_⟩) hHeld ?_ ?_
                          rotate_left
                          · rintro w' ⟨s0, s1, s2, s3, s4, s5, s6, s7, s8, s9, s10, s11, s12, s13, s14, s15, s16, s17, s18, s19⟩
                            go_simp
                            with_reducible rfl
                          rotate_left
                          · simp only [Act.put, List.setIfInBounds_toArray, List.set_cons_zero, List.set_cons_succ, i64_w, i32_w]
                            rfl
                          refine one_ (i := 8) (N := some 33) #[true, true, true, true, true, true, true, true, true, false] rfl rfl (one_of HT_.out (by kernel_rfl)) (by decide) (fun K hK => ?_)
                          refine goes_ Tryd.func47 (by kernel_rfl) rfl #[.agg #[.int .i64 ((rd_T34 l0 x6_1).f0), .int .u16 ((rd_T34 l0 x6_1).f1), .bool ((rd_T34 l0 x6_1).f2), .bool ((rd_T34 l0 x6_1).f3), .bool ((rd_T34 l0 x6_1).f4), .bool ((rd_T34 l0 x6_1).f5), .bool ((rd_T34 l0 x6_1).f6), .bool ((rd_T34 l0 x6_1).f7), .bool ((rd_T34 l0 x6_1).f8), .int .u8 ((rd_T34 l0 x6_1).f9)], .agg #[.int .i64 ((rd_T34 l0 x8_2).f0), .int .u16 ((rd_T34 l0 x8_2).f1), .bool ((rd_T34 l0 x8_2).f2), .bool ((rd_T34 l0 x8_2).f3), .bool ((rd_T34 l0 x8_2).f4), .bool ((rd_T34 l0 x8_2).f5), .bool ((rd_T34 l0 x8_2).f6), .bool ((rd_T34 l0 x8_2).f7), .bool ((rd_T34 l0 x8_2).f8), .int .u8 ((rd_T34 l0 x8_2).f9)]] (by rfl) rfl rfl (by (try simp only [List.map_toArray, List.map_cons, List.map_nil]); first | done | rfl | (simp only [List.length_drop, List.length_take]; rfl)) ?_
                          with_reducible refine (vesperref07_Alike.calls ((rd_T34 l0 x6_1).f0) ((rd_T34 l0 x6_1).f1) ((rd_T34 l0 x6_1).f2) ((rd_T34 l0 x6_1).f3) ((rd_T34 l0 x6_1).f4) ((rd_T34 l0 x6_1).f5) ((rd_T34 l0 x6_1).f6) ((rd_T34 l0 x6_1).f7) ((rd_T34 l0 x6_1).f8) ((rd_T34 l0 x6_1).f9) ((rd_T34 l0 x8_2).f0) ((rd_T34 l0 x8_2).f1) ((rd_T34 l0 x8_2).f2) ((rd_T34 l0 x8_2).f3) ((rd_T34 l0 x8_2).f4) ((rd_T34 l0 x8_2).f5) ((rd_T34 l0 x8_2).f6) ((rd_T34 l0 x8_2).f7) ((rd_T34 l0 x8_2).f8) ((rd_T34 l0 x8_2).f9) false _ A10.out).mono ?_
                          rintro e w15 ⟨rfl, hb⟩
                          refine ⟨_, rfl, ?_⟩
                          have n0_ := Aside0.mk (Kd.R_below (by (with_reducible repeat (first | apply Kd.R_alloc | apply Kd.R_drewN | apply Kd.R_drew)); exact HO_5.out) hb)
                          have n1_ := Aside0.mk (below_step (by repeat (first | (with_reducible first | exact HB.out | apply below_alloc | apply pw_below_drewN | apply below_drew1) | exact HB.out)) hb)
                          clear HO_5
                          clear HB
                          have HO_5 := n0_
                          have HB := n1_
                          clear n0_ n1_
                          (try clear hb)
                          (try clear hb2)
                          (try clear hk)
                          (try clear hi)
                          refine hK.out _ _ ⟨((HB.out.cell (World.block_lt_of_cell? w _ hw285_0)).trans hw285_0), ((HB.out.cell (World.block_lt_of_cell? w _ hw285_1)).trans hw285_1), ((HB.out.cell (World.block_lt_of_cell? w _ hw285_2)).trans hw285_2), ((HB.out.cell (World.block_lt_of_cell? w _ hw285_3)).trans hw285_3), ((HB.out.cell (World.block_lt_of_cell? w _ hw285_4)).trans hw285_4), ((HB.out.cell (World.block_lt_of_cell? w _ hw285_5)).trans hw285_5), ((HB.out.cell (World.block_lt_of_cell? w _ hw285_6)).trans hw285_6), ((HB.out.cell (World.block_lt_of_cell? w _ hw285_7)).trans hw285_7), ((HB.out.cell (World.block_lt_of_cell? w _ hw285_8)).trans hw285_8), ((HB.out.cell (World.block_lt_of_cell? w _ hw285_9)).trans hw285_9), ((HB.out.cell (World.block_lt_of_cell? w _ hw286_0)).trans hw286_0), ((HB.out.cell (World.block_lt_of_cell? w _ hw286_1)).trans hw286_1), ((HB.out.cell (World.block_lt_of_cell? w _ hw286_2)).trans hw286_2), ((HB.out.cell (World.block_lt_of_cell? w _ hw286_3)).trans hw286_3), ((HB.out.cell (World.block_lt_of_cell? w _ hw286_4)).trans hw286_4), ((HB.out.cell (World.block_lt_of_cell? w _ hw286_5)).trans hw286_5), ((HB.out.cell (World.block_lt_of_cell? w _ hw286_6)).trans hw286_6), ((HB.out.cell (World.block_lt_of_cell? w _ hw286_7)).trans hw286_7), ((HB.out.cell (World.block_lt_of_cell? w _ hw286_8)).trans hw286_8), ((HB.out.cell (World.block_lt_of_cell? w _ hw286_9)).trans hw286_9)⟩ (fun hHeld => ?_)
                          clear hK K
                          refine norm_ (a' := ?_) ?_ ?_
                          rotate_left
                          · show Act.put _ (some 33) _ = _
                            simp only [Act.put, List.setIfInBounds_toArray, List.set_cons_zero, List.set_cons_succ, i64_w, i32_w]
                            rfl
                          refine pure_ (i := 9) (N := some 9) (v := ?_) (a' := ?_) #[true, true, true, true, true, true, true, true, true, true] rfl rfl (any_of HT_.out (by kernel_rfl)) (fun _ _ _ h => h) (Or.inl ⟨by rfl, ?_⟩) ?_ ?_
                          rotate_left
                          · intro w'
                            go_simp
                            with_reducible rfl
                          rotate_left
                          · simp only [Act.put, List.setIfInBounds_toArray, List.set_cons_zero, List.set_cons_succ, i64_w, i32_w]
                            rfl
                          refine done_ (done_of HT_.out (by kernel_rfl)) ?_
                          try go_wp2
                          go_meet
                          case rel => exact ⟨_, (x7_2), (x8_2), (by first | rfl | (simp; done) | (simp [*]; done)), (by first | rfl | (simp; done) | (simp [*]; done)), H', ⟨by have := HK1.out; have := HK2.out; first | omega | exact Nat.le_refl _⟩, ⟨by (with_reducible repeat (first | apply Kd.R_alloc | apply Kd.R_drewN | apply Kd.R_drew)); exact HO_5.out⟩, ⟨by repeat (first | (with_reducible first | exact HB.out | apply below_alloc | apply pw_below_drewN | apply below_drew1) | exact HB.out)⟩⟩
                      · rw [if_neg c9] at H
                        exact absurd H (by simp)
                    · rw [if_neg c8] at H
                      exact absurd H (by simp)
                  · rw [if_neg c7] at H
                    exact absurd H (by simp)
                · rw [if_neg c6] at H
                  have c6b0 : decide (x8_2 < (l0.length : Int)) = false := decide_eq_false c6
                  clear c6
                  (first | rw [c6b0] | (simp only [i64_w, i32_w]; rw [c6b0]) | skip)
                  have H' := Aside0.mk H
                  clear H
                  go_wp2
                  go_meet
                  case rel => exact ⟨_, (x7_2), (x8_2), (by first | rfl | (simp; done) | (simp [*]; done)), (by first | rfl | (simp; done) | (simp [*]; done)), H', ⟨by have := HK1.out; have := HK2.out; first | omega | exact Nat.le_refl _⟩, ⟨by (with_reducible repeat (first | apply Kd.R_alloc | apply Kd.R_drewN | apply Kd.R_drew)); exact HO_5.out⟩, ⟨by repeat (first | (with_reducible first | exact HB.out | apply below_alloc | apply pw_below_drewN | apply below_drew1) | exact HB.out)⟩⟩
          case rest =>
            clear HC5
            try clear c1
            try clear c2
            try clear p2
            try clear q2
            try clear hx2
            try clear c3
            try clear c3b0
            try clear c3b1
            try clear c4
            try clear c4b0
            try clear c6
            try clear c6b0
            try clear p6
            try clear c7
            try clear c7b0
            try clear c8
            try clear c8b0
            try clear c9
            try clear c9b0
            try clear c11
            try clear hx285_0
            try clear hx285_1
            try clear hx285_2
            try clear hx285_3
            try clear hx285_4
            try clear hx285_5
            try clear hx285_6
            try clear hx285_7
            try clear hx285_8
            try clear hx285_9
            try clear hx286_0
            try clear hx286_1
            try clear hx286_2
            try clear hx286_3
            try clear hx286_4
            try clear hx286_5
            try clear hx286_6
            try clear hx286_7
            try clear hx286_8
            try clear hx286_9
            try clear hx288_0
            try clear hx288_1
            try clear hx288_2
            try clear hx288_3
            try clear hx288_4
            try clear hx288_5
            try clear hx288_6
            try clear hx288_7
            try clear hx288_8
            try clear hx288_9
            try clear p2
            try clear p285
            try clear p286
            try clear p288
            try clear q285
            try clear q286
            try clear q288
            obtain ⟨kq, x7_4, x8_4, rfl, rfl, HA, HJ4, HO_5, HB⟩ := hcut
            cases kq with
            | zero => exact absurd HA.out (by simp [vesperref07_Normal.j2])
            | succ kj4 =>
              have H := HA.out
              clear HA
              simp only [vesperref07_Normal.j2] at H
              have H' := Aside0.mk H
              clear H
              go_wp2
              go_loopg [5, 7] kj4 (fun kq v5 v7 w' => ∃ (x5_3 : List (S34)) (x7_3 : Int), v7 = .int .i64 x7_3 ∧ Aside0 (vesperref07_Normal.l2 kq l0 x5_3 x6_1 x7_3 x8_4 = some (r1, r2)) ∧ Aside0 (kq ≤ kj4) ∧ Aside0 (Kd.R k34 34 w' w.heap.size (fun _ => True) v5 x5_3) ∧ Aside0 (Below w.heap.size w w'))
              case atStart => exact ⟨(x5_1), (x7_4), (by first | rfl | (simp; done) | (simp [*]; done)), H', ⟨Nat.le_refl _⟩, ⟨by (with_reducible repeat (first | apply Kd.R_alloc | apply Kd.R_drewN | apply Kd.R_drew)); exact HO_5.out⟩, ⟨by repeat (first | (with_reducible first | exact HB.out | apply below_alloc | apply pw_below_drewN | apply below_drew1) | exact HB.out)⟩⟩
              case round =>
                clear H'
                try clear c1
                try clear c2
                try clear p2
                try clear q2
                try clear hx2
                try clear c3
                try clear c3b0
                try clear c3b1
                try clear c4
                try clear c4b0
                try clear c6
                try clear c6b0
                try clear p6
                try clear c7
                try clear c7b0
                try clear c8
                try clear c8b0
                try clear c9
                try clear c9b0
                try clear c11
                try clear hx285_0
                try clear hx285_1
                try clear hx285_2
                try clear hx285_3
                try clear hx285_4
                try clear hx285_5
                try clear hx285_6
                try clear hx285_7
                try clear hx285_8
                try clear hx285_9
                try clear hx286_0
                try clear hx286_1
                try clear hx286_2
                try clear hx286_3
                try clear hx286_4
                try clear hx286_5
                try clear hx286_6
                try clear hx286_7
                try clear hx286_8
                try clear hx286_9
                try clear hx288_0
                try clear hx288_1
                try clear hx288_2
                try clear hx288_3
                try clear hx288_4
                try clear hx288_5
                try clear hx288_6
                try clear hx288_7
                try clear hx288_8
                try clear hx288_9
                try clear p2
                try clear p285
                try clear p286
                try clear p288
                try clear p6
                try clear q2
                try clear q285
                try clear q286
                try clear q288
                obtain ⟨x5_3, x7_3, rfl, HA, HK3, HO_5, HB⟩ := hrel
                cases gk with
                | zero => exact absurd HA.out (by simp [vesperref07_Normal.l2])
                | succ k3 =>
                  have H := HA.out
                  clear HA
                  simp only [vesperref07_Normal.l2] at H
                  by_cases c16 : x7_3 > 0
                  · rw [if_pos c16] at H
                    have c16b0 : decide (0 < x7_3) = true := decide_eq_true c16
                    clear c16
                    by_cases c17 : 0 ≤ x6_1
                    · rw [if_pos c17] at H
                      have c17b0 : decide (0 ≤ x6_1) = true := decide_eq_true c17
                      clear c17
                      by_cases c18 : x6_1 < (l0.length : Int)
                      · rw [if_pos c18] at H
                        have c18b0 : decide (x6_1 < (l0.length : Int)) = true := decide_eq_true c18
                        clear c18
                        obtain ⟨ji19, hji19⟩ : ∃ j_ : Int, (mn x7_3 1048576) = j_ := ⟨_, rfl⟩
                        replace H : (if x5_3.length < 5864062014805 then (vesperref07_Normal.l2 k3 l0 (x5_3 ++ [(⟨ji19, (rd_T34 l0 x6_1).f1, (rd_T34 l0 x6_1).f2, (rd_T34 l0 x6_1).f3, (rd_T34 l0 x6_1).f4, (rd_T34 l0 x6_1).f5, (rd_T34 l0 x6_1).f6, (rd_T34 l0 x6_1).f7, (rd_T34 l0 x6_1).f8, (rd_T34 l0 x6_1).f9⟩ : S34)]) x6_1 (wrap64 (x7_3 - (ji19))) x8_4) else (none)) = some (r1, r2) := by first | (rw [hji19] at H; exact H) | (simp only [hji19] at H ⊢; exact H)
                        have hji19_ : (if 1048576 < x7_3 then 1048576 else x7_3) = ji19 := hji19
                        by_cases c20 : x5_3.length < 5864062014805
                        · rw [if_pos c20] at H
                          have LMc20 := Aside0.mk c20
                          clear c20
                          obtain ⟨y291, hy291⟩ : ∃ y_ : List (S34), y_ = (x5_3 ++ [(⟨ji19, (rd_T34 l0 x6_1).f1, (rd_T34 l0 x6_1).f2, (rd_T34 l0 x6_1).f3, (rd_T34 l0 x6_1).f4, (rd_T34 l0 x6_1).f5, (rd_T34 l0 x6_1).f6, (rd_T34 l0 x6_1).f7, (rd_T34 l0 x6_1).f8, (rd_T34 l0 x6_1).f9⟩ : S34)]) := ⟨_, rfl⟩
                          replace H : (vesperref07_Normal.l2 k3 l0 y291 x6_1 (wrap64 (x7_3 - (ji19))) x8_4) = some (r1, r2) := by first | (rw [hy291]; with_reducible exact H) | (have H2_ := (Option.bind_some _ _).symm.trans H; rw [hy291]; with_reducible exact H2_) | (have H2_ := (Option.bind_some _ _).symm.trans H; with_reducible exact H2_) | with_reducible exact H | (rw [hy291]; exact H) | exact H
                          have Ny291 := Aside0.mk hy291
                          clear hy291
                          have H' := Aside0.mk H
                          clear H
                          have p289 : 0 ≤ (x6_1 : Int) := of_decide_eq_true (by first | (with_reducible assumption) | assumption)
                          have q289 : x6_1 < (l0.length : Int) := of_decide_eq_true (by first | (with_reducible assumption) | assumption)
                          obtain ⟨ad289, e289, hx289_0, hx289_1, hx289_2, hx289_3, hx289_4, hx289_5, hx289_6, hx289_7, hx289_8, hx289_9⟩ := at_T34 HR0.out x6_1 p289 q289
                          cases e289
                          replace hx289_0 := (HB.out.cell (World.block_lt_of_cell? w _ hx289_0)).trans hx289_0
                          replace hx289_1 := (HB.out.cell (World.block_lt_of_cell? w _ hx289_1)).trans hx289_1
                          replace hx289_2 := (HB.out.cell (World.block_lt_of_cell? w _ hx289_2)).trans hx289_2
                          replace hx289_3 := (HB.out.cell (World.block_lt_of_cell? w _ hx289_3)).trans hx289_3
                          replace hx289_4 := (HB.out.cell (World.block_lt_of_cell? w _ hx289_4)).trans hx289_4
                          replace hx289_5 := (HB.out.cell (World.block_lt_of_cell? w _ hx289_5)).trans hx289_5
                          replace hx289_6 := (HB.out.cell (World.block_lt_of_cell? w _ hx289_6)).trans hx289_6
                          replace hx289_7 := (HB.out.cell (World.block_lt_of_cell? w _ hx289_7)).trans hx289_7
                          replace hx289_8 := (HB.out.cell (World.block_lt_of_cell? w _ hx289_8)).trans hx289_8
                          replace hx289_9 := (HB.out.cell (World.block_lt_of_cell? w _ hx289_9)).trans hx289_9
                          replace p289 := eq_true p289
                          replace q289 := eq_true q289
                          go_wp2_with (first | ((with_reducible refine gate_dst (N := 10) rfl ?_); refine box_event ?hg (N := 10) ?hd (cs := #[.int .i64 0, .int .u16 0, .bool false, .bool false, .bool false, .bool false, .bool false, .bool false, .bool false, .int .u8 0]) (t := 34) ?hr ?_; (case hd => rfl); (case hg => rfl); (case hr => first | (go_simp; done) | (go_simp; rfl)); intro gb290 hg w21 hbox hb; have n0_ := Aside0.mk (Kd.R_below (Kd.R_elderB (by (with_reducible repeat (first | apply Kd.R_alloc | apply Kd.R_drewN | apply Kd.R_drew)); exact HO_5.out) gb290 (Nat.le_of_eq hg.symm)) hb); have n1_ := Aside0.mk (below_step (by repeat (first | (with_reducible first | exact HB.out | apply below_alloc | apply pw_below_drewN | apply below_drew1) | exact HB.out)) hb); have n2_ := Aside0.mk (hbox); have n3_ := Aside0.mk ((by rw [hg]; exact (below_size (by repeat (first | (with_reducible first | exact HB.out | apply below_alloc | apply pw_below_drewN | apply below_drew1) | exact HB.out))) : w.heap.size ≤ gb290)); have n4_ := Aside0.mk ((by rw [hg]; exact (below_size (by repeat (first | (with_reducible first | exact HB.out | apply below_alloc | apply pw_below_drewN | apply below_drew1) | exact HB.out))) : w.heap.size ≤ gb290)); clear HO_5; clear HB; have HO_5 := n0_; have HB := n1_; have BK290 := n2_; have GW290 := n3_; have GE290 := n4_; clear n0_ n1_ n2_ n3_ n4_; clear hb hbox hg; have hcz22_0 : w21.cell? ⟨gb290, 0, none⟩ = some (.int .i64 0) := (blk_cell BK290.out 0).trans rfl; have hcz22_1 : w21.cell? ⟨gb290, 1, none⟩ = some (.int .u16 0) := (blk_cell BK290.out 1).trans rfl; have hcz22_2 : w21.cell? ⟨gb290, 2, none⟩ = some (.bool false) := (blk_cell BK290.out 2).trans rfl; have hcz22_3 : w21.cell? ⟨gb290, 3, none⟩ = some (.bool false) := (blk_cell BK290.out 3).trans rfl; have hcz22_4 : w21.cell? ⟨gb290, 4, none⟩ = some (.bool false) := (blk_cell BK290.out 4).trans rfl; have hcz22_5 : w21.cell? ⟨gb290, 5, none⟩ = some (.bool false) := (blk_cell BK290.out 5).trans rfl; have hcz22_6 : w21.cell? ⟨gb290, 6, none⟩ = some (.bool false) := (blk_cell BK290.out 6).trans rfl; have hcz22_7 : w21.cell? ⟨gb290, 7, none⟩ = some (.bool false) := (blk_cell BK290.out 7).trans rfl; have hcz22_8 : w21.cell? ⟨gb290, 8, none⟩ = some (.bool false) := (blk_cell BK290.out 8).trans rfl; have hcz22_9 : w21.cell? ⟨gb290, 9, none⟩ = some (.int .u8 0) := (blk_cell BK290.out 9).trans rfl; have hfz22_0 := blk_frozen BK290.out 0; have hfz22_1 := blk_frozen BK290.out 1; have hfz22_2 := blk_frozen BK290.out 2; have hfz22_3 := blk_frozen BK290.out 3; have hfz22_4 := blk_frozen BK290.out 4; have hfz22_5 := blk_frozen BK290.out 5; have hfz22_6 := blk_frozen BK290.out 6; have hfz22_7 := blk_frozen BK290.out 7; have hfz22_8 := blk_frozen BK290.out 8; have hfz22_9 := blk_frozen BK290.out 9) | ((with_reducible refine gate_builtin (b := .append) (xs := #[.tmp 58, .tmp 60]) rfl ?_); at_builtin; refine Kd.R_append k34 (w0 := w) w.heap.size rfl (.tmp 58) (.tmp 60) 23 34 (.agg #[(.int .i64 0), (.int .u16 0), (.bool false), (.bool false), (.bool false), (.bool false), (.bool false), (.bool false), (.bool false), (.int .u8 0)]) 24 rfl Tryd.underlying23 info34 rfl (by decide) (by omega) u5 x5_3 (⟨ji19, (rd_T34 l0 x6_1).f1, (rd_T34 l0 x6_1).f2, (rd_T34 l0 x6_1).f3, (rd_T34 l0 x6_1).f4, (rd_T34 l0 x6_1).f5, (rd_T34 l0 x6_1).f6, (rd_T34 l0 x6_1).f7, (rd_T34 l0 x6_1).f8, (rd_T34 l0 x6_1).f9⟩ : S34) [.int .i64 ji19, .int .u16 ((rd_T34 l0 x6_1).f1), .bool ((rd_T34 l0 x6_1).f2), .bool ((rd_T34 l0 x6_1).f3), .bool ((rd_T34 l0 x6_1).f4), .bool ((rd_T34 l0 x6_1).f5), .bool ((rd_T34 l0 x6_1).f6), .bool ((rd_T34 l0 x6_1).f7), .bool ((rd_T34 l0 x6_1).f8), .int .u8 ((rd_T34 l0 x6_1).f9)] (fun k_ => k_ ≠ gb290) (fun _ => False) rfl (by first | (go_simp; done) | (go_simp; rfl)) ?aP (fun _ hk => hk.elim) ?aF ?aO ?aB ?aS ?aL ?_; (case aP => exact k34_mkM _ _ _ (⟨ji19, (rd_T34 l0 x6_1).f1, (rd_T34 l0 x6_1).f2, (rd_T34 l0 x6_1).f3, (rd_T34 l0 x6_1).f4, (rd_T34 l0 x6_1).f5, (rd_T34 l0 x6_1).f6, (rd_T34 l0 x6_1).f7, (rd_T34 l0 x6_1).f8, (rd_T34 l0 x6_1).f9⟩ : S34)); (case aB => exact (by repeat (first | (with_reducible first | exact HB.out | apply below_alloc | apply pw_below_drewN | apply below_drew1 | refine below_set ?_ GE290.out) | exact HB.out))); (case aF => exact (fun k_ hk => Kd.freshB (g := gb290) (o := .cells #[.int .i64 ji19, .int .u16 ((rd_T34 l0 x6_1).f1), .bool ((rd_T34 l0 x6_1).f2), .bool ((rd_T34 l0 x6_1).f3), .bool ((rd_T34 l0 x6_1).f4), .bool ((rd_T34 l0 x6_1).f5), .bool ((rd_T34 l0 x6_1).f6), .bool ((rd_T34 l0 x6_1).f7), .bool ((rd_T34 l0 x6_1).f8), .int .u8 ((rd_T34 l0 x6_1).f9)] 34 (0, 0)) (by (with_reducible repeat (first | refine blk_drewN ?_ _ | refine blk_drew ?_ | refine blk_alloc ?_ _)); refine blk_put (cs := #[.int .i64 ((rd_T34 l0 x6_1).f0), .int .u16 ((rd_T34 l0 x6_1).f1), .bool ((rd_T34 l0 x6_1).f2), .bool ((rd_T34 l0 x6_1).f3), .bool ((rd_T34 l0 x6_1).f4), .bool ((rd_T34 l0 x6_1).f5), .bool ((rd_T34 l0 x6_1).f6), .bool ((rd_T34 l0 x6_1).f7), .bool ((rd_T34 l0 x6_1).f8), .int .u8 ((rd_T34 l0 x6_1).f9)]) ?_ 0 _ rfl; (with_reducible repeat (first | refine blk_drewN ?_ _ | refine blk_drew ?_ | refine blk_alloc ?_ _)); refine blk_put (cs := #[.int .i64 ((rd_T34 l0 x6_1).f0), .int .u16 ((rd_T34 l0 x6_1).f1), .bool ((rd_T34 l0 x6_1).f2), .bool ((rd_T34 l0 x6_1).f3), .bool ((rd_T34 l0 x6_1).f4), .bool ((rd_T34 l0 x6_1).f5), .bool ((rd_T34 l0 x6_1).f6), .bool ((rd_T34 l0 x6_1).f7), .bool ((rd_T34 l0 x6_1).f8), .int .u8 0]) ?_ 9 _ rfl; (with_reducible repeat (first | refine blk_drewN ?_ _ | refine blk_drew ?_ | refine blk_alloc ?_ _)); refine blk_put (cs := #[.int .i64 ((rd_T34 l0 x6_1).f0), .int .u16 ((rd_T34 l0 x6_1).f1), .bool ((rd_T34 l0 x6_1).f2), .bool ((rd_T34 l0 x6_1).f3), .bool ((rd_T34 l0 x6_1).f4), .bool ((rd_T34 l0 x6_1).f5), .bool ((rd_T34 l0 x6_1).f6), .bool ((rd_T34 l0 x6_1).f7), .bool false, .int .u8 0]) ?_ 8 _ rfl; (with_reducible repeat (first | refine blk_drewN ?_ _ | refine blk_drew ?_ | refine blk_alloc ?_ _)); refine blk_put (cs := #[.int .i64 ((rd_T34 l0 x6_1).f0), .int .u16 ((rd_T34 l0 x6_1).f1), .bool ((rd_T34 l0 x6_1).f2), .bool ((rd_T34 l0 x6_1).f3), .bool ((rd_T34 l0 x6_1).f4), .bool ((rd_T34 l0 x6_1).f5), .bool ((rd_T34 l0 x6_1).f6), .bool false, .bool false, .int .u8 0]) ?_ 7 _ rfl; (with_reducible repeat (first | refine blk_drewN ?_ _ | refine blk_drew ?_ | refine blk_alloc ?_ _)); refine blk_put (cs := #[.int .i64 ((rd_T34 l0 x6_1).f0), .int .u16 ((rd_T34 l0 x6_1).f1), .bool ((rd_T34 l0 x6_1).f2), .bool ((rd_T34 l0 x6_1).f3), .bool ((rd_T34 l0 x6_1).f4), .bool ((rd_T34 l0 x6_1).f5), .bool false, .bool false, .bool false, .int .u8 0]) ?_ 6 _ rfl; (with_reducible repeat (first | refine blk_drewN ?_ _ | refine blk_drew ?_ | refine blk_alloc ?_ _)); refine blk_put (cs := #[.int .i64 ((rd_T34 l0 x6_1).f0), .int .u16 ((rd_T34 l0 x6_1).f1), .bool ((rd_T34 l0 x6_1).f2), .bool ((rd_T34 l0 x6_1).f3), .bool ((rd_T34 l0 x6_1).f4), .bool false, .bool false, .bool false, .bool false, .int .u8 0]) ?_ 5 _ rfl; (with_reducible repeat (first | refine blk_drewN ?_ _ | refine blk_drew ?_ | refine blk_alloc ?_ _)); refine blk_put (cs := #[.int .i64 ((rd_T34 l0 x6_1).f0), .int .u16 ((rd_T34 l0 x6_1).f1), .bool ((rd_T34 l0 x6_1).f2), .bool ((rd_T34 l0 x6_1).f3), .bool false, .bool false, .bool false, .bool false, .bool false, .int .u8 0]) ?_ 4 _ rfl; (with_reducible repeat (first | refine blk_drewN ?_ _ | refine blk_drew ?_ | refine blk_alloc ?_ _)); refine blk_put (cs := #[.int .i64 ((rd_T34 l0 x6_1).f0), .int .u16 ((rd_T34 l0 x6_1).f1), .bool ((rd_T34 l0 x6_1).f2), .bool false, .bool false, .bool false, .bool false, .bool false, .bool false, .int .u8 0]) ?_ 3 _ rfl; (with_reducible repeat (first | refine blk_drewN ?_ _ | refine blk_drew ?_ | refine blk_alloc ?_ _)); refine blk_put (cs := #[.int .i64 ((rd_T34 l0 x6_1).f0), .int .u16 ((rd_T34 l0 x6_1).f1), .bool false, .bool false, .bool false, .bool false, .bool false, .bool false, .bool false, .int .u8 0]) ?_ 2 _ rfl; (with_reducible repeat (first | refine blk_drewN ?_ _ | refine blk_drew ?_ | refine blk_alloc ?_ _)); refine blk_put (cs := #[.int .i64 ((rd_T34 l0 x6_1).f0), .int .u16 0, .bool false, .bool false, .bool false, .bool false, .bool false, .bool false, .bool false, .int .u8 0]) ?_ 1 _ rfl; (with_reducible repeat (first | refine blk_drewN ?_ _ | refine blk_drew ?_ | refine blk_alloc ?_ _)); refine blk_put (cs := #[.int .i64 0, .int .u16 0, .bool false, .bool false, .bool false, .bool false, .bool false, .bool false, .bool false, .int .u8 0]) ?_ 0 _ rfl; (with_reducible repeat (first | refine blk_drewN ?_ _ | refine blk_drew ?_ | refine blk_alloc ?_ _)); exact BK290.out) k_ hk)); (case aO => exact (by (with_reducible repeat (first | apply Kd.R_alloc | apply Kd.R_drewN | apply Kd.R_drew)); exact Kd.R_mono (Kd.R_far (p := ⟨gb290, 0, none⟩) (Kd.R_far (p := ⟨gb290, 9, none⟩) (Kd.R_far (p := ⟨gb290, 8, none⟩) (Kd.R_far (p := ⟨gb290, 7, none⟩) (Kd.R_far (p := ⟨gb290, 6, none⟩) (Kd.R_far (p := ⟨gb290, 5, none⟩) (Kd.R_far (p := ⟨gb290, 4, none⟩) (Kd.R_far (p := ⟨gb290, 3, none⟩) (Kd.R_far (p := ⟨gb290, 2, none⟩) (Kd.R_far (p := ⟨gb290, 1, none⟩) (Kd.R_far (p := ⟨gb290, 0, none⟩) (Kd.R_mono HO_5.out (fun k_ hk => (⟨hk, hk.2⟩ : _ ∧ k_ ≠ gb290))) (fun _ hk => hk.2) (.int .i64 ((rd_T34 l0 x6_1).f0))) (fun _ hk => hk.2) (.int .u16 ((rd_T34 l0 x6_1).f1))) (fun _ hk => hk.2) (.bool ((rd_T34 l0 x6_1).f2))) (fun _ hk => hk.2) (.bool ((rd_T34 l0 x6_1).f3))) (fun _ hk => hk.2) (.bool ((rd_T34 l0 x6_1).f4))) (fun _ hk => hk.2) (.bool ((rd_T34 l0 x6_1).f5))) (fun _ hk => hk.2) (.bool ((rd_T34 l0 x6_1).f6))) (fun _ hk => hk.2) (.bool ((rd_T34 l0 x6_1).f7))) (fun _ hk => hk.2) (.bool ((rd_T34 l0 x6_1).f8))) (fun _ hk => hk.2) (.int .u8 ((rd_T34 l0 x6_1).f9))) (fun _ hk => hk.2) (.int .i64 ji19)) (fun _ hk => hk.1.2))); (case aS => exact (below_size (by repeat (first | (with_reducible first | exact HB.out | apply below_alloc | apply pw_below_drewN | apply below_drew1 | refine below_set ?_ GE290.out) | exact HB.out)))); (case aL => have := LMc20.out; omega); intro v292 w23 ho hb hg hat; rw [← Ny291.out] at ho; have n0_ := Aside0.mk (blk_grown (g := gb290) (o := .cells #[.int .i64 ji19, .int .u16 ((rd_T34 l0 x6_1).f1), .bool ((rd_T34 l0 x6_1).f2), .bool ((rd_T34 l0 x6_1).f3), .bool ((rd_T34 l0 x6_1).f4), .bool ((rd_T34 l0 x6_1).f5), .bool ((rd_T34 l0 x6_1).f6), .bool ((rd_T34 l0 x6_1).f7), .bool ((rd_T34 l0 x6_1).f8), .int .u8 ((rd_T34 l0 x6_1).f9)] 34 (0, 0)) (by (with_reducible repeat (first | refine blk_drewN ?_ _ | refine blk_drew ?_ | refine blk_alloc ?_ _)); refine blk_put (cs := #[.int .i64 ((rd_T34 l0 x6_1).f0), .int .u16 ((rd_T34 l0 x6_1).f1), .bool ((rd_T34 l0 x6_1).f2), .bool ((rd_T34 l0 x6_1).f3), .bool ((rd_T34 l0 x6_1).f4), .bool ((rd_T34 l0 x6_1).f5), .bool ((rd_T34 l0 x6_1).f6), .bool ((rd_T34 l0 x6_1).f7), .bool ((rd_T34 l0 x6_1).f8), .int .u8 ((rd_T34 l0 x6_1).f9)]) ?_ 0 _ rfl; (with_reducible repeat (first | refine blk_drewN ?_ _ | refine blk_drew ?_ | refine blk_alloc ?_ _)); refine blk_put (cs := #[.int .i64 ((rd_T34 l0 x6_1).f0), .int .u16 ((rd_T34 l0 x6_1).f1), .bool ((rd_T34 l0 x6_1).f2), .bool ((rd_T34 l0 x6_1).f3), .bool ((rd_T34 l0 x6_1).f4), .bool ((rd_T34 l0 x6_1).f5), .bool ((rd_T34 l0 x6_1).f6), .bool ((rd_T34 l0 x6_1).f7), .bool ((rd_T34 l0 x6_1).f8), .int .u8 0]) ?_ 9 _ rfl; (with_reducible repeat (first | refine blk_drewN ?_ _ | refine blk_drew ?_ | refine blk_alloc ?_ _)); refine blk_put (cs := #[.int .i64 ((rd_T34 l0 x6_1).f0), .int .u16 ((rd_T34 l0 x6_1).f1), .bool ((rd_T34 l0 x6_1).f2), .bool ((rd_T34 l0 x6_1).f3), .bool ((rd_T34 l0 x6_1).f4), .bool ((rd_T34 l0 x6_1).f5), .bool ((rd_T34 l0 x6_1).f6), .bool ((rd_T34 l0 x6_1).f7), .bool false, .int .u8 0]) ?_ 8 _ rfl; (with_reducible repeat (first | refine blk_drewN ?_ _ | refine blk_drew ?_ | refine blk_alloc ?_ _)); refine blk_put (cs := #[.int .i64 ((rd_T34 l0 x6_1).f0), .int .u16 ((rd_T34 l0 x6_1).f1), .bool ((rd_T34 l0 x6_1).f2), .bool ((rd_T34 l0 x6_1).f3), .bool ((rd_T34 l0 x6_1).f4), .bool ((rd_T34 l0 x6_1).f5), .bool ((rd_T34 l0 x6_1).f6), .bool false, .bool false, .int .u8 0]) ?_ 7 _ rfl; (with_reducible repeat (first | refine blk_drewN ?_ _ | refine blk_drew ?_ | refine blk_alloc ?_ _)); refine blk_put (cs := #[.int .i64 ((rd_T34 l0 x6_1).f0), .int .u16 ((rd_T34 l0 x6_1).f1), .bool ((rd_T34 l0 x6_1).f2), .bool ((rd_T34 l0 x6_1).f3), .bool ((rd_T34 l0 x6_1).f4), .bool ((rd_T34 l0 x6_1).f5), .bool false, .bool false, .bool false, .int .u8 0]) ?_ 6 _ rfl; (with_reducible repeat (first | refine blk_drewN ?_ _ | refine blk_drew ?_ | refine blk_alloc ?_ _)); refine blk_put (cs := #[.int .i64 ((rd_T34 l0 x6_1).f0), .int .u16 ((rd_T34 l0 x6_1).f1), .bool ((rd_T34 l0 x6_1).f2), .bool ((rd_T34 l0 x6_1).f3), .bool ((rd_T34 l0 x6_1).f4), .bool false, .bool false, .bool false, .bool false, .int .u8 0]) ?_ 5 _ rfl; (with_reducible repeat (first | refine blk_drewN ?_ _ | refine blk_drew ?_ | refine blk_alloc ?_ _)); refine blk_put (cs := #[.int .i64 ((rd_T34 l0 x6_1).f0), .int .u16 ((rd_T34 l0 x6_1).f1), .bool ((rd_T34 l0 x6_1).f2), .bool ((rd_T34 l0 x6_1).f3), .bool false, .bool false, .bool false, .bool false, .bool false, .int .u8 0]) ?_ 4 _ rfl; (with_reducible repeat (first | refine blk_drewN ?_ _ | refine blk_drew ?_ | refine blk_alloc ?_ _)); refine blk_put (cs := #[.int .i64 ((rd_T34 l0 x6_1).f0), .int .u16 ((rd_T34 l0 x6_1).f1), .bool ((rd_T34 l0 x6_1).f2), .bool false, .bool false, .bool false, .bool false, .bool false, .bool false, .int .u8 0]) ?_ 3 _ rfl; (with_reducible repeat (first | refine blk_drewN ?_ _ | refine blk_drew ?_ | refine blk_alloc ?_ _)); refine blk_put (cs := #[.int .i64 ((rd_T34 l0 x6_1).f0), .int .u16 ((rd_T34 l0 x6_1).f1), .bool false, .bool false, .bool false, .bool false, .bool false, .bool false, .bool false, .int .u8 0]) ?_ 2 _ rfl; (with_reducible repeat (first | refine blk_drewN ?_ _ | refine blk_drew ?_ | refine blk_alloc ?_ _)); refine blk_put (cs := #[.int .i64 ((rd_T34 l0 x6_1).f0), .int .u16 0, .bool false, .bool false, .bool false, .bool false, .bool false, .bool false, .bool false, .int .u8 0]) ?_ 1 _ rfl; (with_reducible repeat (first | refine blk_drewN ?_ _ | refine blk_drew ?_ | refine blk_alloc ?_ _)); refine blk_put (cs := #[.int .i64 0, .int .u16 0, .bool false, .bool false, .bool false, .bool false, .bool false, .bool false, .bool false, .int .u8 0]) ?_ 0 _ rfl; (with_reducible repeat (first | refine blk_drewN ?_ _ | refine blk_drew ?_ | refine blk_alloc ?_ _)); exact BK290.out) hg (Kd.R_away HO_5.out (fun _ hk => hk.2))); have n1_ := Aside0.mk (hb); have n2_ := Aside0.mk (ho); clear BK290; clear HB; clear HO_5; have BK290 := n0_; have HB := n1_; have HO293 := n2_; clear n0_ n1_ n2_; clear ho hb hg hat))
                          go_roundg k3
                          case measure => have := HK1.out; have := HJ4.out; have := HK3.out; omega
                          case rel => exact ⟨(y291), (wrap64 (x7_3 - (ji19))), (by first | rfl | (simp; done) | (simp only [← hji19] <;> (first | rfl | simp)) | (simp [*]; done)), H', ⟨by have := HK1.out; have := HJ4.out; have := HK3.out; omega⟩, ⟨by (with_reducible repeat (first | apply Kd.R_alloc | apply Kd.R_drewN | apply Kd.R_drew)); exact Kd.R_mono HO293.out (fun _ hk => trivial)⟩, ⟨by repeat (first | (with_reducible first | exact HB.out | apply below_alloc | apply pw_below_drewN | apply below_drew1 | refine below_set ?_ GE290.out) | exact HB.out)⟩⟩
                        · rw [if_neg c20] at H
                          exact absurd H (by simp)
                      · rw [if_neg c18] at H
                        exact absurd H (by simp)
                    · rw [if_neg c17] at H
                      exact absurd H (by simp)
                  · rw [if_neg c16] at H
                    have c16b0 : decide (0 < x7_3) = false := decide_eq_false c16
                    clear c16
                    have H' := Aside0.mk H
                    clear H
                    go_wp2
                    go_roundg k3
                    case measure => have := HK1.out; have := HJ4.out; have := HK3.out; omega
                    case rel => exact ⟨(x5_3), (x8_4), (by first | rfl | (simp; done) | (simp [*]; done)), H', ⟨by have := HK1.out; have := HJ4.out; have := HK3.out; omega⟩, ⟨by (with_reducible repeat (first | apply Kd.R_alloc | apply Kd.R_drewN | apply Kd.R_drew)); exact HO_5.out⟩, ⟨by repeat (first | (with_reducible first | exact HB.out | apply below_alloc | apply pw_below_drewN | apply below_drew1) | exact HB.out)⟩⟩
        · rw [if_neg c4] at H
          have c4b0 : decide (x6_1 < (l0.length : Int)) = false := decide_eq_false c4
          clear c4
          simp only [Option.some.injEq, Prod.mk.injEq] at H
          obtain ⟨rfl, rfl⟩ := H
          go_wp2
          go_ret2
          exact ⟨_, by first | rfl | (simp [errW_none, errW_some] <;> rfl) | (simp [*, errW_none, errW_some] <;> rfl), by (with_reducible repeat (first | apply Kd.R_alloc | apply Kd.R_drewN | apply Kd.R_drew)); exact HO_5.out, by repeat (first | (with_reducible first | exact HB.out | apply below_alloc | apply pw_below_drewN | apply below_drew1) | exact HB.out)⟩
  · rw [if_neg c3] at H
    have c3b0 : (t284 == 0) = false := beq_eq_false_iff_ne.mpr c3
    have c3b1 : (t284 != 0) = true := bne_iff_ne.mpr c3
    simp only [Option.some.injEq, Prod.mk.injEq] at H
    obtain ⟨rfl, rfl⟩ := H
    go_enter Tryd.func28, Tryd.ntmps28
    go_wp2_with (first | ((with_reducible refine gate_callee (f := 17) rfl ?_); refine goesL_ (some 12) rfl rfl Tryd.func17 (by kernel_rfl) rfl #[.slice A0 l0.length c0] rfl (by (try simp only [List.map_toArray, List.map_cons, List.map_nil]); first | done | rfl | (simp only [List.length_drop, List.length_take]; rfl)) ?_; (with_reducible refine (vesperref07_Check.calls k _ _ l0 t284 _ ?side1 ?side2 A2.out).mono ?_); (case side1 => repeat (first | exact HR0.out | (with_reducible refine Kd.C_alloc ?_ _) | (with_reducible refine Kd.C_drewN ?_ _) | (with_reducible refine Kd.C_drew ?_))); (case side2 => exact HC0.out); rintro e w' ⟨rfl, ⟨nd, rfl⟩⟩; refine ⟨_, rfl, ?_⟩))
    go_ret2
    exact ⟨_, by first | rfl | (simp [errW_none, errW_some] <;> rfl) | (simp [*, errW_none, errW_some] <;> rfl), by first | exact Kd.R_nil _ _ _ _ _ | exact Kd.N_nil _ _ _ _ _ | exact Kd.V_nil _ _ _ _ _ | exact Kd.Q_nil _ _ _ _ _ | exact Kd.S_nil _ _ _ _ _, by repeat (first | (with_reducible first | exact HB.out | apply below_alloc | apply pw_below_drewN | apply below_drew1) | exact HB.out)⟩

-- NOT PRINTED: function 8 (vesperlaw07_ScriptNormal)

end Go.Proofs.YtdjffafcmomalaaDoor.PScr
