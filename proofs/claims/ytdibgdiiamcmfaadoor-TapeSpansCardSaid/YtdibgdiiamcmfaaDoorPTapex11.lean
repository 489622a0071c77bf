/- Written by a program of this session (gprint.py, over the kit's printer): functions of the seat YtdibgdiiamcmfaaDoor and their contracts. No condition but each contract's own. -/
import Derived.Test.YtdibgdiiamcmfaaDoorTapeWriteC
import Derived.Test.YtdibgdiiamcmfaaDoorTapeReadC
import Derived.Test.YtdibgdiiamcmfaaDoorPTapex0
import Derived.Test.YtdibgdiiamcmfaaDoorPTapex2
import Derived.Test.YtdibgdiiamcmfaaDoorPTapex7
import Derived.Test.YtdibgdiiamcmfaaDoorPTapex9
namespace Go.Proofs.YtdibgdiiamcmfaaDoor.PTape
open Go.RowKit Go.Proofs.YtdibgdiiamcmfaaDoorW.PrintWords Go.Proofs.YtdibgdiiamcmfaaDoorW.PrintLast Go.Proofs.YtdibgdiiamcmfaaDoorW.PrintMore
open Go.Proofs.YtdibgdiiamcmfaaDoor.Reader (GOk)
attribute [local go_sem] max2_int min2_int max_two min_two max_three min_three max_four min_four   -- for this text's walks alone
set_option linter.unusedVariables false
set_option linter.unusedSimpArgs false

attribute [local go_sem high] eqA44
-- NOT PRINTED: function 7 (vesperlaw12_TapeHeard)

/-! ### tape_Spans: function 20 -/
mutual
def tape_Spans.l0 : Nat → List (S37) → List (S37) → Int → Int → Int → Int → Bool → Bool → Bool → Bool → Bool → Bool → Bool → Int → Option ((List (S44)) × Int)
  | 0, _, _, _, _, _, _, _, _, _, _, _, _, _, _ => none
  | k + 1, x0, x12, x13, x14, x263000, x263001, x263002, x263003, x263004, x263005, x263006, x263007, x263008, x263009 => if x14 < x13 then (if 0 ≤ x14 then (if x14 < (x12.length : Int) then (if ((rd_T37 x12 x14).f0) < 1 then (some (([] : List (S44)), 1)) else (if ((rd_T37 x12 x14).f0) > 1048576 then (some (([] : List (S44)), 1)) else (if ((rd_T37 x12 x14).f1) < 1 then (some (([] : List (S44)), 1)) else (if ((rd_T37 x12 x14).f1) > 1048576 then (some (([] : List (S44)), 1)) else (tape_Spans.l0 k x0 x12 x13 (wrap64 (x14 + 1)) x263000 x263001 x263002 x263003 x263004 x263005 x263006 x263007 x263008 x263009))))) else (none)) else (none)) else (if (wrap64 (2 * (x0.length : Int))) > 4096 then (some (([] : List (S44)), 2)) else (tape_Spans.l1 k ([] : List (S44)) x0 (x0.length : Int) 0 x263000 x263001 x263002 x263003 x263004 x263005 x263006 x263007 x263008 x263009))
def tape_Spans.l1 : Nat → List (S44) → List (S37) → Int → Int → Int → Int → Bool → Bool → Bool → Bool → Bool → Bool → Bool → Int → Option ((List (S44)) × Int)
  | 0, _, _, _, _, _, _, _, _, _, _, _, _, _, _ => none
  | k + 1, x8, x41, x42, x43, x263000, x263001, x263002, x263003, x263004, x263005, x263006, x263007, x263008, x263009 => if x43 < x42 then (if 0 ≤ x43 then (if x43 < (x41.length : Int) then (if x8.length < 5864062014805 then ((some (x8 ++ [(⟨(rd_T37 x41 x43).f0, x263001, true, x263003, x263004, x263005, x263006, x263007, x263008, x263009⟩ : S44)] : List (S44))).bind fun y267 => (if y267.length < 5864062014805 then (tape_Spans.l1 k (y267 ++ [(⟨(rd_T37 x41 x43).f1, x263001, false, x263003, x263004, x263005, x263006, x263007, x263008, x263009⟩ : S44)]) x41 x42 (wrap64 (x43 + 1)) ((rd_T37 x41 x43).f1) x263001 false x263003 x263004 x263005 x263006 x263007 x263008 x263009) else (none))) else (none)) else (none)) else (none)) else ((script_Check.f k x8).bind fun t273 => (if t273 = 0 then (some (x8, 0)) else (some (([] : List (S44)), t273))))
end
def tape_Spans.f (k : Nat) (l0 : List (S37)) (a1_0 : Int) (a1_1 : Int) (a1_2 : Bool) (a1_3 : Bool) (a1_4 : Bool) (a1_5 : Bool) (a1_6 : Bool) (a1_7 : Bool) (a1_8 : Bool) (a1_9 : Int) : Option ((List (S44)) × Int) := tape_Spans.l0 k l0 l0 (l0.length : Int) 0 a1_0 a1_1 a1_2 a1_3 a1_4 a1_5 a1_6 a1_7 a1_8 a1_9
theorem tape_Spans.mono_l : ∀ k, (∀ y0 y1 y2 y3 y4 y5 y6 y7 y8 y9 y10 y11 y12 y13, LeO (tape_Spans.l0 k y0 y1 y2 y3 y4 y5 y6 y7 y8 y9 y10 y11 y12 y13) (tape_Spans.l0 (k + 1) y0 y1 y2 y3 y4 y5 y6 y7 y8 y9 y10 y11 y12 y13)) ∧ (∀ y0 y1 y2 y3 y4 y5 y6 y7 y8 y9 y10 y11 y12 y13, LeO (tape_Spans.l1 k y0 y1 y2 y3 y4 y5 y6 y7 y8 y9 y10 y11 y12 y13) (tape_Spans.l1 (k + 1) y0 y1 y2 y3 y4 y5 y6 y7 y8 y9 y10 y11 y12 y13))
  | 0 => ⟨fun _ _ _ _ _ _ _ _ _ _ _ _ _ _ r h => by simp [tape_Spans.l0] at h, fun _ _ _ _ _ _ _ _ _ _ _ _ _ _ r h => by simp [tape_Spans.l1] at h⟩
  | k + 1 => by
    obtain ⟨ih0, ih1⟩ := tape_Spans.mono_l k
    refine ⟨?_, ?_⟩
    · intro y0 y1 y2 y3 y4 y5 y6 y7 y8 y9 y10 y11 y12 y13
      unfold tape_Spans.l0
      repeat' first
      | (with_reducible exact ih0 _ _ _ _ _ _ _ _ _ _ _ _ _ _)
      | (with_reducible exact ih1 _ _ _ _ _ _ _ _ _ _ _ _ _ _)
      | (with_reducible exact script_Check.mono _ _)
      | (with_reducible exact LeO.refl _)
      | (with_reducible exact LeO.none _)
      | (with_reducible refine LeO.ite ?_ ?_)
      | (with_reducible refine LeO.bind ?_ (fun _ => ?_))
      | exact ih0 _ _ _ _ _ _ _ _ _ _ _ _ _ _
      | exact ih1 _ _ _ _ _ _ _ _ _ _ _ _ _ _
      | exact script_Check.mono _ _
      | exact LeO.none _
      | refine LeO.ite ?_ ?_
      | refine LeO.bind ?_ (fun _ => ?_)
    · intro y0 y1 y2 y3 y4 y5 y6 y7 y8 y9 y10 y11 y12 y13
      unfold tape_Spans.l1
      repeat' first
      | (with_reducible exact ih0 _ _ _ _ _ _ _ _ _ _ _ _ _ _)
      | (with_reducible exact ih1 _ _ _ _ _ _ _ _ _ _ _ _ _ _)
      | (with_reducible exact script_Check.mono _ _)
      | (with_reducible exact LeO.refl _)
      | (with_reducible exact LeO.none _)
      | (with_reducible refine LeO.ite ?_ ?_)
      | (with_reducible refine LeO.bind ?_ (fun _ => ?_))
      | exact ih0 _ _ _ _ _ _ _ _ _ _ _ _ _ _
      | exact ih1 _ _ _ _ _ _ _ _ _ _ _ _ _ _
      | exact script_Check.mono _ _
      | exact LeO.none _
      | refine LeO.ite ?_ ?_
      | refine LeO.bind ?_ (fun _ => ?_)
theorem tape_Spans.mono : ∀ a0 a1 a2 a3 a4 a5 a6 a7 a8 a9 a10 k, LeO (tape_Spans.f k a0 a1 a2 a3 a4 a5 a6 a7 a8 a9 a10) (tape_Spans.f (k + 1) a0 a1 a2 a3 a4 a5 a6 a7 a8 a9 a10) := by
  intro a0 a1 a2 a3 a4 a5 a6 a7 a8 a9 a10 k
  obtain ⟨ih0, ih1⟩ := tape_Spans.mono_l k
  unfold tape_Spans.f
  repeat' first
      | (with_reducible exact ih0 _ _ _ _ _ _ _ _ _ _ _ _ _ _)
      | (with_reducible exact ih1 _ _ _ _ _ _ _ _ _ _ _ _ _ _)
      | (with_reducible exact script_Check.mono _ _)
      | (with_reducible exact LeO.refl _)
      | (with_reducible exact LeO.none _)
      | (with_reducible refine LeO.ite ?_ ?_)
      | (with_reducible refine LeO.bind ?_ (fun _ => ?_))
      | exact ih0 _ _ _ _ _ _ _ _ _ _ _ _ _ _
      | exact ih1 _ _ _ _ _ _ _ _ _ _ _ _ _ _
      | exact script_Check.mono _ _
      | exact LeO.none _
      | refine LeO.ite ?_ ?_
      | refine LeO.bind ?_ (fun _ => ?_)
set_option maxHeartbeats 8000000 in
set_option maxRecDepth 100000 in
theorem tape_Spans.calls (k : Nat) (A0 : Option Addr) (c0 : Nat) (l0 : List (S37)) (a1_0 : Int) (a1_1 : Int) (a1_2 : Bool) (a1_3 : Bool) (a1_4 : Bool) (a1_5 : Bool) (a1_6 : Bool) (a1_7 : Bool) (a1_8 : Bool) (a1_9 : Int) (r1 : List (S44)) (r2 : Int) (w : World) (hr0 : Kd.C k37 w A0 l0.length l0) (hc0 : l0.length ≤ c0) (h : tape_Spans.f k l0 a1_0 a1_1 a1_2 a1_3 a1_4 a1_5 a1_6 a1_7 a1_8 a1_9 = some (r1, r2)) :
    Calls Tryd.prog 20 #[.slice A0 l0.length c0, .agg #[.int .i64 a1_0, .int .u16 a1_1, .bool a1_2, .bool a1_3, .bool a1_4, .bool a1_5, .bool a1_6, .bool a1_7, .bool a1_8, .int .u8 a1_9]] w fun e w' => ∃ v0_ : Value, e = .returned (.tuple #[v0_, .int .i64 r2]) ∧ Kd.R k44 44 w' w.heap.size (fun _ => True) v0_ r1 ∧ Below w.heap.size w w' := by
  have hu44 := Tryd.underlying44
  have hu37 := Tryd.underlying37
  have HR0 := Aside0.mk hr0
  have HC0 := Aside0.mk hc0
  clear hr0 hc0
  have HB := Aside0.mk (Below.refl w.heap.size w)
  have H : (tape_Spans.l0 k l0 l0 (l0.length : Int) 0 a1_0 a1_1 a1_2 a1_3 a1_4 a1_5 a1_6 a1_7 a1_8 a1_9) = some (r1, r2) := h
  clear h
  have H' := Aside0.mk H
  clear H
  go_enter Tryd.func20, Tryd.ntmps20
  go_wp2_with (first | ((with_reducible refine gate_dst (N := 3) rfl ?_); refine box_event ?hg (N := 3) ?hd (cs := #[.int .i64 a1_0, .int .u16 a1_1, .bool a1_2, .bool a1_3, .bool a1_4, .bool a1_5, .bool a1_6, .bool a1_7, .bool a1_8, .int .u8 a1_9]) (t := 44) ?hr ?_; (case hd => rfl); (case hg => rfl); (case hr => first | (go_simp; done) | (go_simp; rfl)); intro gb262 hg w3 hbox hb; have n0_ := Aside0.mk (below_step (by repeat (first | (with_reducible first | exact HB.out | apply below_alloc | apply pw_below_drewN | apply below_drew1) | exact HB.out)) hb); have n1_ := Aside0.mk (hbox); have n2_ := Aside0.mk ((by rw [hg]; exact (below_size (by repeat (first | (with_reducible first | exact HB.out | apply below_alloc | apply pw_below_drewN | apply below_drew1) | exact HB.out))) : w.heap.size ≤ gb262)); have n3_ := Aside0.mk ((by rw [hg]; exact (below_size (by repeat (first | (with_reducible first | exact HB.out | apply below_alloc | apply pw_below_drewN | apply below_drew1) | exact HB.out))) : w.heap.size ≤ gb262)); clear HB; have HB := n0_; have BK262 := n1_; have GW262 := n2_; have GE262 := n3_; clear n0_ n1_ n2_ n3_; clear hb hbox hg))
  go_loopg [14] k (fun kq v14 w' => ∃ (x14_1 : Int), v14 = .int .i64 x14_1 ∧ Aside0 (tape_Spans.l0 kq l0 l0 (l0.length : Int) x14_1 a1_0 a1_1 a1_2 a1_3 a1_4 a1_5 a1_6 a1_7 a1_8 a1_9 = some (r1, r2)) ∧ Aside0 (kq ≤ k) ∧ Aside0 (w'.heap[gb262]? = some (.cells #[.int .i64 a1_0, .int .u16 a1_1, .bool a1_2, .bool a1_3, .bool a1_4, .bool a1_5, .bool a1_6, .bool a1_7, .bool a1_8, .int .u8 a1_9] 44 (0, 0))) ∧ Aside0 (Below w.heap.size w w'))
  case atStart => exact ⟨(0), (by first | rfl | (simp; done) | (simp [*]; done)), H', ⟨Nat.le_refl _⟩, ⟨by (with_reducible repeat (first | refine blk_drewN ?_ _ | refine blk_drew ?_ | refine blk_alloc ?_ _)); exact BK262.out⟩, ⟨by repeat (first | (with_reducible first | exact HB.out | apply below_alloc | apply pw_below_drewN | apply below_drew1 | refine below_set ?_ GE262.out) | exact HB.out)⟩⟩
  case round =>
    clear H'
    try clear c2
    try clear p2
    obtain ⟨x14_1, rfl, HA, HK1, BK262, HB⟩ := hrel
    cases gk with
    | zero => exact absurd HA.out (by simp [tape_Spans.l0])
    | succ k1 =>
      have H := HA.out
      clear HA
      simp only [tape_Spans.l0] at H
      by_cases c4 : x14_1 < (l0.length : Int)
      · rw [if_pos c4] at H
        have c4b0 : decide (x14_1 < (l0.length : Int)) = true := decide_eq_true c4
        clear c4
        by_cases c5 : 0 ≤ x14_1
        · rw [if_pos c5] at H
          have c5b0 : decide (0 ≤ x14_1) = true := decide_eq_true c5
          clear c5
          by_cases c6 : x14_1 < (l0.length : Int)
          · rw [if_pos c6] at H
            have c6b0 : decide (x14_1 < (l0.length : Int)) = true := decide_eq_true c6
            clear c6
            by_cases c7 : ((rd_T37 l0 x14_1).f0) < 1
            · rw [if_pos c7] at H
              have c7b0 : decide (((rd_T37 l0 x14_1).f0) < 1) = true := decide_eq_true c7
              clear c7
              simp only [Option.some.injEq, Prod.mk.injEq] at H
              obtain ⟨rfl, rfl⟩ := H
              have p263 : 0 ≤ (x14_1 : Int) := of_decide_eq_true (by first | (with_reducible assumption) | assumption)
              have q263 : x14_1 < (l0.length : Int) := of_decide_eq_true (by first | (with_reducible assumption) | assumption)
              obtain ⟨ad263, e263, hx263_0, hx263_1⟩ := at_T37 HR0.out x14_1 p263 q263
              cases e263
              replace hx263_0 := (HB.out.cell (World.block_lt_of_cell? w _ hx263_0)).trans hx263_0
              replace hx263_1 := (HB.out.cell (World.block_lt_of_cell? w _ hx263_1)).trans hx263_1
              replace p263 := eq_true p263
              replace q263 := eq_true q263
              go_wp2_with (first | ((with_reducible refine gate_dst (N := 7) rfl ?_); refine box_event ?hg (N := 7) ?hd (cs := #[.int .i64 0, .int .i64 0]) (t := 37) ?hr ?_; (case hd => rfl); (case hg => rfl); (case hr => first | (go_simp; done) | (go_simp; rfl)); intro gb264 hg w8 hbox hb; have n0_ := Aside0.mk (blk_below (g := gb262) (o := .cells #[.int .i64 a1_0, .int .u16 a1_1, .bool a1_2, .bool a1_3, .bool a1_4, .bool a1_5, .bool a1_6, .bool a1_7, .bool a1_8, .int .u8 a1_9] 44 (0, 0)) (by (with_reducible repeat (first | refine blk_drewN ?_ _ | refine blk_drew ?_ | refine blk_alloc ?_ _)); exact BK262.out) hb); have n1_ := Aside0.mk (below_step (by repeat (first | (with_reducible first | exact HB.out | apply below_alloc | apply pw_below_drewN | apply below_drew1 | refine below_set ?_ GE262.out) | exact HB.out)) hb); have n2_ := Aside0.mk (hbox); have n3_ := Aside0.mk ((by rw [hg]; exact (below_size (by repeat (first | (with_reducible first | exact HB.out | apply below_alloc | apply pw_below_drewN | apply below_drew1 | refine below_set ?_ GE262.out) | exact HB.out))) : w.heap.size ≤ gb264)); have n4_ := Aside0.mk ((by rw [hg]; exact (below_size (by repeat (first | (with_reducible first | exact HB.out | apply below_alloc | apply pw_below_drewN | apply below_drew1 | refine below_set ?_ GE262.out) | exact HB.out))) : w.heap.size ≤ gb264)); have n5_ := Aside0.mk ((by rw [hg]; exact Nat.ne_of_lt (blk_lt (g := gb262) (o := .cells #[.int .i64 a1_0, .int .u16 a1_1, .bool a1_2, .bool a1_3, .bool a1_4, .bool a1_5, .bool a1_6, .bool a1_7, .bool a1_8, .int .u8 a1_9] 44 (0, 0)) (by (with_reducible repeat (first | refine blk_drewN ?_ _ | refine blk_drew ?_ | refine blk_alloc ?_ _)); exact BK262.out)) : gb262 ≠ gb264)); have n6_ := Aside0.mk ((by rw [hg]; exact Nat.ne_of_gt (blk_lt (g := gb262) (o := .cells #[.int .i64 a1_0, .int .u16 a1_1, .bool a1_2, .bool a1_3, .bool a1_4, .bool a1_5, .bool a1_6, .bool a1_7, .bool a1_8, .int .u8 a1_9] 44 (0, 0)) (by (with_reducible repeat (first | refine blk_drewN ?_ _ | refine blk_drew ?_ | refine blk_alloc ?_ _)); exact BK262.out)) : gb264 ≠ gb262)); clear BK262; clear HB; have BK262 := n0_; have HB := n1_; have BK264 := n2_; have GW264 := n3_; have GE264 := n4_; have NB262_264 := n5_; have NB264_262 := n6_; clear n0_ n1_ n2_ n3_ n4_ n5_ n6_; clear hb hbox hg; have hnb9 := NB264_262.out; have hnc9 := NB262_264.out; have hcz10_0 : w8.cell? ⟨gb264, 0, none⟩ = some (.int .i64 0) := (blk_cell BK264.out 0).trans rfl; have hcz10_1 : w8.cell? ⟨gb264, 1, none⟩ = some (.int .i64 0) := (blk_cell BK264.out 1).trans rfl; have hfz10_0 := blk_frozen BK264.out 0; have hfz10_1 := blk_frozen BK264.out 1))
              go_ret2
              exact ⟨_, by first | rfl | (simp [errW_none, errW_some] <;> rfl) | (simp [*, errW_none, errW_some] <;> rfl), by first | exact Kd.R_nil _ _ _ _ _ | exact Kd.N_nil _ _ _ _ _ | exact Kd.V_nil _ _ _ _ _ | exact Kd.Q_nil _ _ _ _ _ | exact Kd.S_nil _ _ _ _ _, by repeat (first | (with_reducible first | exact HB.out | apply below_alloc | apply pw_below_drewN | apply below_drew1 | refine below_set ?_ GE262.out | refine below_set ?_ GE264.out) | exact HB.out)⟩
            · rw [if_neg c7] at H
              have c7b0 : decide (((rd_T37 l0 x14_1).f0) < 1) = false := decide_eq_false c7
              clear c7
              by_cases c11 : ((rd_T37 l0 x14_1).f0) > 1048576
              · rw [if_pos c11] at H
                have c11b0 : decide (1048576 < ((rd_T37 l0 x14_1).f0)) = true := decide_eq_true c11
                clear c11
                simp only [Option.some.injEq, Prod.mk.injEq] at H
                obtain ⟨rfl, rfl⟩ := H
                have p263 : 0 ≤ (x14_1 : Int) := of_decide_eq_true (by first | (with_reducible assumption) | assumption)
                have q263 : x14_1 < (l0.length : Int) := of_decide_eq_true (by first | (with_reducible assumption) | assumption)
                obtain ⟨ad263, e263, hx263_0, hx263_1⟩ := at_T37 HR0.out x14_1 p263 q263
                cases e263
                replace hx263_0 := (HB.out.cell (World.block_lt_of_cell? w _ hx263_0)).trans hx263_0
                replace hx263_1 := (HB.out.cell (World.block_lt_of_cell? w _ hx263_1)).trans hx263_1
                replace p263 := eq_true p263
                replace q263 := eq_true q263
                go_wp2_with (first | ((with_reducible refine gate_dst (N := 7) rfl ?_); refine box_event ?hg (N := 7) ?hd (cs := #[.int .i64 0, .int .i64 0]) (t := 37) ?hr ?_; (case hd => rfl); (case hg => rfl); (case hr => first | (go_simp; done) | (go_simp; rfl)); intro gb264 hg w12 hbox hb; have n0_ := Aside0.mk (blk_below (g := gb262) (o := .cells #[.int .i64 a1_0, .int .u16 a1_1, .bool a1_2, .bool a1_3, .bool a1_4, .bool a1_5, .bool a1_6, .bool a1_7, .bool a1_8, .int .u8 a1_9] 44 (0, 0)) (by (with_reducible repeat (first | refine blk_drewN ?_ _ | refine blk_drew ?_ | refine blk_alloc ?_ _)); exact BK262.out) hb); have n1_ := Aside0.mk (below_step (by repeat (first | (with_reducible first | exact HB.out | apply below_alloc | apply pw_below_drewN | apply below_drew1 | refine below_set ?_ GE262.out) | exact HB.out)) hb); have n2_ := Aside0.mk (hbox); have n3_ := Aside0.mk ((by rw [hg]; exact (below_size (by repeat (first | (with_reducible first | exact HB.out | apply below_alloc | apply pw_below_drewN | apply below_drew1 | refine below_set ?_ GE262.out) | exact HB.out))) : w.heap.size ≤ gb264)); have n4_ := Aside0.mk ((by rw [hg]; exact (below_size (by repeat (first | (with_reducible first | exact HB.out | apply below_alloc | apply pw_below_drewN | apply below_drew1 | refine below_set ?_ GE262.out) | exact HB.out))) : w.heap.size ≤ gb264)); have n5_ := Aside0.mk ((by rw [hg]; exact Nat.ne_of_lt (blk_lt (g := gb262) (o := .cells #[.int .i64 a1_0, .int .u16 a1_1, .bool a1_2, .bool a1_3, .bool a1_4, .bool a1_5, .bool a1_6, .bool a1_7, .bool a1_8, .int .u8 a1_9] 44 (0, 0)) (by (with_reducible repeat (first | refine blk_drewN ?_ _ | refine blk_drew ?_ | refine blk_alloc ?_ _)); exact BK262.out)) : gb262 ≠ gb264)); have n6_ := Aside0.mk ((by rw [hg]; exact Nat.ne_of_gt (blk_lt (g := gb262) (o := .cells #[.int .i64 a1_0, .int .u16 a1_1, .bool a1_2, .bool a1_3, .bool a1_4, .bool a1_5, .bool a1_6, .bool a1_7, .bool a1_8, .int .u8 a1_9] 44 (0, 0)) (by (with_reducible repeat (first | refine blk_drewN ?_ _ | refine blk_drew ?_ | refine blk_alloc ?_ _)); exact BK262.out)) : gb264 ≠ gb262)); clear BK262; clear HB; have BK262 := n0_; have HB := n1_; have BK264 := n2_; have GW264 := n3_; have GE264 := n4_; have NB262_264 := n5_; have NB264_262 := n6_; clear n0_ n1_ n2_ n3_ n4_ n5_ n6_; clear hb hbox hg; have hnb13 := NB264_262.out; have hnc13 := NB262_264.out; have hcz14_0 : w12.cell? ⟨gb264, 0, none⟩ = some (.int .i64 0) := (blk_cell BK264.out 0).trans rfl; have hcz14_1 : w12.cell? ⟨gb264, 1, none⟩ = some (.int .i64 0) := (blk_cell BK264.out 1).trans rfl; have hfz14_0 := blk_frozen BK264.out 0; have hfz14_1 := blk_frozen BK264.out 1))
                go_ret2
                exact ⟨_, by first | rfl | (simp [errW_none, errW_some] <;> rfl) | (simp [*, errW_none, errW_some] <;> rfl), by first | exact Kd.R_nil _ _ _ _ _ | exact Kd.N_nil _ _ _ _ _ | exact Kd.V_nil _ _ _ _ _ | exact Kd.Q_nil _ _ _ _ _ | exact Kd.S_nil _ _ _ _ _, by repeat (first | (with_reducible first | exact HB.out | apply below_alloc | apply pw_below_drewN | apply below_drew1 | refine below_set ?_ GE262.out | refine below_set ?_ GE264.out) | exact HB.out)⟩
              · rw [if_neg c11] at H
                have c11b0 : decide (1048576 < ((rd_T37 l0 x14_1).f0)) = false := decide_eq_false c11
                clear c11
                by_cases c15 : ((rd_T37 l0 x14_1).f1) < 1
                · rw [if_pos c15] at H
                  have c15b0 : decide (((rd_T37 l0 x14_1).f1) < 1) = true := decide_eq_true c15
                  clear c15
                  simp only [Option.some.injEq, Prod.mk.injEq] at H
                  obtain ⟨rfl, rfl⟩ := H
                  have p263 : 0 ≤ (x14_1 : Int) := of_decide_eq_true (by first | (with_reducible assumption) | assumption)
                  have q263 : x14_1 < (l0.length : Int) := of_decide_eq_true (by first | (with_reducible assumption) | assumption)
                  obtain ⟨ad263, e263, hx263_0, hx263_1⟩ := at_T37 HR0.out x14_1 p263 q263
                  cases e263
                  replace hx263_0 := (HB.out.cell (World.block_lt_of_cell? w _ hx263_0)).trans hx263_0
                  replace hx263_1 := (HB.out.cell (World.block_lt_of_cell? w _ hx263_1)).trans hx263_1
                  replace p263 := eq_true p263
                  replace q263 := eq_true q263
                  go_wp2_with (first | ((with_reducible refine gate_dst (N := 7) rfl ?_); refine box_event ?hg (N := 7) ?hd (cs := #[.int .i64 0, .int .i64 0]) (t := 37) ?hr ?_; (case hd => rfl); (case hg => rfl); (case hr => first | (go_simp; done) | (go_simp; rfl)); intro gb264 hg w16 hbox hb; have n0_ := Aside0.mk (blk_below (g := gb262) (o := .cells #[.int .i64 a1_0, .int .u16 a1_1, .bool a1_2, .bool a1_3, .bool a1_4, .bool a1_5, .bool a1_6, .bool a1_7, .bool a1_8, .int .u8 a1_9] 44 (0, 0)) (by (with_reducible repeat (first | refine blk_drewN ?_ _ | refine blk_drew ?_ | refine blk_alloc ?_ _)); exact BK262.out) hb); have n1_ := Aside0.mk (below_step (by repeat (first | (with_reducible first | exact HB.out | apply below_alloc | apply pw_below_drewN | apply below_drew1 | refine below_set ?_ GE262.out) | exact HB.out)) hb); have n2_ := Aside0.mk (hbox); have n3_ := Aside0.mk ((by rw [hg]; exact (below_size (by repeat (first | (with_reducible first | exact HB.out | apply below_alloc | apply pw_below_drewN | apply below_drew1 | refine below_set ?_ GE262.out) | exact HB.out))) : w.heap.size ≤ gb264)); have n4_ := Aside0.mk ((by rw [hg]; exact (below_size (by repeat (first | (with_reducible first | exact HB.out | apply below_alloc | apply pw_below_drewN | apply below_drew1 | refine below_set ?_ GE262.out) | exact HB.out))) : w.heap.size ≤ gb264)); have n5_ := Aside0.mk ((by rw [hg]; exact Nat.ne_of_lt (blk_lt (g := gb262) (o := .cells #[.int .i64 a1_0, .int .u16 a1_1, .bool a1_2, .bool a1_3, .bool a1_4, .bool a1_5, .bool a1_6, .bool a1_7, .bool a1_8, .int .u8 a1_9] 44 (0, 0)) (by (with_reducible repeat (first | refine blk_drewN ?_ _ | refine blk_drew ?_ | refine blk_alloc ?_ _)); exact BK262.out)) : gb262 ≠ gb264)); have n6_ := Aside0.mk ((by rw [hg]; exact Nat.ne_of_gt (blk_lt (g := gb262) (o := .cells #[.int .i64 a1_0, .int .u16 a1_1, .bool a1_2, .bool a1_3, .bool a1_4, .bool a1_5, .bool a1_6, .bool a1_7, .bool a1_8, .int .u8 a1_9] 44 (0, 0)) (by (with_reducible repeat (first | refine blk_drewN ?_ _ | refine blk_drew ?_ | refine blk_alloc ?_ _)); exact BK262.out)) : gb264 ≠ gb262)); clear BK262; clear HB; have BK262 := n0_; have HB := n1_; have BK264 := n2_; have GW264 := n3_; have GE264 := n4_; have NB262_264 := n5_; have NB264_262 := n6_; clear n0_ n1_ n2_ n3_ n4_ n5_ n6_; clear hb hbox hg; have hnb17 := NB264_262.out; have hnc17 := NB262_264.out; have hcz18_0 : w16.cell? ⟨gb264, 0, none⟩ = some (.int .i64 0) := (blk_cell BK264.out 0).trans rfl; have hcz18_1 : w16.cell? ⟨gb264, 1, none⟩ = some (.int .i64 0) := (blk_cell BK264.out 1).trans rfl; have hfz18_0 := blk_frozen BK264.out 0; have hfz18_1 := blk_frozen BK264.out 1))
                  go_ret2
                  exact ⟨_, by first | rfl | (simp [errW_none, errW_some] <;> rfl) | (simp [*, errW_none, errW_some] <;> rfl), by first | exact Kd.R_nil _ _ _ _ _ | exact Kd.N_nil _ _ _ _ _ | exact Kd.V_nil _ _ _ _ _ | exact Kd.Q_nil _ _ _ _ _ | exact Kd.S_nil _ _ _ _ _, by repeat (first | (with_reducible first | exact HB.out | apply below_alloc | apply pw_below_drewN | apply below_drew1 | refine below_set ?_ GE262.out | refine below_set ?_ GE264.out) | exact HB.out)⟩
                · rw [if_neg c15] at H
                  have c15b0 : decide (((rd_T37 l0 x14_1).f1) < 1) = false := decide_eq_false c15
                  clear c15
                  by_cases c19 : ((rd_T37 l0 x14_1).f1) > 1048576
                  · rw [if_pos c19] at H
                    have c19b0 : decide (1048576 < ((rd_T37 l0 x14_1).f1)) = true := decide_eq_true c19
                    clear c19
                    simp only [Option.some.injEq, Prod.mk.injEq] at H
                    obtain ⟨rfl, rfl⟩ := H
                    have p263 : 0 ≤ (x14_1 : Int) := of_decide_eq_true (by first | (with_reducible assumption) | assumption)
                    have q263 : x14_1 < (l0.length : Int) := of_decide_eq_true (by first | (with_reducible assumption) | assumption)
                    obtain ⟨ad263, e263, hx263_0, hx263_1⟩ := at_T37 HR0.out x14_1 p263 q263
                    cases e263
                    replace hx263_0 := (HB.out.cell (World.block_lt_of_cell? w _ hx263_0)).trans hx263_0
                    replace hx263_1 := (HB.out.cell (World.block_lt_of_cell? w _ hx263_1)).trans hx263_1
                    replace p263 := eq_true p263
                    replace q263 := eq_true q263
                    go_wp2_with (first | ((with_reducible refine gate_dst (N := 7) rfl ?_); refine box_event ?hg (N := 7) ?hd (cs := #[.int .i64 0, .int .i64 0]) (t := 37) ?hr ?_; (case hd => rfl); (case hg => rfl); (case hr => first | (go_simp; done) | (go_simp; rfl)); intro gb264 hg w20 hbox hb; have n0_ := Aside0.mk (blk_below (g := gb262) (o := .cells #[.int .i64 a1_0, .int .u16 a1_1, .bool a1_2, .bool a1_3, .bool a1_4, .bool a1_5, .bool a1_6, .bool a1_7, .bool a1_8, .int .u8 a1_9] 44 (0, 0)) (by (with_reducible repeat (first | refine blk_drewN ?_ _ | refine blk_drew ?_ | refine blk_alloc ?_ _)); exact BK262.out) hb); have n1_ := Aside0.mk (below_step (by repeat (first | (with_reducible first | exact HB.out | apply below_alloc | apply pw_below_drewN | apply below_drew1 | refine below_set ?_ GE262.out) | exact HB.out)) hb); have n2_ := Aside0.mk (hbox); have n3_ := Aside0.mk ((by rw [hg]; exact (below_size (by repeat (first | (with_reducible first | exact HB.out | apply below_alloc | apply pw_below_drewN | apply below_drew1 | refine below_set ?_ GE262.out) | exact HB.out))) : w.heap.size ≤ gb264)); have n4_ := Aside0.mk ((by rw [hg]; exact (below_size (by repeat (first | (with_reducible first | exact HB.out | apply below_alloc | apply pw_below_drewN | apply below_drew1 | refine below_set ?_ GE262.out) | exact HB.out))) : w.heap.size ≤ gb264)); have n5_ := Aside0.mk ((by rw [hg]; exact Nat.ne_of_lt (blk_lt (g := gb262) (o := .cells #[.int .i64 a1_0, .int .u16 a1_1, .bool a1_2, .bool a1_3, .bool a1_4, .bool a1_5, .bool a1_6, .bool a1_7, .bool a1_8, .int .u8 a1_9] 44 (0, 0)) (by (with_reducible repeat (first | refine blk_drewN ?_ _ | refine blk_drew ?_ | refine blk_alloc ?_ _)); exact BK262.out)) : gb262 ≠ gb264)); have n6_ := Aside0.mk ((by rw [hg]; exact Nat.ne_of_gt (blk_lt (g := gb262) (o := .cells #[.int .i64 a1_0, .int .u16 a1_1, .bool a1_2, .bool a1_3, .bool a1_4, .bool a1_5, .bool a1_6, .bool a1_7, .bool a1_8, .int .u8 a1_9] 44 (0, 0)) (by (with_reducible repeat (first | refine blk_drewN ?_ _ | refine blk_drew ?_ | refine blk_alloc ?_ _)); exact BK262.out)) : gb264 ≠ gb262)); clear BK262; clear HB; have BK262 := n0_; have HB := n1_; have BK264 := n2_; have GW264 := n3_; have GE264 := n4_; have NB262_264 := n5_; have NB264_262 := n6_; clear n0_ n1_ n2_ n3_ n4_ n5_ n6_; clear hb hbox hg; have hnb21 := NB264_262.out; have hnc21 := NB262_264.out; have hcz22_0 : w20.cell? ⟨gb264, 0, none⟩ = some (.int .i64 0) := (blk_cell BK264.out 0).trans rfl; have hcz22_1 : w20.cell? ⟨gb264, 1, none⟩ = some (.int .i64 0) := (blk_cell BK264.out 1).trans rfl; have hfz22_0 := blk_frozen BK264.out 0; have hfz22_1 := blk_frozen BK264.out 1))
                    go_ret2
                    exact ⟨_, by first | rfl | (simp [errW_none, errW_some] <;> rfl) | (simp [*, errW_none, errW_some] <;> rfl), by first | exact Kd.R_nil _ _ _ _ _ | exact Kd.N_nil _ _ _ _ _ | exact Kd.V_nil _ _ _ _ _ | exact Kd.Q_nil _ _ _ _ _ | exact Kd.S_nil _ _ _ _ _, by repeat (first | (with_reducible first | exact HB.out | apply below_alloc | apply pw_below_drewN | apply below_drew1 | refine below_set ?_ GE262.out | refine below_set ?_ GE264.out) | exact HB.out)⟩
                  · rw [if_neg c19] at H
                    have c19b0 : decide (1048576 < ((rd_T37 l0 x14_1).f1)) = false := decide_eq_false c19
                    clear c19
                    have H' := Aside0.mk H
                    clear H
                    have p263 : 0 ≤ (x14_1 : Int) := of_decide_eq_true (by first | (with_reducible assumption) | assumption)
                    have q263 : x14_1 < (l0.length : Int) := of_decide_eq_true (by first | (with_reducible assumption) | assumption)
                    obtain ⟨ad263, e263, hx263_0, hx263_1⟩ := at_T37 HR0.out x14_1 p263 q263
                    cases e263
                    replace hx263_0 := (HB.out.cell (World.block_lt_of_cell? w _ hx263_0)).trans hx263_0
                    replace hx263_1 := (HB.out.cell (World.block_lt_of_cell? w _ hx263_1)).trans hx263_1
                    replace p263 := eq_true p263
                    replace q263 := eq_true q263
                    go_wp2_with (first | ((with_reducible refine gate_dst (N := 7) rfl ?_); refine box_event ?hg (N := 7) ?hd (cs := #[.int .i64 0, .int .i64 0]) (t := 37) ?hr ?_; (case hd => rfl); (case hg => rfl); (case hr => first | (go_simp; done) | (go_simp; rfl)); intro gb264 hg w23 hbox hb; have n0_ := Aside0.mk (blk_below (g := gb262) (o := .cells #[.int .i64 a1_0, .int .u16 a1_1, .bool a1_2, .bool a1_3, .bool a1_4, .bool a1_5, .bool a1_6, .bool a1_7, .bool a1_8, .int .u8 a1_9] 44 (0, 0)) (by (with_reducible repeat (first | refine blk_drewN ?_ _ | refine blk_drew ?_ | refine blk_alloc ?_ _)); exact BK262.out) hb); have n1_ := Aside0.mk (below_step (by repeat (first | (with_reducible first | exact HB.out | apply below_alloc | apply pw_below_drewN | apply below_drew1 | refine below_set ?_ GE262.out) | exact HB.out)) hb); have n2_ := Aside0.mk (hbox); have n3_ := Aside0.mk ((by rw [hg]; exact (below_size (by repeat (first | (with_reducible first | exact HB.out | apply below_alloc | apply pw_below_drewN | apply below_drew1 | refine below_set ?_ GE262.out) | exact HB.out))) : w.heap.size ≤ gb264)); have n4_ := Aside0.mk ((by rw [hg]; exact (below_size (by repeat (first | (with_reducible first | exact HB.out | apply below_alloc | apply pw_below_drewN | apply below_drew1 | refine below_set ?_ GE262.out) | exact HB.out))) : w.heap.size ≤ gb264)); have n5_ := Aside0.mk ((by rw [hg]; exact Nat.ne_of_lt (blk_lt (g := gb262) (o := .cells #[.int .i64 a1_0, .int .u16 a1_1, .bool a1_2, .bool a1_3, .bool a1_4, .bool a1_5, .bool a1_6, .bool a1_7, .bool a1_8, .int .u8 a1_9] 44 (0, 0)) (by (with_reducible repeat (first | refine blk_drewN ?_ _ | refine blk_drew ?_ | refine blk_alloc ?_ _)); exact BK262.out)) : gb262 ≠ gb264)); have n6_ := Aside0.mk ((by rw [hg]; exact Nat.ne_of_gt (blk_lt (g := gb262) (o := .cells #[.int .i64 a1_0, .int .u16 a1_1, .bool a1_2, .bool a1_3, .bool a1_4, .bool a1_5, .bool a1_6, .bool a1_7, .bool a1_8, .int .u8 a1_9] 44 (0, 0)) (by (with_reducible repeat (first | refine blk_drewN ?_ _ | refine blk_drew ?_ | refine blk_alloc ?_ _)); exact BK262.out)) : gb264 ≠ gb262)); clear BK262; clear HB; have BK262 := n0_; have HB := n1_; have BK264 := n2_; have GW264 := n3_; have GE264 := n4_; have NB262_264 := n5_; have NB264_262 := n6_; clear n0_ n1_ n2_ n3_ n4_ n5_ n6_; clear hb hbox hg; have hnb24 := NB264_262.out; have hnc24 := NB262_264.out; have hcz25_0 : w23.cell? ⟨gb264, 0, none⟩ = some (.int .i64 0) := (blk_cell BK264.out 0).trans rfl; have hcz25_1 : w23.cell? ⟨gb264, 1, none⟩ = some (.int .i64 0) := (blk_cell BK264.out 1).trans rfl; have hfz25_0 := blk_frozen BK264.out 0; have hfz25_1 := blk_frozen BK264.out 1))
                    go_roundg k1
                    case measure => have := HK1.out; omega
                    case rel => exact ⟨(wrap64 (x14_1 + 1)), (by first | rfl | (simp; done) | (simp [*]; done)), H', ⟨by have := HK1.out; omega⟩, ⟨by (with_reducible repeat (first | refine blk_drewN ?_ _ | refine blk_drew ?_ | refine blk_alloc ?_ _)); refine blk_far ?_ NB262_264.out _; (with_reducible repeat (first | refine blk_drewN ?_ _ | refine blk_drew ?_ | refine blk_alloc ?_ _)); refine blk_far ?_ NB262_264.out _; (with_reducible repeat (first | refine blk_drewN ?_ _ | refine blk_drew ?_ | refine blk_alloc ?_ _)); exact BK262.out⟩, ⟨by repeat (first | (with_reducible first | exact HB.out | apply below_alloc | apply pw_below_drewN | apply below_drew1 | refine below_set ?_ GE262.out | refine below_set ?_ GE264.out) | exact HB.out)⟩⟩
          · rw [if_neg c6] at H
            exact absurd H (by simp)
        · rw [if_neg c5] at H
          exact absurd H (by simp)
      · rw [if_neg c4] at H
        have c4b0 : decide (x14_1 < (l0.length : Int)) = false := decide_eq_false c4
        clear c4
        by_cases c26 : (wrap64 (2 * (l0.length : Int))) > 4096
        · rw [if_pos c26] at H
          have c26b0 : decide (4096 < (wrap64 (2 * (l0.length : Int)))) = true := decide_eq_true c26
          clear c26
          simp only [Option.some.injEq, Prod.mk.injEq] at H
          obtain ⟨rfl, rfl⟩ := H
          go_wp2
          go_ret2
          exact ⟨_, by first | rfl | (simp [errW_none, errW_some] <;> rfl) | (simp [*, errW_none, errW_some] <;> rfl), by first | exact Kd.R_nil _ _ _ _ _ | exact Kd.N_nil _ _ _ _ _ | exact Kd.V_nil _ _ _ _ _ | exact Kd.Q_nil _ _ _ _ _ | exact Kd.S_nil _ _ _ _ _, by repeat (first | (with_reducible first | exact HB.out | apply below_alloc | apply pw_below_drewN | apply below_drew1 | refine below_set ?_ GE262.out) | exact HB.out)⟩
        · rw [if_neg c26] at H
          have c26b0 : decide (4096 < (wrap64 (2 * (l0.length : Int)))) = false := decide_eq_false c26
          clear c26
          have H' := Aside0.mk H
          clear H
          go_wp2
          go_loopg [8, 43] k1 (fun kq v8 v43 w' => ∃ (x8_2 : List (S44)) (x43_2 : Int) (x263000_2 : Int) (x263002_2 : Bool), v43 = .int .i64 x43_2 ∧ Aside0 (tape_Spans.l1 kq x8_2 l0 (l0.length : Int) x43_2 x263000_2 a1_1 x263002_2 a1_3 a1_4 a1_5 a1_6 a1_7 a1_8 a1_9 = some (r1, r2)) ∧ Aside0 (kq ≤ k1) ∧ Aside0 (Kd.R k44 44 w' w.heap.size (fun k_ => k_ ≠ gb262) v8 x8_2) ∧ Aside0 (w'.heap[gb262]? = some (.cells #[.int .i64 x263000_2, .int .u16 a1_1, .bool x263002_2, .bool a1_3, .bool a1_4, .bool a1_5, .bool a1_6, .bool a1_7, .bool a1_8, .int .u8 a1_9] 44 (0, 0))) ∧ Aside0 (Below w.heap.size w w'))
          case atStart => exact ⟨(([] : List (S44))), (0), (a1_0), (a1_2), (by first | rfl | (simp; done) | (simp [*]; done)), H', ⟨Nat.le_refl _⟩, ⟨by first | exact Kd.R_nil _ _ _ _ _ | exact Kd.N_nil _ _ _ _ _ | exact Kd.V_nil _ _ _ _ _ | exact Kd.Q_nil _ _ _ _ _ | exact Kd.S_nil _ _ _ _ _⟩, ⟨by (with_reducible repeat (first | refine blk_drewN ?_ _ | refine blk_drew ?_ | refine blk_alloc ?_ _)); exact BK262.out⟩, ⟨by repeat (first | (with_reducible first | exact HB.out | apply below_alloc | apply pw_below_drewN | apply below_drew1 | refine below_set ?_ GE262.out) | exact HB.out)⟩⟩
          case round =>
            clear H'
            try clear c1
            try clear c2
            try clear p2
            try clear q2
            try clear hx2
            try clear c4
            try clear c4b0
            try clear c5
            try clear c5b0
            try clear c6
            try clear c6b0
            try clear p6
            try clear c7
            try clear c7b0
            try clear c9
            try clear c11
            try clear c11b0
            try clear c13
            try clear c15
            try clear c15b0
            try clear c17
            try clear c19
            try clear c19b0
            try clear c20
            try clear c21
            try clear c24
            try clear c26
            try clear c26b0
            try clear p26
            try clear q26
            try clear hx26
            try clear hcz10_0
            try clear hcz10_1
            try clear hcz14_0
            try clear hcz14_1
            try clear hcz18_0
            try clear hcz18_1
            try clear hcz22_0
            try clear hcz22_1
            try clear hcz25_0
            try clear hcz25_1
            try clear hfz10_0
            try clear hfz10_1
            try clear hfz14_0
            try clear hfz14_1
            try clear hfz18_0
            try clear hfz18_1
            try clear hfz22_0
            try clear hfz22_1
            try clear hfz25_0
            try clear hfz25_1
            try clear hx263_0
            try clear hx263_1
            try clear p2
            try clear p263
            try clear q263
            obtain ⟨x8_2, x43_2, x263000_2, x263002_2, rfl, HA, HK2, HO_8, BK262, HB⟩ := hrel
            cases gk with
            | zero => exact absurd HA.out (by simp [tape_Spans.l1])
            | succ k2 =>
              have H := HA.out
              clear HA
              simp only [tape_Spans.l1] at H
              by_cases c27 : x43_2 < (l0.length : Int)
              · rw [if_pos c27] at H
                have c27b0 : decide (x43_2 < (l0.length : Int)) = true := decide_eq_true c27
                clear c27
                by_cases c28 : 0 ≤ x43_2
                · rw [if_pos c28] at H
                  have c28b0 : decide (0 ≤ x43_2) = true := decide_eq_true c28
                  clear c28
                  by_cases c29 : x43_2 < (l0.length : Int)
                  · rw [if_pos c29] at H
                    have c29b0 : decide (x43_2 < (l0.length : Int)) = true := decide_eq_true c29
                    clear c29
                    by_cases c30 : x8_2.length < 5864062014805
                    · rw [if_pos c30] at H
                      have LMc30 := Aside0.mk c30
                      clear c30
                      obtain ⟨y267, hy267⟩ : ∃ y_ : List (S44), y_ = (x8_2 ++ [(⟨(rd_T37 l0 x43_2).f0, a1_1, true, a1_3, a1_4, a1_5, a1_6, a1_7, a1_8, a1_9⟩ : S44)]) := ⟨_, rfl⟩
                      replace H : (if y267.length < 5864062014805 then (tape_Spans.l1 k2 (y267 ++ [(⟨(rd_T37 l0 x43_2).f1, a1_1, false, a1_3, a1_4, a1_5, a1_6, a1_7, a1_8, a1_9⟩ : S44)]) l0 (l0.length : Int) (wrap64 (x43_2 + 1)) ((rd_T37 l0 x43_2).f1) a1_1 false a1_3 a1_4 a1_5 a1_6 a1_7 a1_8 a1_9) else (none)) = some (r1, r2) := by first | (rw [hy267]; with_reducible exact H) | (have H2_ := (Option.bind_some _ _).symm.trans H; rw [hy267]; with_reducible exact H2_) | (have H2_ := (Option.bind_some _ _).symm.trans H; with_reducible exact H2_) | with_reducible exact H | (rw [hy267]; exact H) | exact H
                      have Ny267 := Aside0.mk hy267
                      clear hy267
                      by_cases c31 : y267.length < 5864062014805
                      · rw [if_pos c31] at H
                        have LMc31 := Aside0.mk c31
                        clear c31
                        obtain ⟨y270, hy270⟩ : ∃ y_ : List (S44), y_ = (y267 ++ [(⟨(rd_T37 l0 x43_2).f1, a1_1, false, a1_3, a1_4, a1_5, a1_6, a1_7, a1_8, a1_9⟩ : S44)]) := ⟨_, rfl⟩
                        replace H : (tape_Spans.l1 k2 y270 l0 (l0.length : Int) (wrap64 (x43_2 + 1)) ((rd_T37 l0 x43_2).f1) a1_1 false a1_3 a1_4 a1_5 a1_6 a1_7 a1_8 a1_9) = some (r1, r2) := by first | (rw [hy270]; with_reducible exact H) | (have H2_ := (Option.bind_some _ _).symm.trans H; rw [hy270]; with_reducible exact H2_) | (have H2_ := (Option.bind_some _ _).symm.trans H; with_reducible exact H2_) | with_reducible exact H | (rw [hy270]; exact H) | exact H
                        have Ny270 := Aside0.mk hy270
                        clear hy270
                        have H' := Aside0.mk H
                        clear H
                        have p265 : 0 ≤ (x43_2 : Int) := of_decide_eq_true (by first | (with_reducible assumption) | assumption)
                        have q265 : x43_2 < (l0.length : Int) := of_decide_eq_true (by first | (with_reducible assumption) | assumption)
                        obtain ⟨ad265, e265, hx265_0, hx265_1⟩ := at_T37 HR0.out x43_2 p265 q265
                        cases e265
                        replace hx265_0 := (HB.out.cell (World.block_lt_of_cell? w _ hx265_0)).trans hx265_0
                        replace hx265_1 := (HB.out.cell (World.block_lt_of_cell? w _ hx265_1)).trans hx265_1
                        replace p265 := eq_true p265
                        replace q265 := eq_true q265
                        go_wp2_with (first | ((with_reducible refine gate_dst (N := 10) rfl ?_); refine box_event ?hg (N := 10) ?hd (cs := #[.int .i64 0, .int .i64 0]) (t := 37) ?hr ?_; (case hd => rfl); (case hg => rfl); (case hr => first | (go_simp; done) | (go_simp; rfl)); intro gb266 hg w32 hbox hb; have n0_ := Aside0.mk (Kd.R_below (by (with_reducible repeat (first | apply Kd.R_alloc | apply Kd.R_drewN | apply Kd.R_drew)); exact HO_8.out) hb); have n1_ := Aside0.mk (blk_below (g := gb262) (o := .cells #[.int .i64 x263000_2, .int .u16 a1_1, .bool x263002_2, .bool a1_3, .bool a1_4, .bool a1_5, .bool a1_6, .bool a1_7, .bool a1_8, .int .u8 a1_9] 44 (0, 0)) (by (with_reducible repeat (first | refine blk_drewN ?_ _ | refine blk_drew ?_ | refine blk_alloc ?_ _)); exact BK262.out) hb); have n2_ := Aside0.mk (below_step (by repeat (first | (with_reducible first | exact HB.out | apply below_alloc | apply pw_below_drewN | apply below_drew1 | refine below_set ?_ GE262.out) | exact HB.out)) hb); have n3_ := Aside0.mk (hbox); have n4_ := Aside0.mk ((by rw [hg]; exact (below_size (by repeat (first | (with_reducible first | exact HB.out | apply below_alloc | apply pw_below_drewN | apply below_drew1 | refine below_set ?_ GE262.out) | exact HB.out))) : w.heap.size ≤ gb266)); have n5_ := Aside0.mk ((by rw [hg]; exact (below_size (by repeat (first | (with_reducible first | exact HB.out | apply below_alloc | apply pw_below_drewN | apply below_drew1 | refine below_set ?_ GE262.out) | exact HB.out))) : w.heap.size ≤ gb266)); have n6_ := Aside0.mk ((by rw [hg]; exact Nat.ne_of_lt (blk_lt (g := gb262) (o := .cells #[.int .i64 x263000_2, .int .u16 a1_1, .bool x263002_2, .bool a1_3, .bool a1_4, .bool a1_5, .bool a1_6, .bool a1_7, .bool a1_8, .int .u8 a1_9] 44 (0, 0)) (by (with_reducible repeat (first | refine blk_drewN ?_ _ | refine blk_drew ?_ | refine blk_alloc ?_ _)); exact BK262.out)) : gb262 ≠ gb266)); have n7_ := Aside0.mk ((by rw [hg]; exact Nat.ne_of_gt (blk_lt (g := gb262) (o := .cells #[.int .i64 x263000_2, .int .u16 a1_1, .bool x263002_2, .bool a1_3, .bool a1_4, .bool a1_5, .bool a1_6, .bool a1_7, .bool a1_8, .int .u8 a1_9] 44 (0, 0)) (by (with_reducible repeat (first | refine blk_drewN ?_ _ | refine blk_drew ?_ | refine blk_alloc ?_ _)); exact BK262.out)) : gb266 ≠ gb262)); clear HO_8; clear BK262; clear HB; have HO_8 := n0_; have BK262 := n1_; have HB := n2_; have BK266 := n3_; have GW266 := n4_; have GE266 := n5_; have NB262_266 := n6_; have NB266_262 := n7_; clear n0_ n1_ n2_ n3_ n4_ n5_ n6_ n7_; clear hb hbox hg; have hnb33 := NB266_262.out; have hnc33 := NB262_266.out; have hcz34_0 : w32.cell? ⟨gb266, 0, none⟩ = some (.int .i64 0) := (blk_cell BK266.out 0).trans rfl; have hcz34_1 : w32.cell? ⟨gb266, 1, none⟩ = some (.int .i64 0) := (blk_cell BK266.out 1).trans rfl; have hfz34_0 := blk_frozen BK266.out 0; have hfz34_1 := blk_frozen BK266.out 1; have hcz35_0 : w32.cell? ⟨gb262, 0, none⟩ = some (.int .i64 x263000_2) := (blk_cell BK262.out 0).trans rfl; have hcz35_1 : w32.cell? ⟨gb262, 1, none⟩ = some (.int .u16 a1_1) := (blk_cell BK262.out 1).trans rfl; have hcz35_2 : w32.cell? ⟨gb262, 2, none⟩ = some (.bool x263002_2) := (blk_cell BK262.out 2).trans rfl; have hcz35_3 : w32.cell? ⟨gb262, 3, none⟩ = some (.bool a1_3) := (blk_cell BK262.out 3).trans rfl; have hcz35_4 : w32.cell? ⟨gb262, 4, none⟩ = some (.bool a1_4) := (blk_cell BK262.out 4).trans rfl; have hcz35_5 : w32.cell? ⟨gb262, 5, none⟩ = some (.bool a1_5) := (blk_cell BK262.out 5).trans rfl; have hcz35_6 : w32.cell? ⟨gb262, 6, none⟩ = some (.bool a1_6) := (blk_cell BK262.out 6).trans rfl; have hcz35_7 : w32.cell? ⟨gb262, 7, none⟩ = some (.bool a1_7) := (blk_cell BK262.out 7).trans rfl; have hcz35_8 : w32.cell? ⟨gb262, 8, none⟩ = some (.bool a1_8) := (blk_cell BK262.out 8).trans rfl; have hcz35_9 : w32.cell? ⟨gb262, 9, none⟩ = some (.int .u8 a1_9) := (blk_cell BK262.out 9).trans rfl; have hfz35_0 := blk_frozen BK262.out 0; have hfz35_1 := blk_frozen BK262.out 1; have hfz35_2 := blk_frozen BK262.out 2; have hfz35_3 := blk_frozen BK262.out 3; have hfz35_4 := blk_frozen BK262.out 4; have hfz35_5 := blk_frozen BK262.out 5; have hfz35_6 := blk_frozen BK262.out 6; have hfz35_7 := blk_frozen BK262.out 7; have hfz35_8 := blk_frozen BK262.out 8; have hfz35_9 := blk_frozen BK262.out 9) | ((with_reducible refine gate_builtin (b := .append) (xs := #[.tmp 51, .tmp 53]) rfl ?_); at_builtin; refine Kd.R_append k44 (w0 := w) w.heap.size rfl (.tmp 51) (.tmp 53) 39 44 (.agg #[(.int .i64 0), (.int .u16 0), (.bool false), (.bool false), (.bool false), (.bool false), (.bool false), (.bool false), (.bool false), (.int .u8 0)]) 24 rfl Tryd.underlying39 info44 rfl (by decide) (by omega) u8 x8_2 (⟨(rd_T37 l0 x43_2).f0, a1_1, true, a1_3, a1_4, a1_5, a1_6, a1_7, a1_8, a1_9⟩ : S44) [.int .i64 ((rd_T37 l0 x43_2).f0), .int .u16 a1_1, .bool true, .bool a1_3, .bool a1_4, .bool a1_5, .bool a1_6, .bool a1_7, .bool a1_8, .int .u8 a1_9] (fun k_ => k_ ≠ gb262) (fun _ => False) rfl (by first | (go_simp; done) | (go_simp; rfl)) ?aP (fun _ hk => hk.elim) ?aF ?aO ?aB ?aS ?aL ?_; (case aP => exact k44_mkM _ _ _ (⟨(rd_T37 l0 x43_2).f0, a1_1, true, a1_3, a1_4, a1_5, a1_6, a1_7, a1_8, a1_9⟩ : S44)); (case aB => exact (by repeat (first | (with_reducible first | exact HB.out | apply below_alloc | apply pw_below_drewN | apply below_drew1 | refine below_set ?_ GE262.out | refine below_set ?_ GE266.out) | exact HB.out))); (case aF => exact (fun k_ hk => Kd.freshB (g := gb262) (o := .cells #[.int .i64 ((rd_T37 l0 x43_2).f0), .int .u16 a1_1, .bool true, .bool a1_3, .bool a1_4, .bool a1_5, .bool a1_6, .bool a1_7, .bool a1_8, .int .u8 a1_9] 44 (0, 0)) (by (with_reducible repeat (first | refine blk_drewN ?_ _ | refine blk_drew ?_ | refine blk_alloc ?_ _)); refine blk_put (cs := #[.int .i64 ((rd_T37 l0 x43_2).f0), .int .u16 a1_1, .bool x263002_2, .bool a1_3, .bool a1_4, .bool a1_5, .bool a1_6, .bool a1_7, .bool a1_8, .int .u8 a1_9]) ?_ 2 _ rfl; (with_reducible repeat (first | refine blk_drewN ?_ _ | refine blk_drew ?_ | refine blk_alloc ?_ _)); refine blk_put (cs := #[.int .i64 x263000_2, .int .u16 a1_1, .bool x263002_2, .bool a1_3, .bool a1_4, .bool a1_5, .bool a1_6, .bool a1_7, .bool a1_8, .int .u8 a1_9]) ?_ 0 _ rfl; (with_reducible repeat (first | refine blk_drewN ?_ _ | refine blk_drew ?_ | refine blk_alloc ?_ _)); refine blk_far ?_ NB262_266.out _; (with_reducible repeat (first | refine blk_drewN ?_ _ | refine blk_drew ?_ | refine blk_alloc ?_ _)); refine blk_far ?_ NB262_266.out _; (with_reducible repeat (first | refine blk_drewN ?_ _ | refine blk_drew ?_ | refine blk_alloc ?_ _)); exact BK262.out) k_ hk)); (case aO => exact (by (with_reducible repeat (first | apply Kd.R_alloc | apply Kd.R_drewN | apply Kd.R_drew)); exact Kd.R_mono (Kd.R_far (p := ⟨gb262, 2, none⟩) (Kd.R_far (p := ⟨gb262, 0, none⟩) (Kd.R_far (p := ⟨gb266, 1, none⟩) (Kd.R_far (p := ⟨gb266, 0, none⟩) (Kd.R_mono (Kd.R_types HO_8.out BK266.out (by decide)) (fun k_ hk => (⟨hk, hk.1⟩ : _ ∧ k_ ≠ gb262))) (fun _ hk => hk.1.2) (.int .i64 ((rd_T37 l0 x43_2).f0))) (fun _ hk => hk.1.2) (.int .i64 ((rd_T37 l0 x43_2).f1))) (fun _ hk => hk.2) (.int .i64 ((rd_T37 l0 x43_2).f0))) (fun _ hk => hk.2) (.bool true)) (fun _ hk => hk.1.1))); (case aS => exact (below_size (by repeat (first | (with_reducible first | exact HB.out | apply below_alloc | apply pw_below_drewN | apply below_drew1 | refine below_set ?_ GE262.out | refine below_set ?_ GE266.out) | exact HB.out)))); (case aL => have := LMc30.out; omega); intro v268 w36 ho hb hg hat; rw [← Ny267.out] at ho; have n0_ := Aside0.mk (blk_grown (g := gb262) (o := .cells #[.int .i64 ((rd_T37 l0 x43_2).f0), .int .u16 a1_1, .bool true, .bool a1_3, .bool a1_4, .bool a1_5, .bool a1_6, .bool a1_7, .bool a1_8, .int .u8 a1_9] 44 (0, 0)) (by (with_reducible repeat (first | refine blk_drewN ?_ _ | refine blk_drew ?_ | refine blk_alloc ?_ _)); refine blk_put (cs := #[.int .i64 ((rd_T37 l0 x43_2).f0), .int .u16 a1_1, .bool x263002_2, .bool a1_3, .bool a1_4, .bool a1_5, .bool a1_6, .bool a1_7, .bool a1_8, .int .u8 a1_9]) ?_ 2 _ rfl; (with_reducible repeat (first | refine blk_drewN ?_ _ | refine blk_drew ?_ | refine blk_alloc ?_ _)); refine blk_put (cs := #[.int .i64 x263000_2, .int .u16 a1_1, .bool x263002_2, .bool a1_3, .bool a1_4, .bool a1_5, .bool a1_6, .bool a1_7, .bool a1_8, .int .u8 a1_9]) ?_ 0 _ rfl; (with_reducible repeat (first | refine blk_drewN ?_ _ | refine blk_drew ?_ | refine blk_alloc ?_ _)); refine blk_far ?_ NB262_266.out _; (with_reducible repeat (first | refine blk_drewN ?_ _ | refine blk_drew ?_ | refine blk_alloc ?_ _)); refine blk_far ?_ NB262_266.out _; (with_reducible repeat (first | refine blk_drewN ?_ _ | refine blk_drew ?_ | refine blk_alloc ?_ _)); exact BK262.out) hg (Kd.R_away HO_8.out (fun _ hk => hk))); have n1_ := Aside0.mk (blk_grown (g := gb266) (o := .cells #[.int .i64 ((rd_T37 l0 x43_2).f0), .int .i64 ((rd_T37 l0 x43_2).f1)] 37 (0, 0)) (by (with_reducible repeat (first | refine blk_drewN ?_ _ | refine blk_drew ?_ | refine blk_alloc ?_ _)); refine blk_far ?_ NB266_262.out _; (with_reducible repeat (first | refine blk_drewN ?_ _ | refine blk_drew ?_ | refine blk_alloc ?_ _)); refine blk_far ?_ NB266_262.out _; (with_reducible repeat (first | refine blk_drewN ?_ _ | refine blk_drew ?_ | refine blk_alloc ?_ _)); refine blk_put (cs := #[.int .i64 ((rd_T37 l0 x43_2).f0), .int .i64 0]) ?_ 1 _ rfl; (with_reducible repeat (first | refine blk_drewN ?_ _ | refine blk_drew ?_ | refine blk_alloc ?_ _)); refine blk_put (cs := #[.int .i64 0, .int .i64 0]) ?_ 0 _ rfl; (with_reducible repeat (first | refine blk_drewN ?_ _ | refine blk_drew ?_ | refine blk_alloc ?_ _)); exact BK266.out) hg (Kd.R_ne HO_8.out BK266.out (by decide))); have n2_ := Aside0.mk (hb); have n3_ := Aside0.mk (ho); clear BK262; clear BK266; clear HB; clear HO_8; have BK262 := n0_; have BK266 := n1_; have HB := n2_; have HO269 := n3_; clear n0_ n1_ n2_ n3_; clear ho hb hg hat; have hcz37_0 : w36.cell? ⟨gb266, 0, none⟩ = some (.int .i64 ((rd_T37 l0 x43_2).f0)) := (blk_cell BK266.out 0).trans rfl; have hcz37_1 : w36.cell? ⟨gb266, 1, none⟩ = some (.int .i64 ((rd_T37 l0 x43_2).f1)) := (blk_cell BK266.out 1).trans rfl; have hfz37_0 := blk_frozen BK266.out 0; have hfz37_1 := blk_frozen BK266.out 1; have hcz38_0 : w36.cell? ⟨gb262, 0, none⟩ = some (.int .i64 ((rd_T37 l0 x43_2).f0)) := (blk_cell BK262.out 0).trans rfl; have hcz38_1 : w36.cell? ⟨gb262, 1, none⟩ = some (.int .u16 a1_1) := (blk_cell BK262.out 1).trans rfl; have hcz38_2 : w36.cell? ⟨gb262, 2, none⟩ = some (.bool true) := (blk_cell BK262.out 2).trans rfl; have hcz38_3 : w36.cell? ⟨gb262, 3, none⟩ = some (.bool a1_3) := (blk_cell BK262.out 3).trans rfl; have hcz38_4 : w36.cell? ⟨gb262, 4, none⟩ = some (.bool a1_4) := (blk_cell BK262.out 4).trans rfl; have hcz38_5 : w36.cell? ⟨gb262, 5, none⟩ = some (.bool a1_5) := (blk_cell BK262.out 5).trans rfl; have hcz38_6 : w36.cell? ⟨gb262, 6, none⟩ = some (.bool a1_6) := (blk_cell BK262.out 6).trans rfl; have hcz38_7 : w36.cell? ⟨gb262, 7, none⟩ = some (.bool a1_7) := (blk_cell BK262.out 7).trans rfl; have hcz38_8 : w36.cell? ⟨gb262, 8, none⟩ = some (.bool a1_8) := (blk_cell BK262.out 8).trans rfl; have hcz38_9 : w36.cell? ⟨gb262, 9, none⟩ = some (.int .u8 a1_9) := (blk_cell BK262.out 9).trans rfl; have hfz38_0 := blk_frozen BK262.out 0; have hfz38_1 := blk_frozen BK262.out 1; have hfz38_2 := blk_frozen BK262.out 2; have hfz38_3 := blk_frozen BK262.out 3; have hfz38_4 := blk_frozen BK262.out 4; have hfz38_5 := blk_frozen BK262.out 5; have hfz38_6 := blk_frozen BK262.out 6; have hfz38_7 := blk_frozen BK262.out 7; have hfz38_8 := blk_frozen BK262.out 8; have hfz38_9 := blk_frozen BK262.out 9) | ((with_reducible refine gate_builtin (b := .append) (xs := #[.tmp 59, .tmp 61]) rfl ?_); at_builtin; refine Kd.R_append k44 (w0 := w) w.heap.size rfl (.tmp 59) (.tmp 61) 39 44 (.agg #[(.int .i64 0), (.int .u16 0), (.bool false), (.bool false), (.bool false), (.bool false), (.bool false), (.bool false), (.bool false), (.int .u8 0)]) 24 rfl Tryd.underlying39 info44 rfl (by decide) (by omega) v268 y267 (⟨(rd_T37 l0 x43_2).f1, a1_1, false, a1_3, a1_4, a1_5, a1_6, a1_7, a1_8, a1_9⟩ : S44) [.int .i64 ((rd_T37 l0 x43_2).f1), .int .u16 a1_1, .bool false, .bool a1_3, .bool a1_4, .bool a1_5, .bool a1_6, .bool a1_7, .bool a1_8, .int .u8 a1_9] (fun k_ => k_ ≠ gb262) (fun _ => False) rfl (by first | (go_simp; done) | (go_simp; rfl)) ?aP (fun _ hk => hk.elim) ?aF ?aO ?aB ?aS ?aL ?_; (case aP => exact k44_mkM _ _ _ (⟨(rd_T37 l0 x43_2).f1, a1_1, false, a1_3, a1_4, a1_5, a1_6, a1_7, a1_8, a1_9⟩ : S44)); (case aB => exact (by repeat (first | (with_reducible first | exact HB.out | apply below_alloc | apply pw_below_drewN | apply below_drew1 | refine below_set ?_ GE262.out | refine below_set ?_ GE266.out) | exact HB.out))); (case aF => exact (fun k_ hk => Kd.freshB (g := gb262) (o := .cells #[.int .i64 ((rd_T37 l0 x43_2).f1), .int .u16 a1_1, .bool false, .bool a1_3, .bool a1_4, .bool a1_5, .bool a1_6, .bool a1_7, .bool a1_8, .int .u8 a1_9] 44 (0, 0)) (by (with_reducible repeat (first | refine blk_drewN ?_ _ | refine blk_drew ?_ | refine blk_alloc ?_ _)); refine blk_put (cs := #[.int .i64 ((rd_T37 l0 x43_2).f1), .int .u16 a1_1, .bool true, .bool a1_3, .bool a1_4, .bool a1_5, .bool a1_6, .bool a1_7, .bool a1_8, .int .u8 a1_9]) ?_ 2 _ rfl; (with_reducible repeat (first | refine blk_drewN ?_ _ | refine blk_drew ?_ | refine blk_alloc ?_ _)); refine blk_put (cs := #[.int .i64 ((rd_T37 l0 x43_2).f0), .int .u16 a1_1, .bool true, .bool a1_3, .bool a1_4, .bool a1_5, .bool a1_6, .bool a1_7, .bool a1_8, .int .u8 a1_9]) ?_ 0 _ rfl; (with_reducible repeat (first | refine blk_drewN ?_ _ | refine blk_drew ?_ | refine blk_alloc ?_ _)); exact BK262.out) k_ hk)); (case aO => exact (by (with_reducible repeat (first | apply Kd.R_alloc | apply Kd.R_drewN | apply Kd.R_drew)); exact Kd.R_mono (Kd.R_far (p := ⟨gb262, 2, none⟩) (Kd.R_far (p := ⟨gb262, 0, none⟩) (Kd.R_mono HO269.out (fun k_ hk => (⟨hk, hk⟩ : _ ∧ k_ ≠ gb262))) (fun _ hk => hk.2) (.int .i64 ((rd_T37 l0 x43_2).f1))) (fun _ hk => hk.2) (.bool false)) (fun _ hk => hk.1))); (case aS => exact (below_size (by repeat (first | (with_reducible first | exact HB.out | apply below_alloc | apply pw_below_drewN | apply below_drew1 | refine below_set ?_ GE262.out | refine below_set ?_ GE266.out) | exact HB.out)))); (case aL => have := LMc31.out; omega); intro v271 w39 ho hb hg hat; rw [← Ny270.out] at ho; have n0_ := Aside0.mk (blk_grown (g := gb262) (o := .cells #[.int .i64 ((rd_T37 l0 x43_2).f1), .int .u16 a1_1, .bool false, .bool a1_3, .bool a1_4, .bool a1_5, .bool a1_6, .bool a1_7, .bool a1_8, .int .u8 a1_9] 44 (0, 0)) (by (with_reducible repeat (first | refine blk_drewN ?_ _ | refine blk_drew ?_ | refine blk_alloc ?_ _)); refine blk_put (cs := #[.int .i64 ((rd_T37 l0 x43_2).f1), .int .u16 a1_1, .bool true, .bool a1_3, .bool a1_4, .bool a1_5, .bool a1_6, .bool a1_7, .bool a1_8, .int .u8 a1_9]) ?_ 2 _ rfl; (with_reducible repeat (first | refine blk_drewN ?_ _ | refine blk_drew ?_ | refine blk_alloc ?_ _)); refine blk_put (cs := #[.int .i64 ((rd_T37 l0 x43_2).f0), .int .u16 a1_1, .bool true, .bool a1_3, .bool a1_4, .bool a1_5, .bool a1_6, .bool a1_7, .bool a1_8, .int .u8 a1_9]) ?_ 0 _ rfl; (with_reducible repeat (first | refine blk_drewN ?_ _ | refine blk_drew ?_ | refine blk_alloc ?_ _)); exact BK262.out) hg (Kd.R_away HO269.out (fun _ hk => hk))); have n1_ := Aside0.mk (blk_grown (g := gb266) (o := .cells #[.int .i64 ((rd_T37 l0 x43_2).f0), .int .i64 ((rd_T37 l0 x43_2).f1)] 37 (0, 0)) (by (with_reducible repeat (first | refine blk_drewN ?_ _ | refine blk_drew ?_ | refine blk_alloc ?_ _)); refine blk_far ?_ NB266_262.out _; (with_reducible repeat (first | refine blk_drewN ?_ _ | refine blk_drew ?_ | refine blk_alloc ?_ _)); refine blk_far ?_ NB266_262.out _; (with_reducible repeat (first | refine blk_drewN ?_ _ | refine blk_drew ?_ | refine blk_alloc ?_ _)); exact BK266.out) hg (Kd.R_ne HO269.out BK266.out (by decide))); have n2_ := Aside0.mk (hb); have n3_ := Aside0.mk (ho); clear BK262; clear BK266; clear HB; clear HO269; have BK262 := n0_; have BK266 := n1_; have HB := n2_; have HO272 := n3_; clear n0_ n1_ n2_ n3_; clear ho hb hg hat))
                        go_roundg k2
                        case measure => have := HK1.out; have := HK2.out; omega
                        case rel => exact ⟨(y270), (wrap64 (x43_2 + 1)), ((rd_T37 l0 x43_2).f1), (false), (by first | rfl | (simp; done) | (simp [*]; done)), H', ⟨by have := HK1.out; have := HK2.out; omega⟩, ⟨by (with_reducible repeat (first | apply Kd.R_alloc | apply Kd.R_drewN | apply Kd.R_drew)); exact HO272.out⟩, ⟨by (with_reducible repeat (first | refine blk_drewN ?_ _ | refine blk_drew ?_ | refine blk_alloc ?_ _)); exact BK262.out⟩, ⟨by repeat (first | (with_reducible first | exact HB.out | apply below_alloc | apply pw_below_drewN | apply below_drew1 | refine below_set ?_ GE262.out | refine below_set ?_ GE266.out) | exact HB.out)⟩⟩
                      · rw [if_neg c31] at H
                        exact absurd H (by simp)
                    · rw [if_neg c30] at H
                      exact absurd H (by simp)
                  · rw [if_neg c29] at H
                    exact absurd H (by simp)
                · rw [if_neg c28] at H
                  exact absurd H (by simp)
              · rw [if_neg c27] at H
                have c27b0 : decide (x43_2 < (l0.length : Int)) = false := decide_eq_false c27
                clear c27
                replace H := Option.bind_eq_some_iff.mp H
                obtain ⟨t273, A400, H⟩ := H
                replace H : (if t273 = 0 then (some (x8_2, 0)) else (some (([] : List (S44)), t273))) = some (r1, r2) := H
                have A40 := Aside0.mk A400
                clear A400
                by_cases c41 : t273 = 0
                · rw [if_pos c41] at H
                  have c41b0 : (t273 == 0) = true := beq_iff_eq.mpr c41
                  have c41b1 : (t273 != 0) = false := bne_eq_false_iff_eq.mpr c41
                  clear c41
                  simp only [Option.some.injEq, Prod.mk.injEq] at H
                  obtain ⟨rfl, rfl⟩ := H
                  obtain ⟨Ao42, co42, eo42⟩ := Kd.R_slice HO_8.out
                  subst eo42
                  go_wp2_with (first | ((with_reducible refine gate_callee (f := 30) rfl ?_); refine goesL_ (some 65) rfl rfl Tryd.func30 (by kernel_rfl) rfl #[.slice Ao42 x8_2.length co42] rfl (by (try simp only [List.map_toArray, List.map_cons, List.map_nil]); first | done | rfl | (simp only [List.length_drop, List.length_take]; rfl)) ?_; (with_reducible refine (script_Check.calls k2 _ _ x8_2 t273 _ ?side1 ?side2 A40.out).mono ?_); (case side1 => repeat (first | exact (Kd.R_reads' HO_8.out).2.2 | (with_reducible refine Kd.C_alloc ?_ _) | (with_reducible refine Kd.C_drewN ?_ _) | (with_reducible refine Kd.C_drew ?_))); (case side2 => exact (Kd.R_reads' HO_8.out).2.1); rintro e w43 ⟨rfl, hb⟩; refine ⟨_, rfl, ?_⟩; have n0_ := Aside0.mk (Kd.R_below (by (with_reducible repeat (first | apply Kd.R_alloc | apply Kd.R_drewN | apply Kd.R_drew)); exact HO_8.out) hb); have n1_ := Aside0.mk (blk_below (g := gb262) (o := .cells #[.int .i64 x263000_2, .int .u16 a1_1, .bool x263002_2, .bool a1_3, .bool a1_4, .bool a1_5, .bool a1_6, .bool a1_7, .bool a1_8, .int .u8 a1_9] 44 (0, 0)) (by (with_reducible repeat (first | refine blk_drewN ?_ _ | refine blk_drew ?_ | refine blk_alloc ?_ _)); exact BK262.out) hb); have n2_ := Aside0.mk (below_step (by repeat (first | (with_reducible first | exact HB.out | apply below_alloc | apply pw_below_drewN | apply below_drew1 | refine below_set ?_ GE262.out) | exact HB.out)) hb); clear HO_8; clear BK262; clear HB; have HO_8 := n0_; have BK262 := n1_; have HB := n2_; clear n0_ n1_ n2_; (try clear hb); (try clear hb2); (try clear hk); (try clear hi)))
                  go_ret2
                  exact ⟨_, by first | rfl | (simp [errW_none, errW_some] <;> rfl) | (simp [*, errW_none, errW_some] <;> rfl), by (with_reducible repeat (first | apply Kd.R_alloc | apply Kd.R_drewN | apply Kd.R_drew)); exact Kd.R_mono HO_8.out (fun _ hk => trivial), by repeat (first | (with_reducible first | exact HB.out | apply below_alloc | apply pw_below_drewN | apply below_drew1 | refine below_set ?_ GE262.out) | exact HB.out)⟩
                · rw [if_neg c41] at H
                  have c41b0 : (t273 == 0) = false := beq_eq_false_iff_ne.mpr c41
                  have c41b1 : (t273 != 0) = true := bne_iff_ne.mpr c41
                  simp only [Option.some.injEq, Prod.mk.injEq] at H
                  obtain ⟨rfl, rfl⟩ := H
                  obtain ⟨Ao44, co44, eo44⟩ := Kd.R_slice HO_8.out
                  subst eo44
                  go_wp2_with (first | ((with_reducible refine gate_callee (f := 30) rfl ?_); refine goesL_ (some 65) rfl rfl Tryd.func30 (by kernel_rfl) rfl #[.slice Ao44 x8_2.length co44] rfl (by (try simp only [List.map_toArray, List.map_cons, List.map_nil]); first | done | rfl | (simp only [List.length_drop, List.length_take]; rfl)) ?_; (with_reducible refine (script_Check.calls k2 _ _ x8_2 t273 _ ?side1 ?side2 A40.out).mono ?_); (case side1 => repeat (first | exact (Kd.R_reads' HO_8.out).2.2 | (with_reducible refine Kd.C_alloc ?_ _) | (with_reducible refine Kd.C_drewN ?_ _) | (with_reducible refine Kd.C_drew ?_))); (case side2 => exact (Kd.R_reads' HO_8.out).2.1); rintro e w45 ⟨rfl, hb⟩; refine ⟨_, rfl, ?_⟩; have n0_ := Aside0.mk (Kd.R_below (by (with_reducible repeat (first | apply Kd.R_alloc | apply Kd.R_drewN | apply Kd.R_drew)); exact HO_8.out) hb); have n1_ := Aside0.mk (blk_below (g := gb262) (o := .cells #[.int .i64 x263000_2, .int .u16 a1_1, .bool x263002_2, .bool a1_3, .bool a1_4, .bool a1_5, .bool a1_6, .bool a1_7, .bool a1_8, .int .u8 a1_9] 44 (0, 0)) (by (with_reducible repeat (first | refine blk_drewN ?_ _ | refine blk_drew ?_ | refine blk_alloc ?_ _)); exact BK262.out) hb); have n2_ := Aside0.mk (below_step (by repeat (first | (with_reducible first | exact HB.out | apply below_alloc | apply pw_below_drewN | apply below_drew1 | refine below_set ?_ GE262.out) | exact HB.out)) hb); clear HO_8; clear BK262; clear HB; have HO_8 := n0_; have BK262 := n1_; have HB := n2_; clear n0_ n1_ n2_; (try clear hb); (try clear hb2); (try clear hk); (try clear hi)))
                  go_ret2
                  exact ⟨_, by first | rfl | (simp [errW_none, errW_some] <;> rfl) | (simp [*, errW_none, errW_some] <;> rfl), by first | exact Kd.R_nil _ _ _ _ _ | exact Kd.N_nil _ _ _ _ _ | exact Kd.V_nil _ _ _ _ _ | exact Kd.Q_nil _ _ _ _ _ | exact Kd.S_nil _ _ _ _ _, by repeat (first | (with_reducible first | exact HB.out | apply below_alloc | apply pw_below_drewN | apply below_drew1 | refine below_set ?_ GE262.out) | exact HB.out)⟩

/-! ### vesperref07_Same: function 22 -/
def vesperref07_Same.l0 : Nat → List (S44) → List (S44) → Int → Option (Bool)
  | 0, _, _, _ => none
  | k + 1, x0, x1, x5 => if x5 < (x0.length : Int) then (if 0 ≤ x5 then (if x5 < (x1.length : Int) then (if (!(((rd_T44 x0 x5).f0) == ((rd_T44 x1 x5).f0)) || (!(((rd_T44 x0 x5).f1) == ((rd_T44 x1 x5).f1)) || (!(((rd_T44 x0 x5).f2) == ((rd_T44 x1 x5).f2)) || (!(((rd_T44 x0 x5).f3) == ((rd_T44 x1 x5).f3)) || (!(((rd_T44 x0 x5).f4) == ((rd_T44 x1 x5).f4)) || (!(((rd_T44 x0 x5).f5) == ((rd_T44 x1 x5).f5)) || (!(((rd_T44 x0 x5).f6) == ((rd_T44 x1 x5).f6)) || (!(((rd_T44 x0 x5).f7) == ((rd_T44 x1 x5).f7)) || (!(((rd_T44 x0 x5).f8) == ((rd_T44 x1 x5).f8)) || (!(((rd_T44 x0 x5).f9) == ((rd_T44 x1 x5).f9)))))))))))) = true then (some false) else (vesperref07_Same.l0 k x0 x1 (wrap64 (x5 + 1)))) else (none)) else (none)) else (some true)
def vesperref07_Same.f (k : Nat) (l0 : List (S44)) (l1 : List (S44)) : Option (Bool) := if (l0.length : Int) = (l1.length : Int) then (vesperref07_Same.l0 k l0 l1 0) else (some false)
theorem vesperref07_Same.mono_l : ∀ k, (∀ y0 y1 y2, LeO (vesperref07_Same.l0 k y0 y1 y2) (vesperref07_Same.l0 (k + 1) y0 y1 y2))
  | 0 => fun _ _ _ r h => by simp [vesperref07_Same.l0] at h
  | k + 1 => by
    have ih0 := vesperref07_Same.mono_l k
    · intro y0 y1 y2
      unfold vesperref07_Same.l0
      repeat' first
      | (with_reducible exact ih0 _ _ _)
      | (with_reducible exact LeO.refl _)
      | (with_reducible exact LeO.none _)
      | (with_reducible refine LeO.ite ?_ ?_)
      | (with_reducible refine LeO.bind ?_ (fun _ => ?_))
      | exact ih0 _ _ _
      | exact LeO.none _
      | refine LeO.ite ?_ ?_
      | refine LeO.bind ?_ (fun _ => ?_)
theorem vesperref07_Same.mono : ∀ a0 a1 k, LeO (vesperref07_Same.f k a0 a1) (vesperref07_Same.f (k + 1) a0 a1) := by
  intro a0 a1 k
  have ih0 := vesperref07_Same.mono_l k
  unfold vesperref07_Same.f
  repeat' first
      | (with_reducible exact ih0 _ _ _)
      | (with_reducible exact LeO.refl _)
      | (with_reducible exact LeO.none _)
      | (with_reducible refine LeO.ite ?_ ?_)
      | (with_reducible refine LeO.bind ?_ (fun _ => ?_))
      | exact ih0 _ _ _
      | exact LeO.none _
      | refine LeO.ite ?_ ?_
      | refine LeO.bind ?_ (fun _ => ?_)
set_option maxHeartbeats 8000000 in
set_option maxRecDepth 100000 in
theorem vesperref07_Same.calls (k : Nat) (A0 : Option Addr) (c0 : Nat) (l0 : List (S44)) (A1 : Option Addr) (c1 : Nat) (l1 : List (S44)) (r : Bool) (w : World) (hr0 : Kd.C k44 w A0 l0.length l0) (hc0 : l0.length ≤ c0) (hr1 : Kd.C k44 w A1 l1.length l1) (hc1 : l1.length ≤ c1) (h : vesperref07_Same.f k l0 l1 = some r) :
    Calls Tryd.prog 22 #[.slice A0 l0.length c0, .slice A1 l1.length c1] w fun e w' => e = .returned (.bool r) ∧ Drawn0 w w' := by
  have hu44 := Tryd.underlying44
  have HR0 := Aside0.mk hr0
  have HC0 := Aside0.mk hc0
  clear hr0 hc0
  have HR1 := Aside0.mk hr1
  have HC1 := Aside0.mk hc1
  clear hr1 hc1
  have H : (if (l0.length : Int) = (l1.length : Int) then (vesperref07_Same.l0 k l0 l1 0) else (some false)) = some r := h
  clear h
  by_cases c3 : (l0.length : Int) = (l1.length : Int)
  · rw [if_pos c3] at H
    have c3b0 : ((l0.length : Int) == (l1.length : Int)) = true := beq_iff_eq.mpr c3
    have c3b1 : ((l0.length : Int) != (l1.length : Int)) = false := bne_eq_false_iff_eq.mpr c3
    have c3b2 : (l0.length == l1.length) = true := by first | simpa using c3 | (simp at c3 ⊢; omega)
    clear c3
    have H' := Aside0.mk H
    clear H
    go_enter Tryd.func22, Tryd.ntmps22
    go_wp2
    repeat (go_quiet (fail); try go_wp2)
    go_loopg [5] k (fun kq v5 w' => ∃ (x5_1 : Int), v5 = .int .i64 x5_1 ∧ Aside0 (vesperref07_Same.l0 kq l0 l1 x5_1 = some r) ∧ Aside0 (kq ≤ k) ∧ Drawn0 w w')
    case atStart => exact ⟨(0), (by first | rfl | (simp; done) | (simp [*]; done)), H', ⟨Nat.le_refl _⟩, by repeat (first | exact Drawn0.refl _ | apply Drawn0.step)⟩
    case round =>
      clear H'
      try clear c1
      try clear c2
      try clear p2
      try clear c3
      try clear c3b0
      try clear c3b1
      try clear c3b2
      obtain ⟨x5_1, rfl, HA, HK1, ⟨m1, rfl⟩⟩ := hrel
      cases gk with
      | zero => exact absurd HA.out (by simp [vesperref07_Same.l0])
      | succ k1 =>
        have H := HA.out
        clear HA
        simp only [vesperref07_Same.l0] at H
        by_cases c4 : x5_1 < (l0.length : Int)
        · rw [if_pos c4] at H
          have c4b0 : decide (x5_1 < (l0.length : Int)) = true := decide_eq_true c4
          clear c4
          by_cases c5 : 0 ≤ x5_1
          · rw [if_pos c5] at H
            have c5b0 : decide (0 ≤ x5_1) = true := decide_eq_true c5
            clear c5
            by_cases c6 : x5_1 < (l1.length : Int)
            · rw [if_pos c6] at H
              have c6b0 : decide (x5_1 < (l1.length : Int)) = true := decide_eq_true c6
              clear c6
              by_cases c7 : (!(((rd_T44 l0 x5_1).f0) == ((rd_T44 l1 x5_1).f0)) || (!(((rd_T44 l0 x5_1).f1) == ((rd_T44 l1 x5_1).f1)) || (!(((rd_T44 l0 x5_1).f2) == ((rd_T44 l1 x5_1).f2)) || (!(((rd_T44 l0 x5_1).f3) == ((rd_T44 l1 x5_1).f3)) || (!(((rd_T44 l0 x5_1).f4) == ((rd_T44 l1 x5_1).f4)) || (!(((rd_T44 l0 x5_1).f5) == ((rd_T44 l1 x5_1).f5)) || (!(((rd_T44 l0 x5_1).f6) == ((rd_T44 l1 x5_1).f6)) || (!(((rd_T44 l0 x5_1).f7) == ((rd_T44 l1 x5_1).f7)) || (!(((rd_T44 l0 x5_1).f8) == ((rd_T44 l1 x5_1).f8)) || (!(((rd_T44 l0 x5_1).f9) == ((rd_T44 l1 x5_1).f9)))))))))))) = true
              · rw [if_pos c7] at H
                have c7b0 : (!(((rd_T44 l0 x5_1).f0) == ((rd_T44 l1 x5_1).f0)) || (!(((rd_T44 l0 x5_1).f1) == ((rd_T44 l1 x5_1).f1)) || (!(((rd_T44 l0 x5_1).f2) == ((rd_T44 l1 x5_1).f2)) || (!(((rd_T44 l0 x5_1).f3) == ((rd_T44 l1 x5_1).f3)) || (!(((rd_T44 l0 x5_1).f4) == ((rd_T44 l1 x5_1).f4)) || (!(((rd_T44 l0 x5_1).f5) == ((rd_T44 l1 x5_1).f5)) || (!(((rd_T44 l0 x5_1).f6) == ((rd_T44 l1 x5_1).f6)) || (!(((rd_T44 l0 x5_1).f7) == ((rd_T44 l1 x5_1).f7)) || (!(((rd_T44 l0 x5_1).f8) == ((rd_T44 l1 x5_1).f8)) || (!(((rd_T44 l0 x5_1).f9) == ((rd_T44 l1 x5_1).f9)))))))))))) = true := c7
                clear c7
                obtain rfl := Option.some.inj H
                have p288 : 0 ≤ (x5_1 : Int) := of_decide_eq_true (by first | (with_reducible assumption) | assumption)
                have q288 : x5_1 < (l0.length : Int) := of_decide_eq_true (by first | (with_reducible assumption) | assumption)
                obtain ⟨ad288, e288, hx288_0, hx288_1, hx288_2, hx288_3, hx288_4, hx288_5, hx288_6, hx288_7, hx288_8, hx288_9⟩ := at_T44 HR0.out x5_1 p288 q288
                cases e288
                replace p288 := eq_true p288
                replace q288 := eq_true q288
                have p289 : 0 ≤ (x5_1 : Int) := of_decide_eq_true (by first | (with_reducible assumption) | assumption)
                have q289 : x5_1 < (l1.length : Int) := of_decide_eq_true (by first | (with_reducible assumption) | assumption)
                obtain ⟨ad289, e289, hx289_0, hx289_1, hx289_2, hx289_3, hx289_4, hx289_5, hx289_6, hx289_7, hx289_8, hx289_9⟩ := at_T44 HR1.out x5_1 p289 q289
                cases e289
                replace p289 := eq_true p289
                replace q289 := eq_true q289
                go_wp2
                repeat (go_quiet (fail); try go_wp2)
                go_ret
                exact ⟨by first | rfl | (simp; done) | (simp [*]; done), by repeat (first | exact Drawn0.refl _ | apply Drawn0.step)⟩
              · rw [if_neg c7] at H
                have c7b0 : (!(((rd_T44 l0 x5_1).f0) == ((rd_T44 l1 x5_1).f0)) || (!(((rd_T44 l0 x5_1).f1) == ((rd_T44 l1 x5_1).f1)) || (!(((rd_T44 l0 x5_1).f2) == ((rd_T44 l1 x5_1).f2)) || (!(((rd_T44 l0 x5_1).f3) == ((rd_T44 l1 x5_1).f3)) || (!(((rd_T44 l0 x5_1).f4) == ((rd_T44 l1 x5_1).f4)) || (!(((rd_T44 l0 x5_1).f5) == ((rd_T44 l1 x5_1).f5)) || (!(((rd_T44 l0 x5_1).f6) == ((rd_T44 l1 x5_1).f6)) || (!(((rd_T44 l0 x5_1).f7) == ((rd_T44 l1 x5_1).f7)) || (!(((rd_T44 l0 x5_1).f8) == ((rd_T44 l1 x5_1).f8)) || (!(((rd_T44 l0 x5_1).f9) == ((rd_T44 l1 x5_1).f9)))))))))))) = false := by simpa using c7
                clear c7
                have H' := Aside0.mk H
                clear H
                have p288 : 0 ≤ (x5_1 : Int) := of_decide_eq_true (by first | (with_reducible assumption) | assumption)
                have q288 : x5_1 < (l0.length : Int) := of_decide_eq_true (by first | (with_reducible assumption) | assumption)
                obtain ⟨ad288, e288, hx288_0, hx288_1, hx288_2, hx288_3, hx288_4, hx288_5, hx288_6, hx288_7, hx288_8, hx288_9⟩ := at_T44 HR0.out x5_1 p288 q288
                cases e288
                replace p288 := eq_true p288
                replace q288 := eq_true q288
                have p289 : 0 ≤ (x5_1 : Int) := of_decide_eq_true (by first | (with_reducible assumption) | assumption)
                have q289 : x5_1 < (l1.length : Int) := of_decide_eq_true (by first | (with_reducible assumption) | assumption)
                obtain ⟨ad289, e289, hx289_0, hx289_1, hx289_2, hx289_3, hx289_4, hx289_5, hx289_6, hx289_7, hx289_8, hx289_9⟩ := at_T44 HR1.out x5_1 p289 q289
                cases e289
                replace p289 := eq_true p289
                replace q289 := eq_true q289
                go_wp2
                repeat (go_quiet (fail); try go_wp2)
                go_roundg k1
                case measure => have := HK1.out; omega
                case rel => exact ⟨(wrap64 (x5_1 + 1)), (by first | rfl | (simp; done) | (simp [*]; done)), H', ⟨by have := HK1.out; omega⟩, by repeat (first | exact Drawn0.refl _ | apply Drawn0.step)⟩
            · rw [if_neg c6] at H
              exact absurd H (by simp)
          · rw [if_neg c5] at H
            exact absurd H (by simp)
        · rw [if_neg c4] at H
          have c4b0 : decide (x5_1 < (l0.length : Int)) = false := decide_eq_false c4
          clear c4
          obtain rfl := Option.some.inj H
          go_wp2
          repeat (go_quiet (fail); try go_wp2)
          go_ret
          exact ⟨by first | rfl | (simp; done) | (simp [*]; done), by repeat (first | exact Drawn0.refl _ | apply Drawn0.step)⟩
  · rw [if_neg c3] at H
    have c3b0 : ((l0.length : Int) == (l1.length : Int)) = false := beq_eq_false_iff_ne.mpr c3
    have c3b1 : ((l0.length : Int) != (l1.length : Int)) = true := bne_iff_ne.mpr c3
    have c3b2 : (l0.length == l1.length) = false := by first | simpa using c3 | (simp at c3 ⊢; omega)
    obtain rfl := Option.some.inj H
    go_enter Tryd.func22, Tryd.ntmps22
    go_wp2
    repeat (go_quiet (fail); try go_wp2)
    go_ret
    exact ⟨by first | rfl | (simp; done) | (simp [*]; done), by repeat (first | exact Drawn0.refl _ | apply Drawn0.step)⟩

-- NOT PRINTED: function 8 (vesperlaw12_TapeSpans)

end Go.Proofs.YtdibgdiiamcmfaaDoor.PTape
