-- PRINTED BY print.sh 35421559b90ae4d0a3588c463048766b98c2df88dd9212a6774a882060cdf62d: not written by this session
import Derived.Test.YtffbkmcaecmmgaaPInterBoundsx0
import Derived.Test.YtffbkmcaecmmgaaPInterBoundsx2
import Derived.Test.YtffbkmcaecmmgaaPInterBoundsx3
namespace Go.Proofs.Ytffbkmcaecmmgaa.PInterBounds
open Go.RowKit Go.Proofs.YtffbkmcaecmmgaaW.PrintWords Go.Proofs.YtffbkmcaecmmgaaW.PrintLast Go.Proofs.YtffbkmcaecmmgaaW.PrintMore
attribute [local go_sem] max2_int min2_int max_two min_two max_three min_three max_four min_four   -- for this text's walks alone
set_option linter.unusedVariables false
set_option linter.unusedSimpArgs false

/-! ### vesperref16_Decode: function 10 -/
def vesperref16_Decode.l0 : Nat → Int → List (S36) → Int → Option (Int × Int × Int × Int × Int × Int × Bool)
  | 0, _, _, _ => none
  | k + 1, x0, x4, x5 => if x5 ≥ 0 then (if 0 ≤ x5 then (if x5 < (x4.length : Int) then ((vesperref16_Word_order.f k ((rd_T36 x4 x5).f0) ((rd_T36 x4 x5).f1) ((rd_T36 x4 x5).f2) ((rd_T36 x4 x5).f3) x0).bind fun bt130 => ((vesperref16_Word_word.f k ((rd_T36 x4 x5).f0) ((rd_T36 x4 x5).f1) ((rd_T36 x4 x5).f2) ((rd_T36 x4 x5).f3) bt130.1 bt130.2.1 bt130.2.2.1 bt130.2.2.2.1 bt130.2.2.2.2.1 bt130.2.2.2.2.2).bind fun t138 => (if t138 = x0 then (if ((rd_T36 x4 x5).f0) = 1 then (if x0 < 4096 then (some (bt130.1, bt130.2.1, bt130.2.2.1, bt130.2.2.2.1, bt130.2.2.2.2.1, bt130.2.2.2.2.2, true)) else (vesperref16_Decode.l0 k x0 x4 (wrap64 (x5 - 1)))) else (some (bt130.1, bt130.2.1, bt130.2.2.1, bt130.2.2.2.1, bt130.2.2.2.2.1, bt130.2.2.2.2.2, true))) else (vesperref16_Decode.l0 k x0 x4 (wrap64 (x5 - 1)))))) else (none)) else (none)) else (some (0, 0, 0, 0, 0, 0, false))
def vesperref16_Decode.f (k : Nat) (a0 : Int) : Option (Int × Int × Int × Int × Int × Int × Bool) := (vesperref16_Words.f).bind fun t126 => (vesperref16_Decode.l0 k a0 t126 (wrap64 ((t126.length : Int) - 1)))
theorem vesperref16_Decode.mono_l : ∀ k, (∀ y0 y1 y2, LeO (vesperref16_Decode.l0 k y0 y1 y2) (vesperref16_Decode.l0 (k + 1) y0 y1 y2))
  | 0 => fun _ _ _ r h => by simp [vesperref16_Decode.l0] at h
  | k + 1 => by
    have ih0 := vesperref16_Decode.mono_l k
    · intro y0 y1 y2
      unfold vesperref16_Decode.l0
      repeat' first
      | (with_reducible exact ih0 _ _ _)
      | (with_reducible exact vesperref16_Word_order.mono _ _ _ _ _ _)
      | (with_reducible exact vesperref16_Word_word.mono _ _ _ _ _ _ _ _ _ _ _)
      | (with_reducible exact LeO.refl _)
      | (with_reducible exact LeO.none _)
      | (with_reducible refine LeO.ite ?_ ?_)
      | (with_reducible refine LeO.bind ?_ (fun _ => ?_))
      | exact ih0 _ _ _
      | exact vesperref16_Word_order.mono _ _ _ _ _ _
      | exact vesperref16_Word_word.mono _ _ _ _ _ _ _ _ _ _ _
      | exact LeO.none _
      | refine LeO.ite ?_ ?_
      | refine LeO.bind ?_ (fun _ => ?_)
theorem vesperref16_Decode.mono : ∀ a0 k, LeO (vesperref16_Decode.f k a0) (vesperref16_Decode.f (k + 1) a0) := by
  intro a0 k
  have ih0 := vesperref16_Decode.mono_l k
  unfold vesperref16_Decode.f
  repeat' first
      | (with_reducible exact ih0 _ _ _)
      | (with_reducible exact vesperref16_Word_order.mono _ _ _ _ _ _)
      | (with_reducible exact vesperref16_Word_word.mono _ _ _ _ _ _ _ _ _ _ _)
      | (with_reducible exact LeO.refl _)
      | (with_reducible exact LeO.none _)
      | (with_reducible refine LeO.ite ?_ ?_)
      | (with_reducible refine LeO.bind ?_ (fun _ => ?_))
      | exact ih0 _ _ _
      | exact vesperref16_Word_order.mono _ _ _ _ _ _
      | exact vesperref16_Word_word.mono _ _ _ _ _ _ _ _ _ _ _
      | exact LeO.none _
      | refine LeO.ite ?_ ?_
      | refine LeO.bind ?_ (fun _ => ?_)
def vesperref16_Decode.T6 : Bool × List (List Nat × List Nat) := (true, [([], []), ([], []), ([0, 1], [0, 1]), ([2], [2]), ([], []), ([3, 4], [3, 4]), ([], []), ([5, 6], [5, 6]), ([7, 5], [7]), ([8], [8]), ([8], [8]), ([9, 10, 8], [8, 9, 10]), ([11, 8], [8, 11]), ([12, 8], [8, 12]), ([13, 8], [8, 13]), ([14, 8, 8], [8, 14]), ([15], [15]), ([16, 15], [15, 16]), ([15, 17, 8], [8, 15, 17]), ([8, 18], [8, 18])])
def vesperref16_Decode.B6 : List Nat := [0, 0, 3, 7, 0, 31, 0, 127, 255, 511, 511, 2047, 4095, 8191, 16383, 32767, 65535, 131071, 262143, 524287]
theorem vesperref16_Decode.tab6 : rtab .any (opsOf Try.f10 6) = vesperref16_Decode.T6 := by kernel_rfl
theorem vesperref16_Decode.bits6 : waitsOk vesperref16_Decode.T6.2 vesperref16_Decode.B6 = true := by kernel_rfl
set_option maxHeartbeats 8000000 in
set_option maxRecDepth 100000 in
theorem vesperref16_Decode.calls (k : Nat) (a0 : Int) (r1 : Int) (r2 : Int) (r3 : Int) (r4 : Int) (r5 : Int) (r6 : Int) (r7 : Bool) (w : World) (h : vesperref16_Decode.f k a0 = some (r1, r2, r3, r4, r5, r6, r7)) :
    Calls Try.prog 10 #[.int .u16 a0] w fun e w' => e = .returned (.tuple #[.agg #[.int .u8 r1, .int .u8 r2, .int .u8 r3, .int .u8 r4, .int .u8 r5, .int .u16 r6], .bool r7]) ∧ Below w.heap.size w w' := by
  have hu25 := Try.underlying25
  have hu36 := Try.underlying36
  have HB := Aside0.mk (Below.refl w.heap.size w)
  have H : ((vesperref16_Words.f).bind fun t126 => (vesperref16_Decode.l0 k a0 t126 (wrap64 ((t126.length : Int) - 1)))) = some (r1, r2, r3, r4, r5, r6, r7) := h
  clear h
  replace H := Option.bind_eq_some_iff.mp H
  obtain ⟨t126, A20, H⟩ := H
  replace H : (vesperref16_Decode.l0 k a0 t126 (wrap64 ((t126.length : Int) - 1))) = some (r1, r2, r3, r4, r5, r6, r7) := H
  have A2 := Aside0.mk A20
  clear A20
  have H' := Aside0.mk H
  clear H
  go_enter Try.func10, Try.ntmps10
  go_wp2_with (first | ((with_reducible refine gate_dst (N := 2) rfl ?_); refine box_event ?hg (N := 2) ?hd (cs := #[.int .u8 0, .int .u8 0, .int .u8 0, .int .u8 0, .int .u8 0, .int .u16 0]) (t := 25) ?hr ?_; (case hd => rfl); (case hg => rfl); (case hr => first | (go_simp; done) | (go_simp; rfl)); intro gb125 hg w3 hbox hb; have n0_ := Aside0.mk (below_step (by repeat (first | (with_reducible first | exact HB.out | apply below_alloc | apply pw_below_drewN | apply below_drew1) | exact HB.out)) hb); have n1_ := Aside0.mk (hbox); have n2_ := Aside0.mk ((by rw [hg]; exact (below_size (by repeat (first | (with_reducible first | exact HB.out | apply below_alloc | apply pw_below_drewN | apply below_drew1) | exact HB.out))) : w.heap.size ≤ gb125)); have n3_ := Aside0.mk ((by rw [hg]; exact (below_size (by repeat (first | (with_reducible first | exact HB.out | apply below_alloc | apply pw_below_drewN | apply below_drew1) | exact HB.out))) : w.heap.size ≤ gb125)); clear HB; have HB := n0_; have BK125 := n1_; have GW125 := n2_; have GE125 := n3_; clear n0_ n1_ n2_ n3_; clear hb hbox hg) | ((with_reducible refine gate_callee (f := 8) rfl ?_); refine goesL_ (some 7) rfl rfl Try.func8 (by kernel_rfl) rfl #[] rfl (by (try simp only [List.map_toArray, List.map_cons, List.map_nil]); first | done | rfl | (simp only [List.length_drop, List.length_take]; rfl)) ?_; (with_reducible refine (vesperref16_Words.calls  t126 _ A2.out).mono ?_); rintro e w4 ⟨v127, rfl, ho0, hb⟩; refine ⟨_, rfl, ?_⟩; have n0_ := Aside0.mk (Kd.R_lower ho0 (below_size (by repeat (first | (with_reducible first | exact HB.out | apply below_alloc | apply pw_below_drewN | apply below_drew1 | refine below_set ?_ GE125.out) | exact HB.out)))); have n1_ := Aside0.mk (blk_below (g := gb125) (o := .cells #[.int .u8 0, .int .u8 0, .int .u8 0, .int .u8 0, .int .u8 0, .int .u16 0] 25 (0, 0)) (by (with_reducible repeat (first | refine blk_drewN ?_ _ | refine blk_drew ?_ | refine blk_alloc ?_ _)); exact BK125.out) hb); have n2_ := Aside0.mk (below_step (by repeat (first | (with_reducible first | exact HB.out | apply below_alloc | apply pw_below_drewN | apply below_drew1 | refine below_set ?_ GE125.out) | exact HB.out)) hb); clear BK125; clear HB; have HO128 := n0_; have BK125 := n1_; have HB := n2_; clear n0_ n1_ n2_; (try clear hb); (try clear hb2); (try clear hk); (try clear hi); (try clear ho0); obtain ⟨Ao5, co5, eo5⟩ := Kd.R_slice HO128.out; subst eo5))
  go_loopg [5] k (fun kq v5 w' => ∃ (x5_1 : Int) (x126000_1 : Int) (x126001_1 : Int) (x126002_1 : Int) (x126003_1 : Int) (x126004_1 : Int) (x126005_1 : Int), v5 = .int .i64 x5_1 ∧ Aside0 (vesperref16_Decode.l0 kq a0 t126 x5_1 = some (r1, r2, r3, r4, r5, r6, r7)) ∧ Aside0 (kq ≤ k) ∧ Aside0 (Kd.R k36 36 w' w.heap.size (fun _ => True) (.slice Ao5 t126.length co5) t126) ∧ Aside0 (w'.heap[gb125]? = some (.cells #[.int .u8 x126000_1, .int .u8 x126001_1, .int .u8 x126002_1, .int .u8 x126003_1, .int .u8 x126004_1, .int .u16 x126005_1] 25 (0, 0))) ∧ Aside0 (Below w.heap.size w w'))
  case atStart => exact ⟨(wrap64 ((t126.length : Int) - 1)), (0), (0), (0), (0), (0), (0), (by first | rfl | (simp; done) | (simp [*]; done)), H', ⟨Nat.le_refl _⟩, ⟨by (with_reducible repeat (first | apply Kd.R_alloc | apply Kd.R_drewN | apply Kd.R_drew)); exact HO128.out⟩, ⟨by (with_reducible repeat (first | refine blk_drewN ?_ _ | refine blk_drew ?_ | refine blk_alloc ?_ _)); exact BK125.out⟩, ⟨by repeat (first | (with_reducible first | exact HB.out | apply below_alloc | apply pw_below_drewN | apply below_drew1 | refine below_set ?_ GE125.out) | exact HB.out)⟩⟩
  case round =>
    clear H'
    try clear c1
    try clear p2
    obtain ⟨x5_1, x126000_1, x126001_1, x126002_1, x126003_1, x126004_1, x126005_1, rfl, HA, HK1, HO_4, BK125, HB⟩ := hrel
    cases gk with
    | zero => exact absurd HA.out (by simp [vesperref16_Decode.l0])
    | succ k1 =>
      have H := HA.out
      clear HA
      simp only [vesperref16_Decode.l0] at H
      by_cases c6 : x5_1 ≥ 0
      · rw [if_pos c6] at H
        have c6b0 : decide (0 ≤ x5_1) = true := decide_eq_true c6
        clear c6
        by_cases c7 : 0 ≤ x5_1
        · rw [if_pos c7] at H
          have c7b0 : decide (0 ≤ x5_1) = true := decide_eq_true c7
          clear c7
          by_cases c8 : x5_1 < (t126.length : Int)
          · rw [if_pos c8] at H
            have c8b0 : decide (x5_1 < (t126.length : Int)) = true := decide_eq_true c8
            clear c8
            replace H := Option.bind_eq_some_iff.mp H
            obtain ⟨⟨t130, t131, t132, t133, t134, t135⟩, A90, H⟩ := H
            replace H : ((vesperref16_Word_word.f k1 ((rd_T36 t126 x5_1).f0) ((rd_T36 t126 x5_1).f1) ((rd_T36 t126 x5_1).f2) ((rd_T36 t126 x5_1).f3) t130 t131 t132 t133 t134 t135).bind fun t138 => (if t138 = a0 then (if ((rd_T36 t126 x5_1).f0) = 1 then (if a0 < 4096 then (some (t130, t131, t132, t133, t134, t135, true)) else (vesperref16_Decode.l0 k1 a0 t126 (wrap64 (x5_1 - 1)))) else (some (t130, t131, t132, t133, t134, t135, true))) else (vesperref16_Decode.l0 k1 a0 t126 (wrap64 (x5_1 - 1))))) = some (r1, r2, r3, r4, r5, r6, r7) := H
            have A9 := Aside0.mk A90
            clear A90
            replace H := Option.bind_eq_some_iff.mp H
            obtain ⟨t138, A100, H⟩ := H
            replace H : (if t138 = a0 then (if ((rd_T36 t126 x5_1).f0) = 1 then (if a0 < 4096 then (some (t130, t131, t132, t133, t134, t135, true)) else (vesperref16_Decode.l0 k1 a0 t126 (wrap64 (x5_1 - 1)))) else (some (t130, t131, t132, t133, t134, t135, true))) else (vesperref16_Decode.l0 k1 a0 t126 (wrap64 (x5_1 - 1)))) = some (r1, r2, r3, r4, r5, r6, r7) := H
            have A10 := Aside0.mk A100
            clear A100
            by_cases c11 : t138 = a0
            · rw [if_pos c11] at H
              have c11b0 : (t138 == a0) = true := beq_iff_eq.mpr c11
              have c11b1 : (t138 != a0) = false := bne_eq_false_iff_eq.mpr c11
              clear c11
              by_cases c12 : ((rd_T36 t126 x5_1).f0) = 1
              · rw [if_pos c12] at H
                have c12b0 : (((rd_T36 t126 x5_1).f0) == 1) = true := beq_iff_eq.mpr c12
                have c12b1 : (((rd_T36 t126 x5_1).f0) != 1) = false := bne_eq_false_iff_eq.mpr c12
                clear c12
                by_cases c13 : a0 < 4096
                · rw [if_pos c13] at H
                  have c13b0 : decide (a0 < 4096) = true := decide_eq_true c13
                  clear c13
                  simp only [Option.some.injEq, Prod.mk.injEq] at H
                  obtain ⟨rfl, rfl, rfl, rfl, rfl, rfl, rfl⟩ := H
                  have p129 : 0 ≤ (x5_1 : Int) := of_decide_eq_true (by first | (with_reducible assumption) | assumption)
                  have q129 : x5_1 < (t126.length : Int) := of_decide_eq_true (by first | (with_reducible assumption) | assumption)
                  obtain ⟨ad129, e129, hx129_0, hx129_1, hx129_2, hx129_3⟩ := at_T36 (Kd.R_reads' HO_4.out).2.2 x5_1 p129 q129
                  cases e129
                  replace p129 := eq_true p129
                  replace q129 := eq_true q129
                  try go_wp2_with (first | ((with_reducible refine gate_callee (f := 14) rfl ?_); refine goesL_ (some 20) rfl rfl Try.func14 (by kernel_rfl) rfl #[.agg #[.int .u8 ((rd_T36 t126 x5_1).f0), .int .u16 ((rd_T36 t126 x5_1).f1), .string ((rd_T36 t126 x5_1).f2), .string ((rd_T36 t126 x5_1).f3)], .int .u16 a0] rfl (by (try simp only [List.map_toArray, List.map_cons, List.map_nil]); first | done | rfl | (simp only [List.length_drop, List.length_take]; rfl)) ?_; (with_reducible refine (vesperref16_Word_order.calls k1 ((rd_T36 t126 x5_1).f0) ((rd_T36 t126 x5_1).f1) ((rd_T36 t126 x5_1).f2) ((rd_T36 t126 x5_1).f3) a0 t130 t131 t132 t133 t134 t135 _ A9.out).mono ?_); rintro e w14 ⟨rfl, hb⟩; refine ⟨_, rfl, ?_⟩; have n0_ := Aside0.mk (Kd.R_below (by (with_reducible repeat (first | apply Kd.R_alloc | apply Kd.R_drewN | apply Kd.R_drew)); exact HO_4.out) hb); have n1_ := Aside0.mk (blk_below (g := gb125) (o := .cells #[.int .u8 x126000_1, .int .u8 x126001_1, .int .u8 x126002_1, .int .u8 x126003_1, .int .u8 x126004_1, .int .u16 x126005_1] 25 (0, 0)) (by (with_reducible repeat (first | refine blk_drewN ?_ _ | refine blk_drew ?_ | refine blk_alloc ?_ _)); exact BK125.out) hb); have n2_ := Aside0.mk (below_step (by repeat (first | (with_reducible first | exact HB.out | apply below_alloc | apply pw_below_drewN | apply below_drew1 | refine below_set ?_ GE125.out) | exact HB.out)) hb); clear HO_4; clear BK125; clear HB; have HO_4 := n0_; have BK125 := n1_; have HB := n2_; clear n0_ n1_ n2_; (try clear hb); (try clear hb2); (try clear hk); (try clear hi)) | ((with_reducible refine gate_dst (N := 6) rfl ?_); refine box_event ?hg (N := 6) ?hd (cs := #[.int .u8 0, .int .u8 0, .int .u8 0, .int .u8 0, .int .u8 0, .int .u16 0]) (t := 25) ?hr ?_; (case hd => rfl); (case hg => rfl); (case hr => first | (go_simp; done) | (go_simp; rfl)); intro gb136 hg w15 hbox hb; have n0_ := Aside0.mk (Kd.R_below (by (with_reducible repeat (first | apply Kd.R_alloc | apply Kd.R_drewN | apply Kd.R_drew)); exact HO_4.out) hb); have n1_ := Aside0.mk (blk_below (g := gb125) (o := .cells #[.int .u8 x126000_1, .int .u8 x126001_1, .int .u8 x126002_1, .int .u8 x126003_1, .int .u8 x126004_1, .int .u16 x126005_1] 25 (0, 0)) (by (with_reducible repeat (first | refine blk_drewN ?_ _ | refine blk_drew ?_ | refine blk_alloc ?_ _)); exact BK125.out) hb); have n2_ := Aside0.mk (below_step (by repeat (first | (with_reducible first | exact HB.out | apply below_alloc | apply pw_below_drewN | apply below_drew1 | refine below_set ?_ GE125.out) | exact HB.out)) hb); have n3_ := Aside0.mk (hbox); have n4_ := Aside0.mk ((by rw [hg]; exact (below_size (by repeat (first | (with_reducible first | exact HB.out | apply below_alloc | apply pw_below_drewN | apply below_drew1 | refine below_set ?_ GE125.out) | exact HB.out))) : w.heap.size ≤ gb136)); have n5_ := Aside0.mk ((by rw [hg]; exact (below_size (by repeat (first | (with_reducible first | exact HB.out | apply below_alloc | apply pw_below_drewN | apply below_drew1 | refine below_set ?_ GE125.out) | exact HB.out))) : w.heap.size ≤ gb136)); have n6_ := Aside0.mk ((by rw [hg]; exact Nat.ne_of_lt (blk_lt (g := gb125) (o := .cells #[.int .u8 x126000_1, .int .u8 x126001_1, .int .u8 x126002_1, .int .u8 x126003_1, .int .u8 x126004_1, .int .u16 x126005_1] 25 (0, 0)) (by (with_reducible repeat (first | refine blk_drewN ?_ _ | refine blk_drew ?_ | refine blk_alloc ?_ _)); exact BK125.out)) : gb125 ≠ gb136)); have n7_ := Aside0.mk ((by rw [hg]; exact Nat.ne_of_gt (blk_lt (g := gb125) (o := .cells #[.int .u8 x126000_1, .int .u8 x126001_1, .int .u8 x126002_1, .int .u8 x126003_1, .int .u8 x126004_1, .int .u16 x126005_1] 25 (0, 0)) (by (with_reducible repeat (first | refine blk_drewN ?_ _ | refine blk_drew ?_ | refine blk_alloc ?_ _)); exact BK125.out)) : gb136 ≠ gb125)); clear HO_4; clear BK125; clear HB; have HO_4 := n0_; have BK125 := n1_; have HB := n2_; have BK136 := n3_; have GW136 := n4_; have GE136 := n5_; have NB125_136 := n6_; have NB136_125 := n7_; clear n0_ n1_ n2_ n3_ n4_ n5_ n6_ n7_; clear hb hbox hg; have hnb16 := NB136_125.out; have hnc16 := NB125_136.out; have hcz17_0 : w15.cell? ⟨gb136, 0, none⟩ = some (.int .u8 0) := (blk_cell BK136.out 0).trans rfl; have hcz17_1 : w15.cell? ⟨gb136, 1, none⟩ = some (.int .u8 0) := (blk_cell BK136.out 1).trans rfl; have hcz17_2 : w15.cell? ⟨gb136, 2, none⟩ = some (.int .u8 0) := (blk_cell BK136.out 2).trans rfl; have hcz17_3 : w15.cell? ⟨gb136, 3, none⟩ = some (.int .u8 0) := (blk_cell BK136.out 3).trans rfl; have hcz17_4 : w15.cell? ⟨gb136, 4, none⟩ = some (.int .u8 0) := (blk_cell BK136.out 4).trans rfl; have hcz17_5 : w15.cell? ⟨gb136, 5, none⟩ = some (.int .u16 0) := (blk_cell BK136.out 5).trans rfl; have hfz17_0 := blk_frozen BK136.out 0; have hfz17_1 := blk_frozen BK136.out 1; have hfz17_2 := blk_frozen BK136.out 2; have hfz17_3 := blk_frozen BK136.out 3; have hfz17_4 := blk_frozen BK136.out 4; have hfz17_5 := blk_frozen BK136.out 5))
                  have n0_ : Aside0 (Kd.R k36 36 ((((((w15.setCell ⟨gb136, 0, none⟩ (.int .u8 t130)).setCell ⟨gb136, 1, none⟩ (.int .u8 t131)).setCell ⟨gb136, 2, none⟩ (.int .u8 t132)).setCell ⟨gb136, 3, none⟩ (.int .u8 t133)).setCell ⟨gb136, 4, none⟩ (.int .u8 t134)).setCell ⟨gb136, 5, none⟩ (.int .u16 t135)) w.heap.size (fun _ => True) (.slice (some ad129) t126.length co5) t126) := ⟨by (with_reducible repeat (first | apply Kd.R_alloc | apply Kd.R_drewN | apply Kd.R_drew)); exact Kd.R_mono (Kd.R_far (p := ⟨gb136, 5, none⟩) (Kd.R_far (p := ⟨gb136, 4, none⟩) (Kd.R_far (p := ⟨gb136, 3, none⟩) (Kd.R_far (p := ⟨gb136, 2, none⟩) (Kd.R_far (p := ⟨gb136, 1, none⟩) (Kd.R_far (p := ⟨gb136, 0, none⟩) (Kd.R_types HO_4.out BK136.out (by decide)) (fun _ hk => hk.2) (.int .u8 t130)) (fun _ hk => hk.2) (.int .u8 t131)) (fun _ hk => hk.2) (.int .u8 t132)) (fun _ hk => hk.2) (.int .u8 t133)) (fun _ hk => hk.2) (.int .u8 t134)) (fun _ hk => hk.2) (.int .u16 t135)) (fun _ hk => trivial)⟩
                  have n1_ : Aside0 (((((((w15.setCell ⟨gb136, 0, none⟩ (.int .u8 t130)).setCell ⟨gb136, 1, none⟩ (.int .u8 t131)).setCell ⟨gb136, 2, none⟩ (.int .u8 t132)).setCell ⟨gb136, 3, none⟩ (.int .u8 t133)).setCell ⟨gb136, 4, none⟩ (.int .u8 t134)).setCell ⟨gb136, 5, none⟩ (.int .u16 t135)).heap[gb125]? = some (.cells #[.int .u8 x126000_1, .int .u8 x126001_1, .int .u8 x126002_1, .int .u8 x126003_1, .int .u8 x126004_1, .int .u16 x126005_1] 25 (0, 0))) := ⟨by (with_reducible repeat (first | refine blk_drewN ?_ _ | refine blk_drew ?_ | refine blk_alloc ?_ _)); refine blk_far ?_ NB125_136.out _; (with_reducible repeat (first | refine blk_drewN ?_ _ | refine blk_drew ?_ | refine blk_alloc ?_ _)); refine blk_far ?_ NB125_136.out _; (with_reducible repeat (first | refine blk_drewN ?_ _ | refine blk_drew ?_ | refine blk_alloc ?_ _)); refine blk_far ?_ NB125_136.out _; (with_reducible repeat (first | refine blk_drewN ?_ _ | refine blk_drew ?_ | refine blk_alloc ?_ _)); refine blk_far ?_ NB125_136.out _; (with_reducible repeat (first | refine blk_drewN ?_ _ | refine blk_drew ?_ | refine blk_alloc ?_ _)); refine blk_far ?_ NB125_136.out _; (with_reducible repeat (first | refine blk_drewN ?_ _ | refine blk_drew ?_ | refine blk_alloc ?_ _)); refine blk_far ?_ NB125_136.out _; (with_reducible repeat (first | refine blk_drewN ?_ _ | refine blk_drew ?_ | refine blk_alloc ?_ _)); exact BK125.out⟩
                  have n2_ : Aside0 (((((((w15.setCell ⟨gb136, 0, none⟩ (.int .u8 t130)).setCell ⟨gb136, 1, none⟩ (.int .u8 t131)).setCell ⟨gb136, 2, none⟩ (.int .u8 t132)).setCell ⟨gb136, 3, none⟩ (.int .u8 t133)).setCell ⟨gb136, 4, none⟩ (.int .u8 t134)).setCell ⟨gb136, 5, none⟩ (.int .u16 t135)).heap[gb136]? = some (.cells #[.int .u8 t130, .int .u8 t131, .int .u8 t132, .int .u8 t133, .int .u8 t134, .int .u16 t135] 25 (0, 0))) := ⟨by (with_reducible repeat (first | refine blk_drewN ?_ _ | refine blk_drew ?_ | refine blk_alloc ?_ _)); refine blk_put (cs := #[.int .u8 t130, .int .u8 t131, .int .u8 t132, .int .u8 t133, .int .u8 t134, .int .u16 0]) ?_ 5 _ rfl; (with_reducible repeat (first | refine blk_drewN ?_ _ | refine blk_drew ?_ | refine blk_alloc ?_ _)); refine blk_put (cs := #[.int .u8 t130, .int .u8 t131, .int .u8 t132, .int .u8 t133, .int .u8 0, .int .u16 0]) ?_ 4 _ rfl; (with_reducible repeat (first | refine blk_drewN ?_ _ | refine blk_drew ?_ | refine blk_alloc ?_ _)); refine blk_put (cs := #[.int .u8 t130, .int .u8 t131, .int .u8 t132, .int .u8 0, .int .u8 0, .int .u16 0]) ?_ 3 _ rfl; (with_reducible repeat (first | refine blk_drewN ?_ _ | refine blk_drew ?_ | refine blk_alloc ?_ _)); refine blk_put (cs := #[.int .u8 t130, .int .u8 t131, .int .u8 0, .int .u8 0, .int .u8 0, .int .u16 0]) ?_ 2 _ rfl; (with_reducible repeat (first | refine blk_drewN ?_ _ | refine blk_drew ?_ | refine blk_alloc ?_ _)); refine blk_put (cs := #[.int .u8 t130, .int .u8 0, .int .u8 0, .int .u8 0, .int .u8 0, .int .u16 0]) ?_ 1 _ rfl; (with_reducible repeat (first | refine blk_drewN ?_ _ | refine blk_drew ?_ | refine blk_alloc ?_ _)); refine blk_put (cs := #[.int .u8 0, .int .u8 0, .int .u8 0, .int .u8 0, .int .u8 0, .int .u16 0]) ?_ 0 _ rfl; (with_reducible repeat (first | refine blk_drewN ?_ _ | refine blk_drew ?_ | refine blk_alloc ?_ _)); exact BK136.out⟩
                  have n3_ : Aside0 (Below w.heap.size w ((((((w15.setCell ⟨gb136, 0, none⟩ (.int .u8 t130)).setCell ⟨gb136, 1, none⟩ (.int .u8 t131)).setCell ⟨gb136, 2, none⟩ (.int .u8 t132)).setCell ⟨gb136, 3, none⟩ (.int .u8 t133)).setCell ⟨gb136, 4, none⟩ (.int .u8 t134)).setCell ⟨gb136, 5, none⟩ (.int .u16 t135))) := ⟨by repeat (first | (with_reducible first | exact HB.out | apply below_alloc | apply pw_below_drewN | apply below_drew1 | refine below_set ?_ GE125.out | refine below_set ?_ GE136.out) | exact HB.out)⟩
                  (try clear HO_4)
                  (try clear BK125)
                  (try clear BK136)
                  (try clear HB)
                  generalize ((((((w15.setCell ⟨gb136, 0, none⟩ (.int .u8 t130)).setCell ⟨gb136, 1, none⟩ (.int .u8 t131)).setCell ⟨gb136, 2, none⟩ (.int .u8 t132)).setCell ⟨gb136, 3, none⟩ (.int .u8 t133)).setCell ⟨gb136, 4, none⟩ (.int .u8 t134)).setCell ⟨gb136, 5, none⟩ (.int .u16 t135)) = w18 at n0_ n1_ n2_ n3_ ⊢
                  have HO_4 := n0_
                  have BK125 := n1_
                  have BK136 := n2_
                  have HB := n3_
                  clear n0_ n1_ n2_ n3_
                  have n0_ := Aside0.mk (Kd.R_drew HO_4.out)
                  have n1_ := Aside0.mk (blk_drew BK125.out)
                  have n2_ := Aside0.mk (blk_drew BK136.out)
                  have n3_ := Aside0.mk (below_drew1 HB.out)
                  clear HO_4
                  clear BK125
                  clear BK136
                  clear HB
                  have HO_4 := n0_
                  have BK125 := n1_
                  have BK136 := n2_
                  have HB := n3_
                  clear n0_ n1_ n2_ n3_
                  have p137 : 0 ≤ (x5_1 : Int) := of_decide_eq_true (by first | (with_reducible assumption) | assumption)
                  have q137 : x5_1 < (t126.length : Int) := of_decide_eq_true (by first | (with_reducible assumption) | assumption)
                  obtain ⟨ad137, e137, hx137_0, hx137_1, hx137_2, hx137_3⟩ := at_T36 (Kd.R_reads' HO_4.out).2.2 x5_1 p137 q137
                  obtain rfl : ad129 = ad137 := (by injection e137)
                  replace p137 := eq_true p137
                  replace q137 := eq_true q137
                  have p139 : 0 ≤ (x5_1 : Int) := of_decide_eq_true (by first | (with_reducible assumption) | assumption)
                  have q139 : x5_1 < (t126.length : Int) := of_decide_eq_true (by first | (with_reducible assumption) | assumption)
                  obtain ⟨ad139, e139, hx139_0, hx139_1, hx139_2, hx139_3⟩ := at_T36 (Kd.R_reads' HO_4.out).2.2 x5_1 p139 q139
                  obtain rfl : ad129 = ad139 := (by injection e139)
                  replace p139 := eq_true p139
                  replace q139 := eq_true q139
                  refine start_ (n := 20) (S := fun w' => w'.cell? ⟨gb136, 0, none⟩ = some (.int .u8 t130) ∧ w'.cell? ⟨gb136, 1, none⟩ = some (.int .u8 t131) ∧ w'.cell? ⟨gb136, 2, none⟩ = some (.int .u8 t132) ∧ w'.cell? ⟨gb136, 3, none⟩ = some (.int .u8 t133) ∧ w'.cell? ⟨gb136, 4, none⟩ = some (.int .u8 t134) ∧ w'.cell? ⟨gb136, 5, none⟩ = some (.int .u16 t135) ∧ w'.cell? (ad129.add ((x5_1).toNat * 4)) = some (.int .u8 ((rd_T36 t126 x5_1).f0)) ∧ w'.cell? ⟨(ad129.add ((x5_1).toNat * 4)).block, (ad129.add ((x5_1).toNat * 4)).off + 1, none⟩ = some (.int .u16 ((rd_T36 t126 x5_1).f1)) ∧ w'.cell? ⟨(ad129.add ((x5_1).toNat * 4)).block, (ad129.add ((x5_1).toNat * 4)).off + 2, none⟩ = some (.string ((rd_T36 t126 x5_1).f2)) ∧ w'.cell? ⟨(ad129.add ((x5_1).toNat * 4)).block, (ad129.add ((x5_1).toNat * 4)).off + 3, none⟩ = some (.string ((rd_T36 t126 x5_1).f3)) ∧ w'.cell? (ad129.add ((x5_1).toNat * 4)) = some (.int .u8 ((rd_T36 t126 x5_1).f0)) ∧ w'.cell? ⟨(ad129.add ((x5_1).toNat * 4)).block, (ad129.add ((x5_1).toNat * 4)).off + 1, none⟩ = some (.int .u16 ((rd_T36 t126 x5_1).f1)) ∧ w'.cell? ⟨(ad129.add ((x5_1).toNat * 4)).block, (ad129.add ((x5_1).toNat * 4)).off + 2, none⟩ = some (.string ((rd_T36 t126 x5_1).f2)) ∧ w'.cell? ⟨(ad129.add ((x5_1).toNat * 4)).block, (ad129.add ((x5_1).toNat * 4)).off + 3, none⟩ = some (.string ((rd_T36 t126 x5_1).f3))) (ds := []) #[false, false, false, false, false, false, false, false, false, false, false, false, false, false, false, false, false, false, false, false] (by kernel_rfl) rfl rfl ⟨(blk_cell BK136.out 0).trans rfl, (blk_cell BK136.out 1).trans rfl, (blk_cell BK136.out 2).trans rfl, (blk_cell BK136.out 3).trans rfl, (blk_cell BK136.out 4).trans rfl, (blk_cell BK136.out 5).trans rfl, hx137_0, hx137_1, hx137_2, hx137_3, hx139_0, hx139_1, hx139_2, hx139_3⟩ (fun hHeld => ?_); refine with_tabW vesperref16_Decode.tab6 vesperref16_Decode.bits6 (fun HT_ HW_ => ?_)
                  generalize w18.drew = w19 at HO_4 BK125 BK136 HB hx137_0 hx137_1 hx137_2 hx137_3 hx139_0 hx139_1 hx139_2 hx139_3 hHeld ⊢
                  refine pure_ (i := 0) (N := some 21) (v := ?_) (a' := ?_) #[true, false, false, false, false, false, false, false, false, false, false, false, false, false, false, false, false, false, false, false] rfl rfl (any_of HT_.out (by kernel_rfl)) (fun _ _ _ h => h) (Or.inl ⟨by rfl, ?_⟩) ?_ ?_
                  rotate_left
                  · intro w'
                    go_simp
                    with_reducible rfl
                  rotate_left
                  · simp only [Act.put, List.setIfInBounds_toArray, List.set_cons_zero, List.set_cons_succ, i64_w, i32_w]
                    rfl
                  refine pure_ (i := 1) (N := some 22) (v := ?_) (a' := ?_) #[true, true, false, false, false, false, false, false, false, false, false, false, false, false, false, false, false, false, false, false] rfl rfl (any_of HT_.out (by kernel_rfl)) (fun _ _ _ h => h) (Or.inl ⟨by rfl, ?_⟩) ?_ ?_
                  rotate_left
                  · intro w'
                    go_simp
                    with_reducible rfl
                  rotate_left
                  · simp only [Act.put, List.setIfInBounds_toArray, List.set_cons_zero, List.set_cons_succ, i64_w, i32_w]
                    rfl
                  refine pure_ (i := 2) (N := some 23) (v := ?_) (a' := ?_) #[true, true, true, false, false, false, false, false, false, false, false, false, false, false, false, false, false, false, false, false] rfl rfl (any_of HT_.out (by kernel_rfl)) (fun _ _ _ h => h) (Or.inl ⟨by rfl, ?_⟩) ?_ ?_
                  rotate_left
                  · intro w'
                    go_simp
                    with_reducible rfl
                  rotate_left
                  · simp only [Act.put, List.setIfInBounds_toArray, List.set_cons_zero, List.set_cons_succ, i64_w, i32_w]
                    rfl
                  refine pure_ (i := 6) (N := some 27) (v := ?_) (a' := ?_) #[true, true, true, false, false, false, true, false, false, false, false, false, false, false, false, false, false, false, false, false] rfl rfl (any_of HT_.out (by kernel_rfl)) (fun _ _ _ h => h) (Or.inl ⟨by rfl, ?_⟩) ?_ ?_
                  rotate_left
                  · intro w'
                    go_simp
                    with_reducible rfl
                  rotate_left
                  · simp only [Act.put, List.setIfInBounds_toArray, List.set_cons_zero, List.set_cons_succ, i64_w, i32_w]
                    rfl
                  refine take_ (i := 3) (N := some 24) (v := ?_) (a' := ?_) #[true, true, true, true, false, false, true, false, false, false, false, false, false, false, false, false, false, false, false, false] rfl rfl (take_ofW HT_.out HW_.out (by kernel_rfl)) (fun _ _ _ h => h) (Or.inl ⟨by rfl, ?_⟩) hHeld ?_ ?_
                  rotate_left
                  · rintro w' ⟨s0, s1, s2, s3, s4, s5, s6, s7, s8, s9, s10, s11, s12, s13⟩
                    go_simp
                    with_reducible rfl
                  rotate_left
                  · simp only [Act.put, List.setIfInBounds_toArray, List.set_cons_zero, List.set_cons_succ, i64_w, i32_w]
                    rfl
                  refine take_ (i := 4) (N := some 25) (v := ?_) (a' := ?_) #[true, true, true, true, true, false, true, false, false, false, false, false, false, false, false, false, false, false, false, false] rfl rfl (take_ofW HT_.out HW_.out (by kernel_rfl)) (fun _ _ _ h => h) (Or.inl ⟨by rfl, ?_⟩) hHeld ?_ ?_
                  rotate_left
                  · rintro w' ⟨s0, s1, s2, s3, s4, s5, s6, s7, s8, s9, s10, s11, s12, s13⟩
                    go_simp
                    with_reducible rfl
                  rotate_left
                  · simp only [Act.put, List.setIfInBounds_toArray, List.set_cons_zero, List.set_cons_succ, i64_w, i32_w]
                    rfl
                  refine one_ (i := 5) (N := some 26) #[true, true, true, true, true, true, true, false, false, false, false, false, false, false, false, false, false, false, false, false] rfl rfl (one_of HT_.out (by kernel_rfl)) (by decide) (fun K hK => ?_)
                  refine goes_ Try.func9 (by kernel_rfl) rfl #[.agg #[.int .u8 ((rd_T36 t126 x5_1).f0), .int .u16 ((rd_T36 t126 x5_1).f1), .string ((rd_T36 t126 x5_1).f2), .string ((rd_T36 t126 x5_1).f3)], .agg #[.int .u8 t130, .int .u8 t131, .int .u8 t132, .int .u8 t133, .int .u8 t134, .int .u16 t135]] (by rfl) rfl rfl (by (try simp only [List.map_toArray, List.map_cons, List.map_nil]); first | done | rfl | (simp only [List.length_drop, List.length_take]; rfl)) ?_
                  with_reducible refine (vesperref16_Word_word.calls k1 ((rd_T36 t126 x5_1).f0) ((rd_T36 t126 x5_1).f1) ((rd_T36 t126 x5_1).f2) ((rd_T36 t126 x5_1).f3) t130 t131 t132 t133 t134 t135 t138 _ A10.out).mono ?_
                  rintro e w20 ⟨rfl, hb⟩
                  have HS6_ := (hb.cell (World.block_lt_of_cell? _ _ (hHeld.2.2.2.2.2.2.1))).trans (hHeld.2.2.2.2.2.2.1)
                  have HS7_ := (hb.cell (World.block_lt_of_cell? _ _ (hHeld.2.2.2.2.2.2.2.1))).trans (hHeld.2.2.2.2.2.2.2.1)
                  have HS8_ := (hb.cell (World.block_lt_of_cell? _ _ (hHeld.2.2.2.2.2.2.2.2.1))).trans (hHeld.2.2.2.2.2.2.2.2.1)
                  have HS9_ := (hb.cell (World.block_lt_of_cell? _ _ (hHeld.2.2.2.2.2.2.2.2.2.1))).trans (hHeld.2.2.2.2.2.2.2.2.2.1)
                  have HS10_ := (hb.cell (World.block_lt_of_cell? _ _ (hHeld.2.2.2.2.2.2.2.2.2.2.1))).trans (hHeld.2.2.2.2.2.2.2.2.2.2.1)
                  have HS11_ := (hb.cell (World.block_lt_of_cell? _ _ (hHeld.2.2.2.2.2.2.2.2.2.2.2.1))).trans (hHeld.2.2.2.2.2.2.2.2.2.2.2.1)
                  have HS12_ := (hb.cell (World.block_lt_of_cell? _ _ (hHeld.2.2.2.2.2.2.2.2.2.2.2.2.1))).trans (hHeld.2.2.2.2.2.2.2.2.2.2.2.2.1)
                  have HS13_ := (hb.cell (World.block_lt_of_cell? _ _ (hHeld.2.2.2.2.2.2.2.2.2.2.2.2.2))).trans (hHeld.2.2.2.2.2.2.2.2.2.2.2.2.2)
                  refine ⟨_, rfl, ?_⟩
                  have n0_ := Aside0.mk (Kd.R_below (by (with_reducible repeat (first | apply Kd.R_alloc | apply Kd.R_drewN | apply Kd.R_drew)); exact HO_4.out) hb)
                  have n1_ := Aside0.mk (blk_below (g := gb125) (o := .cells #[.int .u8 x126000_1, .int .u8 x126001_1, .int .u8 x126002_1, .int .u8 x126003_1, .int .u8 x126004_1, .int .u16 x126005_1] 25 (0, 0)) (by (with_reducible repeat (first | refine blk_drewN ?_ _ | refine blk_drew ?_ | refine blk_alloc ?_ _)); exact BK125.out) hb)
                  have n2_ := Aside0.mk (blk_below (g := gb136) (o := .cells #[.int .u8 t130, .int .u8 t131, .int .u8 t132, .int .u8 t133, .int .u8 t134, .int .u16 t135] 25 (0, 0)) (by (with_reducible repeat (first | refine blk_drewN ?_ _ | refine blk_drew ?_ | refine blk_alloc ?_ _)); exact BK136.out) hb)
                  have n3_ := Aside0.mk (below_step (by repeat (first | (with_reducible first | exact HB.out | apply below_alloc | apply pw_below_drewN | apply below_drew1 | refine below_set ?_ GE125.out | refine below_set ?_ GE136.out) | exact HB.out)) hb)
                  clear HO_4
                  clear BK125
                  clear BK136
                  clear HB
                  have HO_4 := n0_
                  have BK125 := n1_
                  have BK136 := n2_
                  have HB := n3_
                  clear n0_ n1_ n2_ n3_
                  (try clear hb)
                  (try clear hb2)
                  (try clear hk)
                  (try clear hi)
                  refine hK.out _ _ ⟨(blk_cell BK136.out 0).trans rfl, (blk_cell BK136.out 1).trans rfl, (blk_cell BK136.out 2).trans rfl, (blk_cell BK136.out 3).trans rfl, (blk_cell BK136.out 4).trans rfl, (blk_cell BK136.out 5).trans rfl, HS6_, HS7_, HS8_, HS9_, HS10_, HS11_, HS12_, HS13_⟩ (fun hHeld => ?_)
                  clear hK K
                  refine norm_ (a' := ?_) ?_ ?_
                  rotate_left
                  · show Act.put _ (some 26) _ = _
                    simp only [Act.put, List.setIfInBounds_toArray, List.set_cons_zero, List.set_cons_succ, i64_w, i32_w]
                    rfl
                  refine pure_ (i := 7) (N := some 28) (v := ?_) (a' := ?_) #[true, true, true, true, true, true, true, true, false, false, false, false, false, false, false, false, false, false, false, false] rfl rfl (any_of HT_.out (by kernel_rfl)) (fun _ _ _ h => h) (Or.inl ⟨by rfl, ?_⟩) ?_ ?_
                  rotate_left
                  · intro w'
                    go_simp
                    with_reducible rfl
                  rotate_left
                  · simp only [Act.put, List.setIfInBounds_toArray, List.set_cons_zero, List.set_cons_succ, i64_w, i32_w]
                    rfl
                  refine pure_ (i := 8) (N := some 29) (v := ?_) (a' := ?_) #[true, true, true, true, true, true, true, true, true, false, false, false, false, false, false, false, false, false, false, false] rfl rfl (any_of HT_.out (by kernel_rfl)) (fun _ _ _ h => h) (Or.inl ⟨by rfl, ?_⟩) ?_ ?_
                  rotate_left
                  · intro w'
                    go_simp
                    with_reducible rfl
                  rotate_left
                  · simp only [Act.put, List.setIfInBounds_toArray, List.set_cons_zero, List.set_cons_succ, i64_w, i32_w]
                    rfl
                  refine pure_ (i := 9) (N := some 30) (v := ?_) (a' := ?_) #[true, true, true, true, true, true, true, true, true, true, false, false, false, false, false, false, false, false, false, false] rfl rfl (any_of HT_.out (by kernel_rfl)) (fun _ _ _ h => h) (Or.inl ⟨by rfl, ?_⟩) ?_ ?_
                  rotate_left
                  · intro w'
                    go_simp
                    with_reducible rfl
                  rotate_left
                  · simp only [Act.put, List.setIfInBounds_toArray, List.set_cons_zero, List.set_cons_succ, i64_w, i32_w]
                    rfl
                  refine pure_ (i := 10) (N := some 31) (v := ?_) (a' := ?_) #[true, true, true, true, true, true, true, true, true, true, true, false, false, false, false, false, false, false, false, false] rfl rfl (any_of HT_.out (by kernel_rfl)) (fun _ _ _ h => h) (Or.inl ⟨by rfl, ?_⟩) ?_ ?_
                  rotate_left
                  · intro w'
                    go_simp
                    with_reducible rfl
                  rotate_left
                  · simp only [Act.put, List.setIfInBounds_toArray, List.set_cons_zero, List.set_cons_succ, i64_w, i32_w]
                    rfl
                  refine pure_ (i := 11) (N := some 32) (v := ?_) (a' := ?_) #[true, true, true, true, true, true, true, true, true, true, true, true, false, false, false, false, false, false, false, false] rfl rfl (any_of HT_.out (by kernel_rfl)) (fun _ _ _ h => h) (Or.inl ⟨by rfl, ?_⟩) ?_ ?_
                  rotate_left
                  · intro w'
                    go_simp
                    with_reducible rfl
                  rotate_left
                  · simp only [Act.put, List.setIfInBounds_toArray, List.set_cons_zero, List.set_cons_succ, i64_w, i32_w]
                    rfl
                  refine pure_ (i := 12) (N := some 33) (v := ?_) (a' := ?_) #[true, true, true, true, true, true, true, true, true, true, true, true, true, false, false, false, false, false, false, false] rfl rfl (any_of HT_.out (by kernel_rfl)) (fun _ _ _ h => h) (Or.inl ⟨by rfl, ?_⟩) ?_ ?_
                  rotate_left
                  · intro w'
                    go_simp
                    with_reducible rfl
                  rotate_left
                  · simp only [Act.put, List.setIfInBounds_toArray, List.set_cons_zero, List.set_cons_succ, i64_w, i32_w]
                    rfl
                  refine take_ (i := 13) (N := some 34) (v := ?_) (a' := ?_) #[true, true, true, true, true, true, true, true, true, true, true, true, true, true, false, false, false, false, false, false] rfl rfl (take_ofW HT_.out HW_.out (by kernel_rfl)) (fun _ _ _ h => h) (Or.inl ⟨by rfl, ?_⟩) hHeld ?_ ?_
                  rotate_left
                  · rintro w' ⟨s0, s1, s2, s3, s4, s5, s6, s7, s8, s9, s10, s11, s12, s13⟩
                    go_simp
                    with_reducible rfl
                  rotate_left
                  · simp only [Act.put, List.setIfInBounds_toArray, List.set_cons_zero, List.set_cons_succ, i64_w, i32_w]
                    rfl
                  refine pure_ (i := 14) (N := some 35) (v := ?_) (a' := ?_) #[true, true, true, true, true, true, true, true, true, true, true, true, true, true, true, false, false, false, false, false] rfl rfl (any_of HT_.out (by kernel_rfl)) (fun _ _ _ h => h) (Or.inl ⟨by rfl, ?_⟩) ?_ ?_
                  rotate_left
                  · intro w'
                    go_simp
                    with_reducible rfl
                  rotate_left
                  · simp only [Act.put, List.setIfInBounds_toArray, List.set_cons_zero, List.set_cons_succ, i64_w, i32_w]
                    rfl
                  refine pure_ (i := 15) (N := some 36) (v := ?_) (a' := ?_) #[true, true, true, true, true, true, true, true, true, true, true, true, true, true, true, true, false, false, false, false] rfl rfl (any_of HT_.out (by kernel_rfl)) (fun _ _ _ h => h) (Or.inl ⟨by rfl, ?_⟩) ?_ ?_
                  rotate_left
                  · intro w'
                    go_simp
                    with_reducible rfl
                  rotate_left
                  · simp only [Act.put, List.setIfInBounds_toArray, List.set_cons_zero, List.set_cons_succ, i64_w, i32_w]
                    rfl
                  refine pure_ (i := 16) (N := some 37) (v := ?_) (a' := ?_) #[true, true, true, true, true, true, true, true, true, true, true, true, true, true, true, true, true, false, false, false] rfl rfl (any_of HT_.out (by kernel_rfl)) (fun _ _ _ h => h) (Or.inl ⟨by rfl, ?_⟩) ?_ ?_
                  rotate_left
                  · intro w'
                    go_simp
                    with_reducible rfl
                  rotate_left
                  · simp only [Act.put, List.setIfInBounds_toArray, List.set_cons_zero, List.set_cons_succ, i64_w, i32_w]
                    rfl
                  refine pure_ (i := 17) (N := some 38) (v := ?_) (a' := ?_) #[true, true, true, true, true, true, true, true, true, true, true, true, true, true, true, true, true, true, false, false] rfl rfl (any_of HT_.out (by kernel_rfl)) (fun _ _ _ h => h) (Or.inl ⟨by rfl, ?_⟩) ?_ ?_
                  rotate_left
                  · intro w'
                    go_simp
                    with_reducible rfl
                  rotate_left
                  · simp only [Act.put, List.setIfInBounds_toArray, List.set_cons_zero, List.set_cons_succ, i64_w, i32_w]
                    rfl
                  refine pure_ (i := 18) (N := some 39) (v := ?_) (a' := ?_) #[true, true, true, true, true, true, true, true, true, true, true, true, true, true, true, true, true, true, true, false] rfl rfl (any_of HT_.out (by kernel_rfl)) (fun _ _ _ h => h) (Or.inl ⟨by rfl, ?_⟩) ?_ ?_
                  rotate_left
                  · intro w'
                    go_simp
                    with_reducible rfl
                  rotate_left
                  · simp only [Act.put, List.setIfInBounds_toArray, List.set_cons_zero, List.set_cons_succ, i64_w, i32_w]
                    rfl
                  refine pure_ (i := 19) (N := some 40) (v := ?_) (a' := ?_) #[true, true, true, true, true, true, true, true, true, true, true, true, true, true, true, true, true, true, true, true] rfl rfl (any_of HT_.out (by kernel_rfl)) (fun _ _ _ h => h) (Or.inl ⟨by rfl, ?_⟩) ?_ ?_
                  rotate_left
                  · intro w'
                    go_simp
                    with_reducible rfl
                  rotate_left
                  · simp only [Act.put, List.setIfInBounds_toArray, List.set_cons_zero, List.set_cons_succ, i64_w, i32_w]
                    rfl
                  refine done_ (done_of HT_.out (by kernel_rfl)) ?_
                  have hcz21_0 : w20.cell? ⟨gb136, 0, none⟩ = some (.int .u8 t130) := (blk_cell BK136.out 0).trans rfl
                  have hcz21_1 : w20.cell? ⟨gb136, 1, none⟩ = some (.int .u8 t131) := (blk_cell BK136.out 1).trans rfl
                  have hcz21_2 : w20.cell? ⟨gb136, 2, none⟩ = some (.int .u8 t132) := (blk_cell BK136.out 2).trans rfl
                  have hcz21_3 : w20.cell? ⟨gb136, 3, none⟩ = some (.int .u8 t133) := (blk_cell BK136.out 3).trans rfl
                  have hcz21_4 : w20.cell? ⟨gb136, 4, none⟩ = some (.int .u8 t134) := (blk_cell BK136.out 4).trans rfl
                  have hcz21_5 : w20.cell? ⟨gb136, 5, none⟩ = some (.int .u16 t135) := (blk_cell BK136.out 5).trans rfl
                  have hfz21_0 := blk_frozen BK136.out 0
                  have hfz21_1 := blk_frozen BK136.out 1
                  have hfz21_2 := blk_frozen BK136.out 2
                  have hfz21_3 := blk_frozen BK136.out 3
                  have hfz21_4 := blk_frozen BK136.out 4
                  have hfz21_5 := blk_frozen BK136.out 5
                  have hcz22_0 : w20.cell? ⟨gb125, 0, none⟩ = some (.int .u8 x126000_1) := (blk_cell BK125.out 0).trans rfl
                  have hcz22_1 : w20.cell? ⟨gb125, 1, none⟩ = some (.int .u8 x126001_1) := (blk_cell BK125.out 1).trans rfl
                  have hcz22_2 : w20.cell? ⟨gb125, 2, none⟩ = some (.int .u8 x126002_1) := (blk_cell BK125.out 2).trans rfl
                  have hcz22_3 : w20.cell? ⟨gb125, 3, none⟩ = some (.int .u8 x126003_1) := (blk_cell BK125.out 3).trans rfl
                  have hcz22_4 : w20.cell? ⟨gb125, 4, none⟩ = some (.int .u8 x126004_1) := (blk_cell BK125.out 4).trans rfl
                  have hcz22_5 : w20.cell? ⟨gb125, 5, none⟩ = some (.int .u16 x126005_1) := (blk_cell BK125.out 5).trans rfl
                  have hfz22_0 := blk_frozen BK125.out 0
                  have hfz22_1 := blk_frozen BK125.out 1
                  have hfz22_2 := blk_frozen BK125.out 2
                  have hfz22_3 := blk_frozen BK125.out 3
                  have hfz22_4 := blk_frozen BK125.out 4
                  have hfz22_5 := blk_frozen BK125.out 5
                  try go_wp2
                  refine bodyPost_ret (results_ct rfl _ _ gb125 25 #[.int .u8 t130, .int .u8 t131, .int .u8 t132, .int .u8 t133, .int .u8 t134, .int .u16 t135] (0, 0) _ rfl (by (with_reducible repeat (first | refine blk_drewN ?_ _ | refine blk_drew ?_ | refine blk_alloc ?_ _)); refine blk_put (cs := #[.int .u8 t130, .int .u8 t131, .int .u8 t132, .int .u8 t133, .int .u8 t134, .int .u16 x126005_1]) ?_ 5 _ rfl; (with_reducible repeat (first | refine blk_drewN ?_ _ | refine blk_drew ?_ | refine blk_alloc ?_ _)); refine blk_put (cs := #[.int .u8 t130, .int .u8 t131, .int .u8 t132, .int .u8 t133, .int .u8 x126004_1, .int .u16 x126005_1]) ?_ 4 _ rfl; (with_reducible repeat (first | refine blk_drewN ?_ _ | refine blk_drew ?_ | refine blk_alloc ?_ _)); refine blk_put (cs := #[.int .u8 t130, .int .u8 t131, .int .u8 t132, .int .u8 x126003_1, .int .u8 x126004_1, .int .u16 x126005_1]) ?_ 3 _ rfl; (with_reducible repeat (first | refine blk_drewN ?_ _ | refine blk_drew ?_ | refine blk_alloc ?_ _)); refine blk_put (cs := #[.int .u8 t130, .int .u8 t131, .int .u8 x126002_1, .int .u8 x126003_1, .int .u8 x126004_1, .int .u16 x126005_1]) ?_ 2 _ rfl; (with_reducible repeat (first | refine blk_drewN ?_ _ | refine blk_drew ?_ | refine blk_alloc ?_ _)); refine blk_put (cs := #[.int .u8 t130, .int .u8 x126001_1, .int .u8 x126002_1, .int .u8 x126003_1, .int .u8 x126004_1, .int .u16 x126005_1]) ?_ 1 _ rfl; (with_reducible repeat (first | refine blk_drewN ?_ _ | refine blk_drew ?_ | refine blk_alloc ?_ _)); refine blk_put (cs := #[.int .u8 x126000_1, .int .u8 x126001_1, .int .u8 x126002_1, .int .u8 x126003_1, .int .u8 x126004_1, .int .u16 x126005_1]) ?_ 0 _ rfl; (with_reducible repeat (first | refine blk_drewN ?_ _ | refine blk_drew ?_ | refine blk_alloc ?_ _)); exact BK125.out) Try.underlying25 rfl (by kernel_rfl)) rfl ?_
                  exact ⟨by first | rfl | (simp [errW_none, errW_some] <;> rfl) | (simp [*, errW_none, errW_some] <;> rfl), by repeat (first | (with_reducible first | exact HB.out | apply below_alloc | apply pw_below_drewN | apply below_drew1 | refine below_set ?_ GE125.out | refine below_set ?_ GE136.out) | exact HB.out)⟩
                · rw [if_neg c13] at H
                  have c13b0 : decide (a0 < 4096) = false := decide_eq_false c13
                  clear c13
                  have H' := Aside0.mk H
                  clear H
                  have p129 : 0 ≤ (x5_1 : Int) := of_decide_eq_true (by first | (with_reducible assumption) | assumption)
                  have q129 : x5_1 < (t126.length : Int) := of_decide_eq_true (by first | (with_reducible assumption) | assumption)
                  obtain ⟨ad129, e129, hx129_0, hx129_1, hx129_2, hx129_3⟩ := at_T36 (Kd.R_reads' HO_4.out).2.2 x5_1 p129 q129
                  cases e129
                  replace p129 := eq_true p129
                  replace q129 := eq_true q129
                  try go_wp2_with (first | ((with_reducible refine gate_callee (f := 14) rfl ?_); refine goesL_ (some 20) rfl rfl Try.func14 (by kernel_rfl) rfl #[.agg #[.int .u8 ((rd_T36 t126 x5_1).f0), .int .u16 ((rd_T36 t126 x5_1).f1), .string ((rd_T36 t126 x5_1).f2), .string ((rd_T36 t126 x5_1).f3)], .int .u16 a0] rfl (by (try simp only [List.map_toArray, List.map_cons, List.map_nil]); first | done | rfl | (simp only [List.length_drop, List.length_take]; rfl)) ?_; (with_reducible refine (vesperref16_Word_order.calls k1 ((rd_T36 t126 x5_1).f0) ((rd_T36 t126 x5_1).f1) ((rd_T36 t126 x5_1).f2) ((rd_T36 t126 x5_1).f3) a0 t130 t131 t132 t133 t134 t135 _ A9.out).mono ?_); rintro e w23 ⟨rfl, hb⟩; refine ⟨_, rfl, ?_⟩; have n0_ := Aside0.mk (Kd.R_below (by (with_reducible repeat (first | apply Kd.R_alloc | apply Kd.R_drewN | apply Kd.R_drew)); exact HO_4.out) hb); have n1_ := Aside0.mk (blk_below (g := gb125) (o := .cells #[.int .u8 x126000_1, .int .u8 x126001_1, .int .u8 x126002_1, .int .u8 x126003_1, .int .u8 x126004_1, .int .u16 x126005_1] 25 (0, 0)) (by (with_reducible repeat (first | refine blk_drewN ?_ _ | refine blk_drew ?_ | refine blk_alloc ?_ _)); exact BK125.out) hb); have n2_ := Aside0.mk (below_step (by repeat (first | (with_reducible first | exact HB.out | apply below_alloc | apply pw_below_drewN | apply below_drew1 | refine below_set ?_ GE125.out) | exact HB.out)) hb); clear HO_4; clear BK125; clear HB; have HO_4 := n0_; have BK125 := n1_; have HB := n2_; clear n0_ n1_ n2_; (try clear hb); (try clear hb2); (try clear hk); (try clear hi)) | ((with_reducible refine gate_dst (N := 6) rfl ?_); refine box_event ?hg (N := 6) ?hd (cs := #[.int .u8 0, .int .u8 0, .int .u8 0, .int .u8 0, .int .u8 0, .int .u16 0]) (t := 25) ?hr ?_; (case hd => rfl); (case hg => rfl); (case hr => first | (go_simp; done) | (go_simp; rfl)); intro gb136 hg w24 hbox hb; have n0_ := Aside0.mk (Kd.R_below (by (with_reducible repeat (first | apply Kd.R_alloc | apply Kd.R_drewN | apply Kd.R_drew)); exact HO_4.out) hb); have n1_ := Aside0.mk (blk_below (g := gb125) (o := .cells #[.int .u8 x126000_1, .int .u8 x126001_1, .int .u8 x126002_1, .int .u8 x126003_1, .int .u8 x126004_1, .int .u16 x126005_1] 25 (0, 0)) (by (with_reducible repeat (first | refine blk_drewN ?_ _ | refine blk_drew ?_ | refine blk_alloc ?_ _)); exact BK125.out) hb); have n2_ := Aside0.mk (below_step (by repeat (first | (with_reducible first | exact HB.out | apply below_alloc | apply pw_below_drewN | apply below_drew1 | refine below_set ?_ GE125.out) | exact HB.out)) hb); have n3_ := Aside0.mk (hbox); have n4_ := Aside0.mk ((by rw [hg]; exact (below_size (by repeat (first | (with_reducible first | exact HB.out | apply below_alloc | apply pw_below_drewN | apply below_drew1 | refine below_set ?_ GE125.out) | exact HB.out))) : w.heap.size ≤ gb136)); have n5_ := Aside0.mk ((by rw [hg]; exact (below_size (by repeat (first | (with_reducible first | exact HB.out | apply below_alloc | apply pw_below_drewN | apply below_drew1 | refine below_set ?_ GE125.out) | exact HB.out))) : w.heap.size ≤ gb136)); have n6_ := Aside0.mk ((by rw [hg]; exact Nat.ne_of_lt (blk_lt (g := gb125) (o := .cells #[.int .u8 x126000_1, .int .u8 x126001_1, .int .u8 x126002_1, .int .u8 x126003_1, .int .u8 x126004_1, .int .u16 x126005_1] 25 (0, 0)) (by (with_reducible repeat (first | refine blk_drewN ?_ _ | refine blk_drew ?_ | refine blk_alloc ?_ _)); exact BK125.out)) : gb125 ≠ gb136)); have n7_ := Aside0.mk ((by rw [hg]; exact Nat.ne_of_gt (blk_lt (g := gb125) (o := .cells #[.int .u8 x126000_1, .int .u8 x126001_1, .int .u8 x126002_1, .int .u8 x126003_1, .int .u8 x126004_1, .int .u16 x126005_1] 25 (0, 0)) (by (with_reducible repeat (first | refine blk_drewN ?_ _ | refine blk_drew ?_ | refine blk_alloc ?_ _)); exact BK125.out)) : gb136 ≠ gb125)); clear HO_4; clear BK125; clear HB; have HO_4 := n0_; have BK125 := n1_; have HB := n2_; have BK136 := n3_; have GW136 := n4_; have GE136 := n5_; have NB125_136 := n6_; have NB136_125 := n7_; clear n0_ n1_ n2_ n3_ n4_ n5_ n6_ n7_; clear hb hbox hg; have hnb25 := NB136_125.out; have hnc25 := NB125_136.out; have hcz26_0 : w24.cell? ⟨gb136, 0, none⟩ = some (.int .u8 0) := (blk_cell BK136.out 0).trans rfl; have hcz26_1 : w24.cell? ⟨gb136, 1, none⟩ = some (.int .u8 0) := (blk_cell BK136.out 1).trans rfl; have hcz26_2 : w24.cell? ⟨gb136, 2, none⟩ = some (.int .u8 0) := (blk_cell BK136.out 2).trans rfl; have hcz26_3 : w24.cell? ⟨gb136, 3, none⟩ = some (.int .u8 0) := (blk_cell BK136.out 3).trans rfl; have hcz26_4 : w24.cell? ⟨gb136, 4, none⟩ = some (.int .u8 0) := (blk_cell BK136.out 4).trans rfl; have hcz26_5 : w24.cell? ⟨gb136, 5, none⟩ = some (.int .u16 0) := (blk_cell BK136.out 5).trans rfl; have hfz26_0 := blk_frozen BK136.out 0; have hfz26_1 := blk_frozen BK136.out 1; have hfz26_2 := blk_frozen BK136.out 2; have hfz26_3 := blk_frozen BK136.out 3; have hfz26_4 := blk_frozen BK136.out 4; have hfz26_5 := blk_frozen BK136.out 5))
                  have n0_ : Aside0 (Kd.R k36 36 ((((((w24.setCell ⟨gb136, 0, none⟩ (.int .u8 t130)).setCell ⟨gb136, 1, none⟩ (.int .u8 t131)).setCell ⟨gb136, 2, none⟩ (.int .u8 t132)).setCell ⟨gb136, 3, none⟩ (.int .u8 t133)).setCell ⟨gb136, 4, none⟩ (.int .u8 t134)).setCell ⟨gb136, 5, none⟩ (.int .u16 t135)) w.heap.size (fun _ => True) (.slice (some ad129) t126.length co5) t126) := ⟨by (with_reducible repeat (first | apply Kd.R_alloc | apply Kd.R_drewN | apply Kd.R_drew)); exact Kd.R_mono (Kd.R_far (p := ⟨gb136, 5, none⟩) (Kd.R_far (p := ⟨gb136, 4, none⟩) (Kd.R_far (p := ⟨gb136, 3, none⟩) (Kd.R_far (p := ⟨gb136, 2, none⟩) (Kd.R_far (p := ⟨gb136, 1, none⟩) (Kd.R_far (p := ⟨gb136, 0, none⟩) (Kd.R_types HO_4.out BK136.out (by decide)) (fun _ hk => hk.2) (.int .u8 t130)) (fun _ hk => hk.2) (.int .u8 t131)) (fun _ hk => hk.2) (.int .u8 t132)) (fun _ hk => hk.2) (.int .u8 t133)) (fun _ hk => hk.2) (.int .u8 t134)) (fun _ hk => hk.2) (.int .u16 t135)) (fun _ hk => trivial)⟩
                  have n1_ : Aside0 (((((((w24.setCell ⟨gb136, 0, none⟩ (.int .u8 t130)).setCell ⟨gb136, 1, none⟩ (.int .u8 t131)).setCell ⟨gb136, 2, none⟩ (.int .u8 t132)).setCell ⟨gb136, 3, none⟩ (.int .u8 t133)).setCell ⟨gb136, 4, none⟩ (.int .u8 t134)).setCell ⟨gb136, 5, none⟩ (.int .u16 t135)).heap[gb125]? = some (.cells #[.int .u8 x126000_1, .int .u8 x126001_1, .int .u8 x126002_1, .int .u8 x126003_1, .int .u8 x126004_1, .int .u16 x126005_1] 25 (0, 0))) := ⟨by (with_reducible repeat (first | refine blk_drewN ?_ _ | refine blk_drew ?_ | refine blk_alloc ?_ _)); refine blk_far ?_ NB125_136.out _; (with_reducible repeat (first | refine blk_drewN ?_ _ | refine blk_drew ?_ | refine blk_alloc ?_ _)); refine blk_far ?_ NB125_136.out _; (with_reducible repeat (first | refine blk_drewN ?_ _ | refine blk_drew ?_ | refine blk_alloc ?_ _)); refine blk_far ?_ NB125_136.out _; (with_reducible repeat (first | refine blk_drewN ?_ _ | refine blk_drew ?_ | refine blk_alloc ?_ _)); refine blk_far ?_ NB125_136.out _; (with_reducible repeat (first | refine blk_drewN ?_ _ | refine blk_drew ?_ | refine blk_alloc ?_ _)); refine blk_far ?_ NB125_136.out _; (with_reducible repeat (first | refine blk_drewN ?_ _ | refine blk_drew ?_ | refine blk_alloc ?_ _)); refine blk_far ?_ NB125_136.out _; (with_reducible repeat (first | refine blk_drewN ?_ _ | refine blk_drew ?_ | refine blk_alloc ?_ _)); exact BK125.out⟩
                  have n2_ : Aside0 (((((((w24.setCell ⟨gb136, 0, none⟩ (.int .u8 t130)).setCell ⟨gb136, 1, none⟩ (.int .u8 t131)).setCell ⟨gb136, 2, none⟩ (.int .u8 t132)).setCell ⟨gb136, 3, none⟩ (.int .u8 t133)).setCell ⟨gb136, 4, none⟩ (.int .u8 t134)).setCell ⟨gb136, 5, none⟩ (.int .u16 t135)).heap[gb136]? = some (.cells #[.int .u8 t130, .int .u8 t131, .int .u8 t132, .int .u8 t133, .int .u8 t134, .int .u16 t135] 25 (0, 0))) := ⟨by (with_reducible repeat (first | refine blk_drewN ?_ _ | refine blk_drew ?_ | refine blk_alloc ?_ _)); refine blk_put (cs := #[.int .u8 t130, .int .u8 t131, .int .u8 t132, .int .u8 t133, .int .u8 t134, .int .u16 0]) ?_ 5 _ rfl; (with_reducible repeat (first | refine blk_drewN ?_ _ | refine blk_drew ?_ | refine blk_alloc ?_ _)); refine blk_put (cs := #[.int .u8 t130, .int .u8 t131, .int .u8 t132, .int .u8 t133, .int .u8 0, .int .u16 0]) ?_ 4 _ rfl; (with_reducible repeat (first | refine blk_drewN ?_ _ | refine blk_drew ?_ | refine blk_alloc ?_ _)); refine blk_put (cs := #[.int .u8 t130, .int .u8 t131, .int .u8 t132, .int .u8 0, .int .u8 0, .int .u16 0]) ?_ 3 _ rfl; (with_reducible repeat (first | refine blk_drewN ?_ _ | refine blk_drew ?_ | refine blk_alloc ?_ _)); refine blk_put (cs := #[.int .u8 t130, .int .u8 t131, .int .u8 0, .int .u8 0, .int .u8 0, .int .u16 0]) ?_ 2 _ rfl; (with_reducible repeat (first | refine blk_drewN ?_ _ | refine blk_drew ?_ | refine blk_alloc ?_ _)); refine blk_put (cs := #[.int .u8 t130, .int .u8 0, .int .u8 0, .int .u8 0, .int .u8 0, .int .u16 0]) ?_ 1 _ rfl; (with_reducible repeat (first | refine blk_drewN ?_ _ | refine blk_drew ?_ | refine blk_alloc ?_ _)); refine blk_put (cs := #[.int .u8 0, .int .u8 0, .int .u8 0, .int .u8 0, .int .u8 0, .int .u16 0]) ?_ 0 _ rfl; (with_reducible repeat (first | refine blk_drewN ?_ _ | refine blk_drew ?_ | refine blk_alloc ?_ _)); exact BK136.out⟩
                  have n3_ : Aside0 (Below w.heap.size w ((((((w24.setCell ⟨gb136, 0, none⟩ (.int .u8 t130)).setCell ⟨gb136, 1, none⟩ (.int .u8 t131)).setCell ⟨gb136, 2, none⟩ (.int .u8 t132)).setCell ⟨gb136, 3, none⟩ (.int .u8 t133)).setCell ⟨gb136, 4, none⟩ (.int .u8 t134)).setCell ⟨gb136, 5, none⟩ (.int .u16 t135))) := ⟨by repeat (first | (with_reducible first | exact HB.out | apply below_alloc | apply pw_below_drewN | apply below_drew1 | refine below_set ?_ GE125.out | refine below_set ?_ GE136.out) | exact HB.out)⟩
                  (try clear HO_4)
                  (try clear BK125)
                  (try clear BK136)
                  (try clear HB)
                  generalize ((((((w24.setCell ⟨gb136, 0, none⟩ (.int .u8 t130)).setCell ⟨gb136, 1, none⟩ (.int .u8 t131)).setCell ⟨gb136, 2, none⟩ (.int .u8 t132)).setCell ⟨gb136, 3, none⟩ (.int .u8 t133)).setCell ⟨gb136, 4, none⟩ (.int .u8 t134)).setCell ⟨gb136, 5, none⟩ (.int .u16 t135)) = w27 at n0_ n1_ n2_ n3_ ⊢
                  have HO_4 := n0_
                  have BK125 := n1_
                  have BK136 := n2_
                  have HB := n3_
                  clear n0_ n1_ n2_ n3_
                  have n0_ := Aside0.mk (Kd.R_drew HO_4.out)
                  have n1_ := Aside0.mk (blk_drew BK125.out)
                  have n2_ := Aside0.mk (blk_drew BK136.out)
                  have n3_ := Aside0.mk (below_drew1 HB.out)
                  clear HO_4
                  clear BK125
                  clear BK136
                  clear HB
                  have HO_4 := n0_
                  have BK125 := n1_
                  have BK136 := n2_
                  have HB := n3_
                  clear n0_ n1_ n2_ n3_
                  have p137 : 0 ≤ (x5_1 : Int) := of_decide_eq_true (by first | (with_reducible assumption) | assumption)
                  have q137 : x5_1 < (t126.length : Int) := of_decide_eq_true (by first | (with_reducible assumption) | assumption)
                  obtain ⟨ad137, e137, hx137_0, hx137_1, hx137_2, hx137_3⟩ := at_T36 (Kd.R_reads' HO_4.out).2.2 x5_1 p137 q137
                  obtain rfl : ad129 = ad137 := (by injection e137)
                  replace p137 := eq_true p137
                  replace q137 := eq_true q137
                  have p139 : 0 ≤ (x5_1 : Int) := of_decide_eq_true (by first | (with_reducible assumption) | assumption)
                  have q139 : x5_1 < (t126.length : Int) := of_decide_eq_true (by first | (with_reducible assumption) | assumption)
                  obtain ⟨ad139, e139, hx139_0, hx139_1, hx139_2, hx139_3⟩ := at_T36 (Kd.R_reads' HO_4.out).2.2 x5_1 p139 q139
                  obtain rfl : ad129 = ad139 := (by injection e139)
                  replace p139 := eq_true p139
                  replace q139 := eq_true q139
                  refine start_ (n := 20) (S := fun w' => w'.cell? ⟨gb136, 0, none⟩ = some (.int .u8 t130) ∧ w'.cell? ⟨gb136, 1, none⟩ = some (.int .u8 t131) ∧ w'.cell? ⟨gb136, 2, none⟩ = some (.int .u8 t132) ∧ w'.cell? ⟨gb136, 3, none⟩ = some (.int .u8 t133) ∧ w'.cell? ⟨gb136, 4, none⟩ = some (.int .u8 t134) ∧ w'.cell? ⟨gb136, 5, none⟩ = some (.int .u16 t135) ∧ w'.cell? (ad129.add ((x5_1).toNat * 4)) = some (.int .u8 ((rd_T36 t126 x5_1).f0)) ∧ w'.cell? ⟨(ad129.add ((x5_1).toNat * 4)).block, (ad129.add ((x5_1).toNat * 4)).off + 1, none⟩ = some (.int .u16 ((rd_T36 t126 x5_1).f1)) ∧ w'.cell? ⟨(ad129.add ((x5_1).toNat * 4)).block, (ad129.add ((x5_1).toNat * 4)).off + 2, none⟩ = some (.string ((rd_T36 t126 x5_1).f2)) ∧ w'.cell? ⟨(ad129.add ((x5_1).toNat * 4)).block, (ad129.add ((x5_1).toNat * 4)).off + 3, none⟩ = some (.string ((rd_T36 t126 x5_1).f3)) ∧ w'.cell? (ad129.add ((x5_1).toNat * 4)) = some (.int .u8 ((rd_T36 t126 x5_1).f0)) ∧ w'.cell? ⟨(ad129.add ((x5_1).toNat * 4)).block, (ad129.add ((x5_1).toNat * 4)).off + 1, none⟩ = some (.int .u16 ((rd_T36 t126 x5_1).f1)) ∧ w'.cell? ⟨(ad129.add ((x5_1).toNat * 4)).block, (ad129.add ((x5_1).toNat * 4)).off + 2, none⟩ = some (.string ((rd_T36 t126 x5_1).f2)) ∧ w'.cell? ⟨(ad129.add ((x5_1).toNat * 4)).block, (ad129.add ((x5_1).toNat * 4)).off + 3, none⟩ = some (.string ((rd_T36 t126 x5_1).f3))) (ds := []) #[false, false, false, false, false, false, false, false, false, false, false, false, false, false, false, false, false, false, false, false] (by kernel_rfl) rfl rfl ⟨(blk_cell BK136.out 0).trans rfl, (blk_cell BK136.out 1).trans rfl, (blk_cell BK136.out 2).trans rfl, (blk_cell BK136.out 3).trans rfl, (blk_cell BK136.out 4).trans rfl, (blk_cell BK136.out 5).trans rfl, hx137_0, hx137_1, hx137_2, hx137_3, hx139_0, hx139_1, hx139_2, hx139_3⟩ (fun hHeld => ?_); refine with_tabW vesperref16_Decode.tab6 vesperref16_Decode.bits6 (fun HT_ HW_ => ?_)
                  generalize w27.drew = w28 at HO_4 BK125 BK136 HB hx137_0 hx137_1 hx137_2 hx137_3 hx139_0 hx139_1 hx139_2 hx139_3 hHeld ⊢
                  refine pure_ (i := 0) (N := some 21) (v := ?_) (a' := ?_) #[true, false, false, false, false, false, false, false, false, false, false, false, false, false, false, false, false, false, false, false] rfl rfl (any_of HT_.out (by kernel_rfl)) (fun _ _ _ h => h) (Or.inl ⟨by rfl, ?_⟩) ?_ ?_
                  rotate_left
                  · intro w'
                    go_simp
                    with_reducible rfl
                  rotate_left
                  · simp only [Act.put, List.setIfInBounds_toArray, List.set_cons_zero, List.set_cons_succ, i64_w, i32_w]
                    rfl
                  refine pure_ (i := 1) (N := some 22) (v := ?_) (a' := ?_) #[true, true, false, false, false, false, false, false, false, false, false, false, false, false, false, false, false, false, false, false] rfl rfl (any_of HT_.out (by kernel_rfl)) (fun _ _ _ h => h) (Or.inl ⟨by rfl, ?_⟩) ?_ ?_
                  rotate_left
                  · intro w'
                    go_simp
                    with_reducible rfl
                  rotate_left
                  · simp only [Act.put, List.setIfInBounds_toArray, List.set_cons_zero, List.set_cons_succ, i64_w, i32_w]
                    rfl
                  refine pure_ (i := 2) (N := some 23) (v := ?_) (a' := ?_) #[true, true, true, false, false, false, false, false, false, false, false, false, false, false, false, false, false, false, false, false] rfl rfl (any_of HT_.out (by kernel_rfl)) (fun _ _ _ h => h) (Or.inl ⟨by rfl, ?_⟩) ?_ ?_
                  rotate_left
                  · intro w'
                    go_simp
                    with_reducible rfl
                  rotate_left
                  · simp only [Act.put, List.setIfInBounds_toArray, List.set_cons_zero, List.set_cons_succ, i64_w, i32_w]
                    rfl
                  refine pure_ (i := 6) (N := some 27) (v := ?_) (a' := ?_) #[true, true, true, false, false, false, true, false, false, false, false, false, false, false, false, false, false, false, false, false] rfl rfl (any_of HT_.out (by kernel_rfl)) (fun _ _ _ h => h) (Or.inl ⟨by rfl, ?_⟩) ?_ ?_
                  rotate_left
                  · intro w'
                    go_simp
                    with_reducible rfl
                  rotate_left
                  · simp only [Act.put, List.setIfInBounds_toArray, List.set_cons_zero, List.set_cons_succ, i64_w, i32_w]
                    rfl
                  refine take_ (i := 3) (N := some 24) (v := ?_) (a' := ?_) #[true, true, true, true, false, false, true, false, false, false, false, false, false, false, false, false, false, false, false, false] rfl rfl (take_ofW HT_.out HW_.out (by kernel_rfl)) (fun _ _ _ h => h) (Or.inl ⟨by rfl, ?_⟩) hHeld ?_ ?_
                  rotate_left
                  · rintro w' ⟨s0, s1, s2, s3, s4, s5, s6, s7, s8, s9, s10, s11, s12, s13⟩
                    go_simp
                    with_reducible rfl
                  rotate_left
                  · simp only [Act.put, List.setIfInBounds_toArray, List.set_cons_zero, List.set_cons_succ, i64_w, i32_w]
                    rfl
                  refine take_ (i := 4) (N := some 25) (v := ?_) (a' := ?_) #[true, true, true, true, true, false, true, false, false, false, false, false, false, false, false, false, false, false, false, false] rfl rfl (take_ofW HT_.out HW_.out (by kernel_rfl)) (fun _ _ _ h => h) (Or.inl ⟨by rfl, ?_⟩) hHeld ?_ ?_
                  rotate_left
                  · rintro w' ⟨s0, s1, s2, s3, s4, s5, s6, s7, s8, s9, s10, s11, s12, s13⟩
                    go_simp
                    with_reducible rfl
                  rotate_left
                  · simp only [Act.put, List.setIfInBounds_toArray, List.set_cons_zero, List.set_cons_succ, i64_w, i32_w]
                    rfl
                  refine one_ (i := 5) (N := some 26) #[true, true, true, true, true, true, true, false, false, false, false, false, false, false, false, false, false, false, false, false] rfl rfl (one_of HT_.out (by kernel_rfl)) (by decide) (fun K hK => ?_)
                  refine goes_ Try.func9 (by kernel_rfl) rfl #[.agg #[.int .u8 ((rd_T36 t126 x5_1).f0), .int .u16 ((rd_T36 t126 x5_1).f1), .string ((rd_T36 t126 x5_1).f2), .string ((rd_T36 t126 x5_1).f3)], .agg #[.int .u8 t130, .int .u8 t131, .int .u8 t132, .int .u8 t133, .int .u8 t134, .int .u16 t135]] (by rfl) rfl rfl (by (try simp only [List.map_toArray, List.map_cons, List.map_nil]); first | done | rfl | (simp only [List.length_drop, List.length_take]; rfl)) ?_
                  with_reducible refine (vesperref16_Word_word.calls k1 ((rd_T36 t126 x5_1).f0) ((rd_T36 t126 x5_1).f1) ((rd_T36 t126 x5_1).f2) ((rd_T36 t126 x5_1).f3) t130 t131 t132 t133 t134 t135 t138 _ A10.out).mono ?_
                  rintro e w29 ⟨rfl, hb⟩
                  have HS6_ := (hb.cell (World.block_lt_of_cell? _ _ (hHeld.2.2.2.2.2.2.1))).trans (hHeld.2.2.2.2.2.2.1)
                  have HS7_ := (hb.cell (World.block_lt_of_cell? _ _ (hHeld.2.2.2.2.2.2.2.1))).trans (hHeld.2.2.2.2.2.2.2.1)
                  have HS8_ := (hb.cell (World.block_lt_of_cell? _ _ (hHeld.2.2.2.2.2.2.2.2.1))).trans (hHeld.2.2.2.2.2.2.2.2.1)
                  have HS9_ := (hb.cell (World.block_lt_of_cell? _ _ (hHeld.2.2.2.2.2.2.2.2.2.1))).trans (hHeld.2.2.2.2.2.2.2.2.2.1)
                  have HS10_ := (hb.cell (World.block_lt_of_cell? _ _ (hHeld.2.2.2.2.2.2.2.2.2.2.1))).trans (hHeld.2.2.2.2.2.2.2.2.2.2.1)
                  have HS11_ := (hb.cell (World.block_lt_of_cell? _ _ (hHeld.2.2.2.2.2.2.2.2.2.2.2.1))).trans (hHeld.2.2.2.2.2.2.2.2.2.2.2.1)
                  have HS12_ := (hb.cell (World.block_lt_of_cell? _ _ (hHeld.2.2.2.2.2.2.2.2.2.2.2.2.1))).trans (hHeld.2.2.2.2.2.2.2.2.2.2.2.2.1)
                  have HS13_ := (hb.cell (World.block_lt_of_cell? _ _ (hHeld.2.2.2.2.2.2.2.2.2.2.2.2.2))).trans (hHeld.2.2.2.2.2.2.2.2.2.2.2.2.2)
                  refine ⟨_, rfl, ?_⟩
                  have n0_ := Aside0.mk (Kd.R_below (by (with_reducible repeat (first | apply Kd.R_alloc | apply Kd.R_drewN | apply Kd.R_drew)); exact HO_4.out) hb)
                  have n1_ := Aside0.mk (blk_below (g := gb125) (o := .cells #[.int .u8 x126000_1, .int .u8 x126001_1, .int .u8 x126002_1, .int .u8 x126003_1, .int .u8 x126004_1, .int .u16 x126005_1] 25 (0, 0)) (by (with_reducible repeat (first | refine blk_drewN ?_ _ | refine blk_drew ?_ | refine blk_alloc ?_ _)); exact BK125.out) hb)
                  have n2_ := Aside0.mk (blk_below (g := gb136) (o := .cells #[.int .u8 t130, .int .u8 t131, .int .u8 t132, .int .u8 t133, .int .u8 t134, .int .u16 t135] 25 (0, 0)) (by (with_reducible repeat (first | refine blk_drewN ?_ _ | refine blk_drew ?_ | refine blk_alloc ?_ _)); exact BK136.out) hb)
                  have n3_ := Aside0.mk (below_step (by repeat (first | (with_reducible first | exact HB.out | apply below_alloc | apply pw_below_drewN | apply below_drew1 | refine below_set ?_ GE125.out | refine below_set ?_ GE136.out) | exact HB.out)) hb)
                  clear HO_4
                  clear BK125
                  clear BK136
                  clear HB
                  have HO_4 := n0_
                  have BK125 := n1_
                  have BK136 := n2_
                  have HB := n3_
                  clear n0_ n1_ n2_ n3_
                  (try clear hb)
                  (try clear hb2)
                  (try clear hk)
                  (try clear hi)
                  refine hK.out _ _ ⟨(blk_cell BK136.out 0).trans rfl, (blk_cell BK136.out 1).trans rfl, (blk_cell BK136.out 2).trans rfl, (blk_cell BK136.out 3).trans rfl, (blk_cell BK136.out 4).trans rfl, (blk_cell BK136.out 5).trans rfl, HS6_, HS7_, HS8_, HS9_, HS10_, HS11_, HS12_, HS13_⟩ (fun hHeld => ?_)
                  clear hK K
                  refine norm_ (a' := ?_) ?_ ?_
                  rotate_left
                  · show Act.put _ (some 26) _ = _
                    simp only [Act.put, List.setIfInBounds_toArray, List.set_cons_zero, List.set_cons_succ, i64_w, i32_w]
                    rfl
                  refine pure_ (i := 7) (N := some 28) (v := ?_) (a' := ?_) #[true, true, true, true, true, true, true, true, false, false, false, false, false, false, false, false, false, false, false, false] rfl rfl (any_of HT_.out (by kernel_rfl)) (fun _ _ _ h => h) (Or.inl ⟨by rfl, ?_⟩) ?_ ?_
                  rotate_left
                  · intro w'
                    go_simp
                    with_reducible rfl
                  rotate_left
                  · simp only [Act.put, List.setIfInBounds_toArray, List.set_cons_zero, List.set_cons_succ, i64_w, i32_w]
                    rfl
                  refine pure_ (i := 8) (N := some 29) (v := ?_) (a' := ?_) #[true, true, true, true, true, true, true, true, true, false, false, false, false, false, false, false, false, false, false, false] rfl rfl (any_of HT_.out (by kernel_rfl)) (fun _ _ _ h => h) (Or.inl ⟨by rfl, ?_⟩) ?_ ?_
                  rotate_left
                  · intro w'
                    go_simp
                    with_reducible rfl
                  rotate_left
                  · simp only [Act.put, List.setIfInBounds_toArray, List.set_cons_zero, List.set_cons_succ, i64_w, i32_w]
                    rfl
                  refine pure_ (i := 9) (N := some 30) (v := ?_) (a' := ?_) #[true, true, true, true, true, true, true, true, true, true, false, false, false, false, false, false, false, false, false, false] rfl rfl (any_of HT_.out (by kernel_rfl)) (fun _ _ _ h => h) (Or.inl ⟨by rfl, ?_⟩) ?_ ?_
                  rotate_left
                  · intro w'
                    go_simp
                    with_reducible rfl
                  rotate_left
                  · simp only [Act.put, List.setIfInBounds_toArray, List.set_cons_zero, List.set_cons_succ, i64_w, i32_w]
                    rfl
                  refine pure_ (i := 10) (N := some 31) (v := ?_) (a' := ?_) #[true, true, true, true, true, true, true, true, true, true, true, false, false, false, false, false, false, false, false, false] rfl rfl (any_of HT_.out (by kernel_rfl)) (fun _ _ _ h => h) (Or.inl ⟨by rfl, ?_⟩) ?_ ?_
                  rotate_left
                  · intro w'
                    go_simp
                    with_reducible rfl
                  rotate_left
                  · simp only [Act.put, List.setIfInBounds_toArray, List.set_cons_zero, List.set_cons_succ, i64_w, i32_w]
                    rfl
                  refine pure_ (i := 11) (N := some 32) (v := ?_) (a' := ?_) #[true, true, true, true, true, true, true, true, true, true, true, true, false, false, false, false, false, false, false, false] rfl rfl (any_of HT_.out (by kernel_rfl)) (fun _ _ _ h => h) (Or.inl ⟨by rfl, ?_⟩) ?_ ?_
                  rotate_left
                  · intro w'
                    go_simp
                    with_reducible rfl
                  rotate_left
                  · simp only [Act.put, List.setIfInBounds_toArray, List.set_cons_zero, List.set_cons_succ, i64_w, i32_w]
                    rfl
                  refine pure_ (i := 12) (N := some 33) (v := ?_) (a' := ?_) #[true, true, true, true, true, true, true, true, true, true, true, true, true, false, false, false, false, false, false, false] rfl rfl (any_of HT_.out (by kernel_rfl)) (fun _ _ _ h => h) (Or.inl ⟨by rfl, ?_⟩) ?_ ?_
                  rotate_left
                  · intro w'
                    go_simp
                    with_reducible rfl
                  rotate_left
                  · simp only [Act.put, List.setIfInBounds_toArray, List.set_cons_zero, List.set_cons_succ, i64_w, i32_w]
                    rfl
                  refine take_ (i := 13) (N := some 34) (v := ?_) (a' := ?_) #[true, true, true, true, true, true, true, true, true, true, true, true, true, true, false, false, false, false, false, false] rfl rfl (take_ofW HT_.out HW_.out (by kernel_rfl)) (fun _ _ _ h => h) (Or.inl ⟨by rfl, ?_⟩) hHeld ?_ ?_
                  rotate_left
                  · rintro w' ⟨s0, s1, s2, s3, s4, s5, s6, s7, s8, s9, s10, s11, s12, s13⟩
                    go_simp
                    with_reducible rfl
                  rotate_left
                  · simp only [Act.put, List.setIfInBounds_toArray, List.set_cons_zero, List.set_cons_succ, i64_w, i32_w]
                    rfl
                  refine pure_ (i := 14) (N := some 35) (v := ?_) (a' := ?_) #[true, true, true, true, true, true, true, true, true, true, true, true, true, true, true, false, false, false, false, false] rfl rfl (any_of HT_.out (by kernel_rfl)) (fun _ _ _ h => h) (Or.inl ⟨by rfl, ?_⟩) ?_ ?_
                  rotate_left
                  · intro w'
                    go_simp
                    with_reducible rfl
                  rotate_left
                  · simp only [Act.put, List.setIfInBounds_toArray, List.set_cons_zero, List.set_cons_succ, i64_w, i32_w]
                    rfl
                  refine pure_ (i := 15) (N := some 36) (v := ?_) (a' := ?_) #[true, true, true, true, true, true, true, true, true, true, true, true, true, true, true, true, false, false, false, false] rfl rfl (any_of HT_.out (by kernel_rfl)) (fun _ _ _ h => h) (Or.inl ⟨by rfl, ?_⟩) ?_ ?_
                  rotate_left
                  · intro w'
                    go_simp
                    with_reducible rfl
                  rotate_left
                  · simp only [Act.put, List.setIfInBounds_toArray, List.set_cons_zero, List.set_cons_succ, i64_w, i32_w]
                    rfl
                  refine pure_ (i := 16) (N := some 37) (v := ?_) (a' := ?_) #[true, true, true, true, true, true, true, true, true, true, true, true, true, true, true, true, true, false, false, false] rfl rfl (any_of HT_.out (by kernel_rfl)) (fun _ _ _ h => h) (Or.inl ⟨by rfl, ?_⟩) ?_ ?_
                  rotate_left
                  · intro w'
                    go_simp
                    with_reducible rfl
                  rotate_left
                  · simp only [Act.put, List.setIfInBounds_toArray, List.set_cons_zero, List.set_cons_succ, i64_w, i32_w]
                    rfl
                  refine pure_ (i := 17) (N := some 38) (v := ?_) (a' := ?_) #[true, true, true, true, true, true, true, true, true, true, true, true, true, true, true, true, true, true, false, false] rfl rfl (any_of HT_.out (by kernel_rfl)) (fun _ _ _ h => h) (Or.inl ⟨by rfl, ?_⟩) ?_ ?_
                  rotate_left
                  · intro w'
                    go_simp
                    with_reducible rfl
                  rotate_left
                  · simp only [Act.put, List.setIfInBounds_toArray, List.set_cons_zero, List.set_cons_succ, i64_w, i32_w]
                    rfl
                  refine pure_ (i := 18) (N := some 39) (v := ?_) (a' := ?_) #[true, true, true, true, true, true, true, true, true, true, true, true, true, true, true, true, true, true, true, false] rfl rfl (any_of HT_.out (by kernel_rfl)) (fun _ _ _ h => h) (Or.inl ⟨by rfl, ?_⟩) ?_ ?_
                  rotate_left
                  · intro w'
                    go_simp
                    with_reducible rfl
                  rotate_left
                  · simp only [Act.put, List.setIfInBounds_toArray, List.set_cons_zero, List.set_cons_succ, i64_w, i32_w]
                    rfl
                  refine pure_ (i := 19) (N := some 40) (v := ?_) (a' := ?_) #[true, true, true, true, true, true, true, true, true, true, true, true, true, true, true, true, true, true, true, true] rfl rfl (any_of HT_.out (by kernel_rfl)) (fun _ _ _ h => h) (Or.inl ⟨by rfl, ?_⟩) ?_ ?_
                  rotate_left
                  · intro w'
                    go_simp
                    with_reducible rfl
                  rotate_left
                  · simp only [Act.put, List.setIfInBounds_toArray, List.set_cons_zero, List.set_cons_succ, i64_w, i32_w]
                    rfl
                  refine done_ (done_of HT_.out (by kernel_rfl)) ?_
                  try go_wp2
                  go_roundg k1
                  case measure => have := HK1.out; omega
                  case rel => exact ⟨(wrap64 (x5_1 - 1)), (x126000_1), (x126001_1), (x126002_1), (x126003_1), (x126004_1), (x126005_1), (by first | rfl | (simp; done) | (simp [*]; done)), H', ⟨by have := HK1.out; omega⟩, ⟨by (with_reducible repeat (first | apply Kd.R_alloc | apply Kd.R_drewN | apply Kd.R_drew)); exact HO_4.out⟩, ⟨by (with_reducible repeat (first | refine blk_drewN ?_ _ | refine blk_drew ?_ | refine blk_alloc ?_ _)); exact BK125.out⟩, ⟨by repeat (first | (with_reducible first | exact HB.out | apply below_alloc | apply pw_below_drewN | apply below_drew1 | refine below_set ?_ GE125.out | refine below_set ?_ GE136.out) | exact HB.out)⟩⟩
              · rw [if_neg c12] at H
                have c12b0 : (((rd_T36 t126 x5_1).f0) == 1) = false := beq_eq_false_iff_ne.mpr c12
                have c12b1 : (((rd_T36 t126 x5_1).f0) != 1) = true := bne_iff_ne.mpr c12
                simp only [Option.some.injEq, Prod.mk.injEq] at H
                obtain ⟨rfl, rfl, rfl, rfl, rfl, rfl, rfl⟩ := H
                have p129 : 0 ≤ (x5_1 : Int) := of_decide_eq_true (by first | (with_reducible assumption) | assumption)
                have q129 : x5_1 < (t126.length : Int) := of_decide_eq_true (by first | (with_reducible assumption) | assumption)
                obtain ⟨ad129, e129, hx129_0, hx129_1, hx129_2, hx129_3⟩ := at_T36 (Kd.R_reads' HO_4.out).2.2 x5_1 p129 q129
                cases e129
                replace p129 := eq_true p129
                replace q129 := eq_true q129
                try go_wp2_with (first | ((with_reducible refine gate_callee (f := 14) rfl ?_); refine goesL_ (some 20) rfl rfl Try.func14 (by kernel_rfl) rfl #[.agg #[.int .u8 ((rd_T36 t126 x5_1).f0), .int .u16 ((rd_T36 t126 x5_1).f1), .string ((rd_T36 t126 x5_1).f2), .string ((rd_T36 t126 x5_1).f3)], .int .u16 a0] rfl (by (try simp only [List.map_toArray, List.map_cons, List.map_nil]); first | done | rfl | (simp only [List.length_drop, List.length_take]; rfl)) ?_; (with_reducible refine (vesperref16_Word_order.calls k1 ((rd_T36 t126 x5_1).f0) ((rd_T36 t126 x5_1).f1) ((rd_T36 t126 x5_1).f2) ((rd_T36 t126 x5_1).f3) a0 t130 t131 t132 t133 t134 t135 _ A9.out).mono ?_); rintro e w30 ⟨rfl, hb⟩; refine ⟨_, rfl, ?_⟩; have n0_ := Aside0.mk (Kd.R_below (by (with_reducible repeat (first | apply Kd.R_alloc | apply Kd.R_drewN | apply Kd.R_drew)); exact HO_4.out) hb); have n1_ := Aside0.mk (blk_below (g := gb125) (o := .cells #[.int .u8 x126000_1, .int .u8 x126001_1, .int .u8 x126002_1, .int .u8 x126003_1, .int .u8 x126004_1, .int .u16 x126005_1] 25 (0, 0)) (by (with_reducible repeat (first | refine blk_drewN ?_ _ | refine blk_drew ?_ | refine blk_alloc ?_ _)); exact BK125.out) hb); have n2_ := Aside0.mk (below_step (by repeat (first | (with_reducible first | exact HB.out | apply below_alloc | apply pw_below_drewN | apply below_drew1 | refine below_set ?_ GE125.out) | exact HB.out)) hb); clear HO_4; clear BK125; clear HB; have HO_4 := n0_; have BK125 := n1_; have HB := n2_; clear n0_ n1_ n2_; (try clear hb); (try clear hb2); (try clear hk); (try clear hi)) | ((with_reducible refine gate_dst (N := 6) rfl ?_); refine box_event ?hg (N := 6) ?hd (cs := #[.int .u8 0, .int .u8 0, .int .u8 0, .int .u8 0, .int .u8 0, .int .u16 0]) (t := 25) ?hr ?_; (case hd => rfl); (case hg => rfl); (case hr => first | (go_simp; done) | (go_simp; rfl)); intro gb136 hg w31 hbox hb; have n0_ := Aside0.mk (Kd.R_below (by (with_reducible repeat (first | apply Kd.R_alloc | apply Kd.R_drewN | apply Kd.R_drew)); exact HO_4.out) hb); have n1_ := Aside0.mk (blk_below (g := gb125) (o := .cells #[.int .u8 x126000_1, .int .u8 x126001_1, .int .u8 x126002_1, .int .u8 x126003_1, .int .u8 x126004_1, .int .u16 x126005_1] 25 (0, 0)) (by (with_reducible repeat (first | refine blk_drewN ?_ _ | refine blk_drew ?_ | refine blk_alloc ?_ _)); exact BK125.out) hb); have n2_ := Aside0.mk (below_step (by repeat (first | (with_reducible first | exact HB.out | apply below_alloc | apply pw_below_drewN | apply below_drew1 | refine below_set ?_ GE125.out) | exact HB.out)) hb); have n3_ := Aside0.mk (hbox); have n4_ := Aside0.mk ((by rw [hg]; exact (below_size (by repeat (first | (with_reducible first | exact HB.out | apply below_alloc | apply pw_below_drewN | apply below_drew1 | refine below_set ?_ GE125.out) | exact HB.out))) : w.heap.size ≤ gb136)); have n5_ := Aside0.mk ((by rw [hg]; exact (below_size (by repeat (first | (with_reducible first | exact HB.out | apply below_alloc | apply pw_below_drewN | apply below_drew1 | refine below_set ?_ GE125.out) | exact HB.out))) : w.heap.size ≤ gb136)); have n6_ := Aside0.mk ((by rw [hg]; exact Nat.ne_of_lt (blk_lt (g := gb125) (o := .cells #[.int .u8 x126000_1, .int .u8 x126001_1, .int .u8 x126002_1, .int .u8 x126003_1, .int .u8 x126004_1, .int .u16 x126005_1] 25 (0, 0)) (by (with_reducible repeat (first | refine blk_drewN ?_ _ | refine blk_drew ?_ | refine blk_alloc ?_ _)); exact BK125.out)) : gb125 ≠ gb136)); have n7_ := Aside0.mk ((by rw [hg]; exact Nat.ne_of_gt (blk_lt (g := gb125) (o := .cells #[.int .u8 x126000_1, .int .u8 x126001_1, .int .u8 x126002_1, .int .u8 x126003_1, .int .u8 x126004_1, .int .u16 x126005_1] 25 (0, 0)) (by (with_reducible repeat (first | refine blk_drewN ?_ _ | refine blk_drew ?_ | refine blk_alloc ?_ _)); exact BK125.out)) : gb136 ≠ gb125)); clear HO_4; clear BK125; clear HB; have HO_4 := n0_; have BK125 := n1_; have HB := n2_; have BK136 := n3_; have GW136 := n4_; have GE136 := n5_; have NB125_136 := n6_; have NB136_125 := n7_; clear n0_ n1_ n2_ n3_ n4_ n5_ n6_ n7_; clear hb hbox hg; have hnb32 := NB136_125.out; have hnc32 := NB125_136.out; have hcz33_0 : w31.cell? ⟨gb136, 0, none⟩ = some (.int .u8 0) := (blk_cell BK136.out 0).trans rfl; have hcz33_1 : w31.cell? ⟨gb136, 1, none⟩ = some (.int .u8 0) := (blk_cell BK136.out 1).trans rfl; have hcz33_2 : w31.cell? ⟨gb136, 2, none⟩ = some (.int .u8 0) := (blk_cell BK136.out 2).trans rfl; have hcz33_3 : w31.cell? ⟨gb136, 3, none⟩ = some (.int .u8 0) := (blk_cell BK136.out 3).trans rfl; have hcz33_4 : w31.cell? ⟨gb136, 4, none⟩ = some (.int .u8 0) := (blk_cell BK136.out 4).trans rfl; have hcz33_5 : w31.cell? ⟨gb136, 5, none⟩ = some (.int .u16 0) := (blk_cell BK136.out 5).trans rfl; have hfz33_0 := blk_frozen BK136.out 0; have hfz33_1 := blk_frozen BK136.out 1; have hfz33_2 := blk_frozen BK136.out 2; have hfz33_3 := blk_frozen BK136.out 3; have hfz33_4 := blk_frozen BK136.out 4; have hfz33_5 := blk_frozen BK136.out 5))
                have n0_ : Aside0 (Kd.R k36 36 ((((((w31.setCell ⟨gb136, 0, none⟩ (.int .u8 t130)).setCell ⟨gb136, 1, none⟩ (.int .u8 t131)).setCell ⟨gb136, 2, none⟩ (.int .u8 t132)).setCell ⟨gb136, 3, none⟩ (.int .u8 t133)).setCell ⟨gb136, 4, none⟩ (.int .u8 t134)).setCell ⟨gb136, 5, none⟩ (.int .u16 t135)) w.heap.size (fun _ => True) (.slice (some ad129) t126.length co5) t126) := ⟨by (with_reducible repeat (first | apply Kd.R_alloc | apply Kd.R_drewN | apply Kd.R_drew)); exact Kd.R_mono (Kd.R_far (p := ⟨gb136, 5, none⟩) (Kd.R_far (p := ⟨gb136, 4, none⟩) (Kd.R_far (p := ⟨gb136, 3, none⟩) (Kd.R_far (p := ⟨gb136, 2, none⟩) (Kd.R_far (p := ⟨gb136, 1, none⟩) (Kd.R_far (p := ⟨gb136, 0, none⟩) (Kd.R_types HO_4.out BK136.out (by decide)) (fun _ hk => hk.2) (.int .u8 t130)) (fun _ hk => hk.2) (.int .u8 t131)) (fun _ hk => hk.2) (.int .u8 t132)) (fun _ hk => hk.2) (.int .u8 t133)) (fun _ hk => hk.2) (.int .u8 t134)) (fun _ hk => hk.2) (.int .u16 t135)) (fun _ hk => trivial)⟩
                have n1_ : Aside0 (((((((w31.setCell ⟨gb136, 0, none⟩ (.int .u8 t130)).setCell ⟨gb136, 1, none⟩ (.int .u8 t131)).setCell ⟨gb136, 2, none⟩ (.int .u8 t132)).setCell ⟨gb136, 3, none⟩ (.int .u8 t133)).setCell ⟨gb136, 4, none⟩ (.int .u8 t134)).setCell ⟨gb136, 5, none⟩ (.int .u16 t135)).heap[gb125]? = some (.cells #[.int .u8 x126000_1, .int .u8 x126001_1, .int .u8 x126002_1, .int .u8 x126003_1, .int .u8 x126004_1, .int .u16 x126005_1] 25 (0, 0))) := ⟨by (with_reducible repeat (first | refine blk_drewN ?_ _ | refine blk_drew ?_ | refine blk_alloc ?_ _)); refine blk_far ?_ NB125_136.out _; (with_reducible repeat (first | refine blk_drewN ?_ _ | refine blk_drew ?_ | refine blk_alloc ?_ _)); refine blk_far ?_ NB125_136.out _; (with_reducible repeat (first | refine blk_drewN ?_ _ | refine blk_drew ?_ | refine blk_alloc ?_ _)); refine blk_far ?_ NB125_136.out _; (with_reducible repeat (first | refine blk_drewN ?_ _ | refine blk_drew ?_ | refine blk_alloc ?_ _)); refine blk_far ?_ NB125_136.out _; (with_reducible repeat (first | refine blk_drewN ?_ _ | refine blk_drew ?_ | refine blk_alloc ?_ _)); refine blk_far ?_ NB125_136.out _; (with_reducible repeat (first | refine blk_drewN ?_ _ | refine blk_drew ?_ | refine blk_alloc ?_ _)); refine blk_far ?_ NB125_136.out _; (with_reducible repeat (first | refine blk_drewN ?_ _ | refine blk_drew ?_ | refine blk_alloc ?_ _)); exact BK125.out⟩
                have n2_ : Aside0 (((((((w31.setCell ⟨gb136, 0, none⟩ (.int .u8 t130)).setCell ⟨gb136, 1, none⟩ (.int .u8 t131)).setCell ⟨gb136, 2, none⟩ (.int .u8 t132)).setCell ⟨gb136, 3, none⟩ (.int .u8 t133)).setCell ⟨gb136, 4, none⟩ (.int .u8 t134)).setCell ⟨gb136, 5, none⟩ (.int .u16 t135)).heap[gb136]? = some (.cells #[.int .u8 t130, .int .u8 t131, .int .u8 t132, .int .u8 t133, .int .u8 t134, .int .u16 t135] 25 (0, 0))) := ⟨by (with_reducible repeat (first | refine blk_drewN ?_ _ | refine blk_drew ?_ | refine blk_alloc ?_ _)); refine blk_put (cs := #[.int .u8 t130, .int .u8 t131, .int .u8 t132, .int .u8 t133, .int .u8 t134, .int .u16 0]) ?_ 5 _ rfl; (with_reducible repeat (first | refine blk_drewN ?_ _ | refine blk_drew ?_ | refine blk_alloc ?_ _)); refine blk_put (cs := #[.int .u8 t130, .int .u8 t131, .int .u8 t132, .int .u8 t133, .int .u8 0, .int .u16 0]) ?_ 4 _ rfl; (with_reducible repeat (first | refine blk_drewN ?_ _ | refine blk_drew ?_ | refine blk_alloc ?_ _)); refine blk_put (cs := #[.int .u8 t130, .int .u8 t131, .int .u8 t132, .int .u8 0, .int .u8 0, .int .u16 0]) ?_ 3 _ rfl; (with_reducible repeat (first | refine blk_drewN ?_ _ | refine blk_drew ?_ | refine blk_alloc ?_ _)); refine blk_put (cs := #[.int .u8 t130, .int .u8 t131, .int .u8 0, .int .u8 0, .int .u8 0, .int .u16 0]) ?_ 2 _ rfl; (with_reducible repeat (first | refine blk_drewN ?_ _ | refine blk_drew ?_ | refine blk_alloc ?_ _)); refine blk_put (cs := #[.int .u8 t130, .int .u8 0, .int .u8 0, .int .u8 0, .int .u8 0, .int .u16 0]) ?_ 1 _ rfl; (with_reducible repeat (first | refine blk_drewN ?_ _ | refine blk_drew ?_ | refine blk_alloc ?_ _)); refine blk_put (cs := #[.int .u8 0, .int .u8 0, .int .u8 0, .int .u8 0, .int .u8 0, .int .u16 0]) ?_ 0 _ rfl; (with_reducible repeat (first | refine blk_drewN ?_ _ | refine blk_drew ?_ | refine blk_alloc ?_ _)); exact BK136.out⟩
                have n3_ : Aside0 (Below w.heap.size w ((((((w31.setCell ⟨gb136, 0, none⟩ (.int .u8 t130)).setCell ⟨gb136, 1, none⟩ (.int .u8 t131)).setCell ⟨gb136, 2, none⟩ (.int .u8 t132)).setCell ⟨gb136, 3, none⟩ (.int .u8 t133)).setCell ⟨gb136, 4, none⟩ (.int .u8 t134)).setCell ⟨gb136, 5, none⟩ (.int .u16 t135))) := ⟨by repeat (first | (with_reducible first | exact HB.out | apply below_alloc | apply pw_below_drewN | apply below_drew1 | refine below_set ?_ GE125.out | refine below_set ?_ GE136.out) | exact HB.out)⟩
                (try clear HO_4)
                (try clear BK125)
                (try clear BK136)
                (try clear HB)
                generalize ((((((w31.setCell ⟨gb136, 0, none⟩ (.int .u8 t130)).setCell ⟨gb136, 1, none⟩ (.int .u8 t131)).setCell ⟨gb136, 2, none⟩ (.int .u8 t132)).setCell ⟨gb136, 3, none⟩ (.int .u8 t133)).setCell ⟨gb136, 4, none⟩ (.int .u8 t134)).setCell ⟨gb136, 5, none⟩ (.int .u16 t135)) = w34 at n0_ n1_ n2_ n3_ ⊢
                have HO_4 := n0_
                have BK125 := n1_
                have BK136 := n2_
                have HB := n3_
                clear n0_ n1_ n2_ n3_
                have n0_ := Aside0.mk (Kd.R_drew HO_4.out)
                have n1_ := Aside0.mk (blk_drew BK125.out)
                have n2_ := Aside0.mk (blk_drew BK136.out)
                have n3_ := Aside0.mk (below_drew1 HB.out)
                clear HO_4
                clear BK125
                clear BK136
                clear HB
                have HO_4 := n0_
                have BK125 := n1_
                have BK136 := n2_
                have HB := n3_
                clear n0_ n1_ n2_ n3_
                have p137 : 0 ≤ (x5_1 : Int) := of_decide_eq_true (by first | (with_reducible assumption) | assumption)
                have q137 : x5_1 < (t126.length : Int) := of_decide_eq_true (by first | (with_reducible assumption) | assumption)
                obtain ⟨ad137, e137, hx137_0, hx137_1, hx137_2, hx137_3⟩ := at_T36 (Kd.R_reads' HO_4.out).2.2 x5_1 p137 q137
                obtain rfl : ad129 = ad137 := (by injection e137)
                replace p137 := eq_true p137
                replace q137 := eq_true q137
                have p139 : 0 ≤ (x5_1 : Int) := of_decide_eq_true (by first | (with_reducible assumption) | assumption)
                have q139 : x5_1 < (t126.length : Int) := of_decide_eq_true (by first | (with_reducible assumption) | assumption)
                obtain ⟨ad139, e139, hx139_0, hx139_1, hx139_2, hx139_3⟩ := at_T36 (Kd.R_reads' HO_4.out).2.2 x5_1 p139 q139
                obtain rfl : ad129 = ad139 := (by injection e139)
                replace p139 := eq_true p139
                replace q139 := eq_true q139
                refine start_ (n := 20) (S := fun w' => w'.cell? ⟨gb136, 0, none⟩ = some (.int .u8 t130) ∧ w'.cell? ⟨gb136, 1, none⟩ = some (.int .u8 t131) ∧ w'.cell? ⟨gb136, 2, none⟩ = some (.int .u8 t132) ∧ w'.cell? ⟨gb136, 3, none⟩ = some (.int .u8 t133) ∧ w'.cell? ⟨gb136, 4, none⟩ = some (.int .u8 t134) ∧ w'.cell? ⟨gb136, 5, none⟩ = some (.int .u16 t135) ∧ w'.cell? (ad129.add ((x5_1).toNat * 4)) = some (.int .u8 ((rd_T36 t126 x5_1).f0)) ∧ w'.cell? ⟨(ad129.add ((x5_1).toNat * 4)).block, (ad129.add ((x5_1).toNat * 4)).off + 1, none⟩ = some (.int .u16 ((rd_T36 t126 x5_1).f1)) ∧ w'.cell? ⟨(ad129.add ((x5_1).toNat * 4)).block, (ad129.add ((x5_1).toNat * 4)).off + 2, none⟩ = some (.string ((rd_T36 t126 x5_1).f2)) ∧ w'.cell? ⟨(ad129.add ((x5_1).toNat * 4)).block, (ad129.add ((x5_1).toNat * 4)).off + 3, none⟩ = some (.string ((rd_T36 t126 x5_1).f3)) ∧ w'.cell? (ad129.add ((x5_1).toNat * 4)) = some (.int .u8 ((rd_T36 t126 x5_1).f0)) ∧ w'.cell? ⟨(ad129.add ((x5_1).toNat * 4)).block, (ad129.add ((x5_1).toNat * 4)).off + 1, none⟩ = some (.int .u16 ((rd_T36 t126 x5_1).f1)) ∧ w'.cell? ⟨(ad129.add ((x5_1).toNat * 4)).block, (ad129.add ((x5_1).toNat * 4)).off + 2, none⟩ = some (.string ((rd_T36 t126 x5_1).f2)) ∧ w'.cell? ⟨(ad129.add ((x5_1).toNat * 4)).block, (ad129.add ((x5_1).toNat * 4)).off + 3, none⟩ = some (.string ((rd_T36 t126 x5_1).f3))) (ds := []) #[false, false, false, false, false, false, false, false, false, false, false, false, false, false, false, false, false, false, false, false] (by kernel_rfl) rfl rfl ⟨(blk_cell BK136.out 0).trans rfl, (blk_cell BK136.out 1).trans rfl, (blk_cell BK136.out 2).trans rfl, (blk_cell BK136.out 3).trans rfl, (blk_cell BK136.out 4).trans rfl, (blk_cell BK136.out 5).trans rfl, hx137_0, hx137_1, hx137_2, hx137_3, hx139_0, hx139_1, hx139_2, hx139_3⟩ (fun hHeld => ?_); refine with_tabW vesperref16_Decode.tab6 vesperref16_Decode.bits6 (fun HT_ HW_ => ?_)
                generalize w34.drew = w35 at HO_4 BK125 BK136 HB hx137_0 hx137_1 hx137_2 hx137_3 hx139_0 hx139_1 hx139_2 hx139_3 hHeld ⊢
                refine pure_ (i := 0) (N := some 21) (v := ?_) (a' := ?_) #[true, false, false, false, false, false, false, false, false, false, false, false, false, false, false, false, false, false, false, false] rfl rfl (any_of HT_.out (by kernel_rfl)) (fun _ _ _ h => h) (Or.inl ⟨by rfl, ?_⟩) ?_ ?_
                rotate_left
                · intro w'
                  go_simp
                  with_reducible rfl
                rotate_left
                · simp only [Act.put, List.setIfInBounds_toArray, List.set_cons_zero, List.set_cons_succ, i64_w, i32_w]
                  rfl
                refine pure_ (i := 1) (N := some 22) (v := ?_) (a' := ?_) #[true, true, false, false, false, false, false, false, false, false, false, false, false, false, false, false, false, false, false, false] rfl rfl (any_of HT_.out (by kernel_rfl)) (fun _ _ _ h => h) (Or.inl ⟨by rfl, ?_⟩) ?_ ?_
                rotate_left
                · intro w'
                  go_simp
                  with_reducible rfl
                rotate_left
                · simp only [Act.put, List.setIfInBounds_toArray, List.set_cons_zero, List.set_cons_succ, i64_w, i32_w]
                  rfl
                refine pure_ (i := 2) (N := some 23) (v := ?_) (a' := ?_) #[true, true, true, false, false, false, false, false, false, false, false, false, false, false, false, false, false, false, false, false] rfl rfl (any_of HT_.out (by kernel_rfl)) (fun _ _ _ h => h) (Or.inl ⟨by rfl, ?_⟩) ?_ ?_
                rotate_left
                · intro w'
                  go_simp
                  with_reducible rfl
                rotate_left
                · simp only [Act.put, List.setIfInBounds_toArray, List.set_cons_zero, List.set_cons_succ, i64_w, i32_w]
                  rfl
                refine pure_ (i := 6) (N := some 27) (v := ?_) (a' := ?_) #[true, true, true, false, false, false, true, false, false, false, false, false, false, false, false, false, false, false, false, false] rfl rfl (any_of HT_.out (by kernel_rfl)) (fun _ _ _ h => h) (Or.inl ⟨by rfl, ?_⟩) ?_ ?_
                rotate_left
                · intro w'
                  go_simp
                  with_reducible rfl
                rotate_left
                · simp only [Act.put, List.setIfInBounds_toArray, List.set_cons_zero, List.set_cons_succ, i64_w, i32_w]
                  rfl
                refine take_ (i := 3) (N := some 24) (v := ?_) (a' := ?_) #[true, true, true, true, false, false, true, false, false, false, false, false, false, false, false, false, false, false, false, false] rfl rfl (take_ofW HT_.out HW_.out (by kernel_rfl)) (fun _ _ _ h => h) (Or.inl ⟨by rfl, ?_⟩) hHeld ?_ ?_
                rotate_left
                · rintro w' ⟨s0, s1, s2, s3, s4, s5, s6, s7, s8, s9, s10, s11, s12, s13⟩
                  go_simp
                  with_reducible rfl
                rotate_left
                · simp only [Act.put, List.setIfInBounds_toArray, List.set_cons_zero, List.set_cons_succ, i64_w, i32_w]
                  rfl
                refine take_ (i := 4) (N := some 25) (v := ?_) (a' := ?_) #[true, true, true, true, true, false, true, false, false, false, false, false, false, false, false, false, false, false, false, false] rfl rfl (take_ofW HT_.out HW_.out (by kernel_rfl)) (fun _ _ _ h => h) (Or.inl ⟨by rfl, ?_⟩) hHeld ?_ ?_
                rotate_left
                · rintro w' ⟨s0, s1, s2, s3, s4, s5, s6, s7, s8, s9, s10, s11, s12, s13⟩
                  go_simp
                  with_reducible rfl
                rotate_left
                · simp only [Act.put, List.setIfInBounds_toArray, List.set_cons_zero, List.set_cons_succ, i64_w, i32_w]
                  rfl
                refine one_ (i := 5) (N := some 26) #[true, true, true, true, true, true, true, false, false, false, false, false, false, false, false, false, false, false, false, false] rfl rfl (one_of HT_.out (by kernel_rfl)) (by decide) (fun K hK => ?_)
                refine goes_ Try.func9 (by kernel_rfl) rfl #[.agg #[.int .u8 ((rd_T36 t126 x5_1).f0), .int .u16 ((rd_T36 t126 x5_1).f1), .string ((rd_T36 t126 x5_1).f2), .string ((rd_T36 t126 x5_1).f3)], .agg #[.int .u8 t130, .int .u8 t131, .int .u8 t132, .int .u8 t133, .int .u8 t134, .int .u16 t135]] (by rfl) rfl rfl (by (try simp only [List.map_toArray, List.map_cons, List.map_nil]); first | done | rfl | (simp only [List.length_drop, List.length_take]; rfl)) ?_
                with_reducible refine (vesperref16_Word_word.calls k1 ((rd_T36 t126 x5_1).f0) ((rd_T36 t126 x5_1).f1) ((rd_T36 t126 x5_1).f2) ((rd_T36 t126 x5_1).f3) t130 t131 t132 t133 t134 t135 t138 _ A10.out).mono ?_
                rintro e w36 ⟨rfl, hb⟩
                have HS6_ := (hb.cell (World.block_lt_of_cell? _ _ (hHeld.2.2.2.2.2.2.1))).trans (hHeld.2.2.2.2.2.2.1)
                have HS7_ := (hb.cell (World.block_lt_of_cell? _ _ (hHeld.2.2.2.2.2.2.2.1))).trans (hHeld.2.2.2.2.2.2.2.1)
                have HS8_ := (hb.cell (World.block_lt_of_cell? _ _ (hHeld.2.2.2.2.2.2.2.2.1))).trans (hHeld.2.2.2.2.2.2.2.2.1)
                have HS9_ := (hb.cell (World.block_lt_of_cell? _ _ (hHeld.2.2.2.2.2.2.2.2.2.1))).trans (hHeld.2.2.2.2.2.2.2.2.2.1)
                have HS10_ := (hb.cell (World.block_lt_of_cell? _ _ (hHeld.2.2.2.2.2.2.2.2.2.2.1))).trans (hHeld.2.2.2.2.2.2.2.2.2.2.1)
                have HS11_ := (hb.cell (World.block_lt_of_cell? _ _ (hHeld.2.2.2.2.2.2.2.2.2.2.2.1))).trans (hHeld.2.2.2.2.2.2.2.2.2.2.2.1)
                have HS12_ := (hb.cell (World.block_lt_of_cell? _ _ (hHeld.2.2.2.2.2.2.2.2.2.2.2.2.1))).trans (hHeld.2.2.2.2.2.2.2.2.2.2.2.2.1)
                have HS13_ := (hb.cell (World.block_lt_of_cell? _ _ (hHeld.2.2.2.2.2.2.2.2.2.2.2.2.2))).trans (hHeld.2.2.2.2.2.2.2.2.2.2.2.2.2)
                refine ⟨_, rfl, ?_⟩
                have n0_ := Aside0.mk (Kd.R_below (by (with_reducible repeat (first | apply Kd.R_alloc | apply Kd.R_drewN | apply Kd.R_drew)); exact HO_4.out) hb)
                have n1_ := Aside0.mk (blk_below (g := gb125) (o := .cells #[.int .u8 x126000_1, .int .u8 x126001_1, .int .u8 x126002_1, .int .u8 x126003_1, .int .u8 x126004_1, .int .u16 x126005_1] 25 (0, 0)) (by (with_reducible repeat (first | refine blk_drewN ?_ _ | refine blk_drew ?_ | refine blk_alloc ?_ _)); exact BK125.out) hb)
                have n2_ := Aside0.mk (blk_below (g := gb136) (o := .cells #[.int .u8 t130, .int .u8 t131, .int .u8 t132, .int .u8 t133, .int .u8 t134, .int .u16 t135] 25 (0, 0)) (by (with_reducible repeat (first | refine blk_drewN ?_ _ | refine blk_drew ?_ | refine blk_alloc ?_ _)); exact BK136.out) hb)
                have n3_ := Aside0.mk (below_step (by repeat (first | (with_reducible first | exact HB.out | apply below_alloc | apply pw_below_drewN | apply below_drew1 | refine below_set ?_ GE125.out | refine below_set ?_ GE136.out) | exact HB.out)) hb)
                clear HO_4
                clear BK125
                clear BK136
                clear HB
                have HO_4 := n0_
                have BK125 := n1_
                have BK136 := n2_
                have HB := n3_
                clear n0_ n1_ n2_ n3_
                (try clear hb)
                (try clear hb2)
                (try clear hk)
                (try clear hi)
                refine hK.out _ _ ⟨(blk_cell BK136.out 0).trans rfl, (blk_cell BK136.out 1).trans rfl, (blk_cell BK136.out 2).trans rfl, (blk_cell BK136.out 3).trans rfl, (blk_cell BK136.out 4).trans rfl, (blk_cell BK136.out 5).trans rfl, HS6_, HS7_, HS8_, HS9_, HS10_, HS11_, HS12_, HS13_⟩ (fun hHeld => ?_)
                clear hK K
                refine norm_ (a' := ?_) ?_ ?_
                rotate_left
                · show Act.put _ (some 26) _ = _
                  simp only [Act.put, List.setIfInBounds_toArray, List.set_cons_zero, List.set_cons_succ, i64_w, i32_w]
                  rfl
                refine pure_ (i := 7) (N := some 28) (v := ?_) (a' := ?_) #[true, true, true, true, true, true, true, true, false, false, false, false, false, false, false, false, false, false, false, false] rfl rfl (any_of HT_.out (by kernel_rfl)) (fun _ _ _ h => h) (Or.inl ⟨by rfl, ?_⟩) ?_ ?_
                rotate_left
                · intro w'
                  go_simp
                  with_reducible rfl
                rotate_left
                · simp only [Act.put, List.setIfInBounds_toArray, List.set_cons_zero, List.set_cons_succ, i64_w, i32_w]
                  rfl
                refine pure_ (i := 8) (N := some 29) (v := ?_) (a' := ?_) #[true, true, true, true, true, true, true, true, true, false, false, false, false, false, false, false, false, false, false, false] rfl rfl (any_of HT_.out (by kernel_rfl)) (fun _ _ _ h => h) (Or.inl ⟨by rfl, ?_⟩) ?_ ?_
                rotate_left
                · intro w'
                  go_simp
                  with_reducible rfl
                rotate_left
                · simp only [Act.put, List.setIfInBounds_toArray, List.set_cons_zero, List.set_cons_succ, i64_w, i32_w]
                  rfl
                refine pure_ (i := 9) (N := some 30) (v := ?_) (a' := ?_) #[true, true, true, true, true, true, true, true, true, true, false, false, false, false, false, false, false, false, false, false] rfl rfl (any_of HT_.out (by kernel_rfl)) (fun _ _ _ h => h) (Or.inl ⟨by rfl, ?_⟩) ?_ ?_
                rotate_left
                · intro w'
                  go_simp
                  with_reducible rfl
                rotate_left
                · simp only [Act.put, List.setIfInBounds_toArray, List.set_cons_zero, List.set_cons_succ, i64_w, i32_w]
                  rfl
                refine pure_ (i := 10) (N := some 31) (v := ?_) (a' := ?_) #[true, true, true, true, true, true, true, true, true, true, true, false, false, false, false, false, false, false, false, false] rfl rfl (any_of HT_.out (by kernel_rfl)) (fun _ _ _ h => h) (Or.inl ⟨by rfl, ?_⟩) ?_ ?_
                rotate_left
                · intro w'
                  go_simp
                  with_reducible rfl
                rotate_left
                · simp only [Act.put, List.setIfInBounds_toArray, List.set_cons_zero, List.set_cons_succ, i64_w, i32_w]
                  rfl
                refine pure_ (i := 11) (N := some 32) (v := ?_) (a' := ?_) #[true, true, true, true, true, true, true, true, true, true, true, true, false, false, false, false, false, false, false, false] rfl rfl (any_of HT_.out (by kernel_rfl)) (fun _ _ _ h => h) (Or.inl ⟨by rfl, ?_⟩) ?_ ?_
                rotate_left
                · intro w'
                  go_simp
                  with_reducible rfl
                rotate_left
                · simp only [Act.put, List.setIfInBounds_toArray, List.set_cons_zero, List.set_cons_succ, i64_w, i32_w]
                  rfl
                refine pure_ (i := 12) (N := some 33) (v := ?_) (a' := ?_) #[true, true, true, true, true, true, true, true, true, true, true, true, true, false, false, false, false, false, false, false] rfl rfl (any_of HT_.out (by kernel_rfl)) (fun _ _ _ h => h) (Or.inl ⟨by rfl, ?_⟩) ?_ ?_
                rotate_left
                · intro w'
                  go_simp
                  with_reducible rfl
                rotate_left
                · simp only [Act.put, List.setIfInBounds_toArray, List.set_cons_zero, List.set_cons_succ, i64_w, i32_w]
                  rfl
                refine take_ (i := 13) (N := some 34) (v := ?_) (a' := ?_) #[true, true, true, true, true, true, true, true, true, true, true, true, true, true, false, false, false, false, false, false] rfl rfl (take_ofW HT_.out HW_.out (by kernel_rfl)) (fun _ _ _ h => h) (Or.inl ⟨by rfl, ?_⟩) hHeld ?_ ?_
                rotate_left
                · rintro w' ⟨s0, s1, s2, s3, s4, s5, s6, s7, s8, s9, s10, s11, s12, s13⟩
                  go_simp
                  with_reducible rfl
                rotate_left
                · simp only [Act.put, List.setIfInBounds_toArray, List.set_cons_zero, List.set_cons_succ, i64_w, i32_w]
                  rfl
                refine pure_ (i := 14) (N := some 35) (v := ?_) (a' := ?_) #[true, true, true, true, true, true, true, true, true, true, true, true, true, true, true, false, false, false, false, false] rfl rfl (any_of HT_.out (by kernel_rfl)) (fun _ _ _ h => h) (Or.inl ⟨by rfl, ?_⟩) ?_ ?_
                rotate_left
                · intro w'
                  go_simp
                  with_reducible rfl
                rotate_left
                · simp only [Act.put, List.setIfInBounds_toArray, List.set_cons_zero, List.set_cons_succ, i64_w, i32_w]
                  rfl
                refine pure_ (i := 15) (N := some 36) (v := ?_) (a' := ?_) #[true, true, true, true, true, true, true, true, true, true, true, true, true, true, true, true, false, false, false, false] rfl rfl (any_of HT_.out (by kernel_rfl)) (fun _ _ _ h => h) (Or.inl ⟨by rfl, ?_⟩) ?_ ?_
                rotate_left
                · intro w'
                  go_simp
                  with_reducible rfl
                rotate_left
                · simp only [Act.put, List.setIfInBounds_toArray, List.set_cons_zero, List.set_cons_succ, i64_w, i32_w]
                  rfl
                refine pure_ (i := 16) (N := some 37) (v := undef) (a' := ?_) #[true, true, true, true, true, true, true, true, true, true, true, true, true, true, true, true, true, false, false, false] rfl rfl (any_of HT_.out (by kernel_rfl)) (fun _ _ _ h => h) (Or.inr ⟨by rfl, rfl⟩) ?_ ?_
                rotate_left
                · simp only [Act.put, List.setIfInBounds_toArray, List.set_cons_zero, List.set_cons_succ, i64_w, i32_w]
                  rfl
                refine pure_ (i := 17) (N := some 38) (v := undef) (a' := ?_) #[true, true, true, true, true, true, true, true, true, true, true, true, true, true, true, true, true, true, false, false] rfl rfl (any_of HT_.out (by kernel_rfl)) (fun _ _ _ h => h) (Or.inr ⟨by rfl, rfl⟩) ?_ ?_
                rotate_left
                · simp only [Act.put, List.setIfInBounds_toArray, List.set_cons_zero, List.set_cons_succ, i64_w, i32_w]
                  rfl
                refine pure_ (i := 18) (N := some 39) (v := ?_) (a' := ?_) #[true, true, true, true, true, true, true, true, true, true, true, true, true, true, true, true, true, true, true, false] rfl rfl (any_of HT_.out (by kernel_rfl)) (fun _ _ _ h => h) (Or.inl ⟨by rfl, ?_⟩) ?_ ?_
                rotate_left
                · intro w'
                  go_simp
                  with_reducible rfl
                rotate_left
                · simp only [Act.put, List.setIfInBounds_toArray, List.set_cons_zero, List.set_cons_succ, i64_w, i32_w]
                  rfl
                refine pure_ (i := 19) (N := some 40) (v := ?_) (a' := ?_) #[true, true, true, true, true, true, true, true, true, true, true, true, true, true, true, true, true, true, true, true] rfl rfl (any_of HT_.out (by kernel_rfl)) (fun _ _ _ h => h) (Or.inl ⟨by rfl, ?_⟩) ?_ ?_
                rotate_left
                · intro w'
                  go_simp
                  with_reducible rfl
                rotate_left
                · simp only [Act.put, List.setIfInBounds_toArray, List.set_cons_zero, List.set_cons_succ, i64_w, i32_w]
                  rfl
                refine done_ (done_of HT_.out (by kernel_rfl)) ?_
                have hcz37_0 : w36.cell? ⟨gb136, 0, none⟩ = some (.int .u8 t130) := (blk_cell BK136.out 0).trans rfl
                have hcz37_1 : w36.cell? ⟨gb136, 1, none⟩ = some (.int .u8 t131) := (blk_cell BK136.out 1).trans rfl
                have hcz37_2 : w36.cell? ⟨gb136, 2, none⟩ = some (.int .u8 t132) := (blk_cell BK136.out 2).trans rfl
                have hcz37_3 : w36.cell? ⟨gb136, 3, none⟩ = some (.int .u8 t133) := (blk_cell BK136.out 3).trans rfl
                have hcz37_4 : w36.cell? ⟨gb136, 4, none⟩ = some (.int .u8 t134) := (blk_cell BK136.out 4).trans rfl
                have hcz37_5 : w36.cell? ⟨gb136, 5, none⟩ = some (.int .u16 t135) := (blk_cell BK136.out 5).trans rfl
                have hfz37_0 := blk_frozen BK136.out 0
                have hfz37_1 := blk_frozen BK136.out 1
                have hfz37_2 := blk_frozen BK136.out 2
                have hfz37_3 := blk_frozen BK136.out 3
                have hfz37_4 := blk_frozen BK136.out 4
                have hfz37_5 := blk_frozen BK136.out 5
                have hcz38_0 : w36.cell? ⟨gb125, 0, none⟩ = some (.int .u8 x126000_1) := (blk_cell BK125.out 0).trans rfl
                have hcz38_1 : w36.cell? ⟨gb125, 1, none⟩ = some (.int .u8 x126001_1) := (blk_cell BK125.out 1).trans rfl
                have hcz38_2 : w36.cell? ⟨gb125, 2, none⟩ = some (.int .u8 x126002_1) := (blk_cell BK125.out 2).trans rfl
                have hcz38_3 : w36.cell? ⟨gb125, 3, none⟩ = some (.int .u8 x126003_1) := (blk_cell BK125.out 3).trans rfl
                have hcz38_4 : w36.cell? ⟨gb125, 4, none⟩ = some (.int .u8 x126004_1) := (blk_cell BK125.out 4).trans rfl
                have hcz38_5 : w36.cell? ⟨gb125, 5, none⟩ = some (.int .u16 x126005_1) := (blk_cell BK125.out 5).trans rfl
                have hfz38_0 := blk_frozen BK125.out 0
                have hfz38_1 := blk_frozen BK125.out 1
                have hfz38_2 := blk_frozen BK125.out 2
                have hfz38_3 := blk_frozen BK125.out 3
                have hfz38_4 := blk_frozen BK125.out 4
                have hfz38_5 := blk_frozen BK125.out 5
                try go_wp2
                refine bodyPost_ret (results_ct rfl _ _ gb125 25 #[.int .u8 t130, .int .u8 t131, .int .u8 t132, .int .u8 t133, .int .u8 t134, .int .u16 t135] (0, 0) _ rfl (by (with_reducible repeat (first | refine blk_drewN ?_ _ | refine blk_drew ?_ | refine blk_alloc ?_ _)); refine blk_put (cs := #[.int .u8 t130, .int .u8 t131, .int .u8 t132, .int .u8 t133, .int .u8 t134, .int .u16 x126005_1]) ?_ 5 _ rfl; (with_reducible repeat (first | refine blk_drewN ?_ _ | refine blk_drew ?_ | refine blk_alloc ?_ _)); refine blk_put (cs := #[.int .u8 t130, .int .u8 t131, .int .u8 t132, .int .u8 t133, .int .u8 x126004_1, .int .u16 x126005_1]) ?_ 4 _ rfl; (with_reducible repeat (first | refine blk_drewN ?_ _ | refine blk_drew ?_ | refine blk_alloc ?_ _)); refine blk_put (cs := #[.int .u8 t130, .int .u8 t131, .int .u8 t132, .int .u8 x126003_1, .int .u8 x126004_1, .int .u16 x126005_1]) ?_ 3 _ rfl; (with_reducible repeat (first | refine blk_drewN ?_ _ | refine blk_drew ?_ | refine blk_alloc ?_ _)); refine blk_put (cs := #[.int .u8 t130, .int .u8 t131, .int .u8 x126002_1, .int .u8 x126003_1, .int .u8 x126004_1, .int .u16 x126005_1]) ?_ 2 _ rfl; (with_reducible repeat (first | refine blk_drewN ?_ _ | refine blk_drew ?_ | refine blk_alloc ?_ _)); refine blk_put (cs := #[.int .u8 t130, .int .u8 x126001_1, .int .u8 x126002_1, .int .u8 x126003_1, .int .u8 x126004_1, .int .u16 x126005_1]) ?_ 1 _ rfl; (with_reducible repeat (first | refine blk_drewN ?_ _ | refine blk_drew ?_ | refine blk_alloc ?_ _)); refine blk_put (cs := #[.int .u8 x126000_1, .int .u8 x126001_1, .int .u8 x126002_1, .int .u8 x126003_1, .int .u8 x126004_1, .int .u16 x126005_1]) ?_ 0 _ rfl; (with_reducible repeat (first | refine blk_drewN ?_ _ | refine blk_drew ?_ | refine blk_alloc ?_ _)); exact BK125.out) Try.underlying25 rfl (by kernel_rfl)) rfl ?_
                exact ⟨by first | rfl | (simp [errW_none, errW_some] <;> rfl) | (simp [*, errW_none, errW_some] <;> rfl), by repeat (first | (with_reducible first | exact HB.out | apply below_alloc | apply pw_below_drewN | apply below_drew1 | refine below_set ?_ GE125.out | refine below_set ?_ GE136.out) | exact HB.out)⟩
            · rw [if_neg c11] at H
              have c11b0 : (t138 == a0) = false := beq_eq_false_iff_ne.mpr c11
              have c11b1 : (t138 != a0) = true := bne_iff_ne.mpr c11
              have H' := Aside0.mk H
              clear H
              have p129 : 0 ≤ (x5_1 : Int) := of_decide_eq_true (by first | (with_reducible assumption) | assumption)
              have q129 : x5_1 < (t126.length : Int) := of_decide_eq_true (by first | (with_reducible assumption) | assumption)
              obtain ⟨ad129, e129, hx129_0, hx129_1, hx129_2, hx129_3⟩ := at_T36 (Kd.R_reads' HO_4.out).2.2 x5_1 p129 q129
              cases e129
              replace p129 := eq_true p129
              replace q129 := eq_true q129
              try go_wp2_with (first | ((with_reducible refine gate_callee (f := 14) rfl ?_); refine goesL_ (some 20) rfl rfl Try.func14 (by kernel_rfl) rfl #[.agg #[.int .u8 ((rd_T36 t126 x5_1).f0), .int .u16 ((rd_T36 t126 x5_1).f1), .string ((rd_T36 t126 x5_1).f2), .string ((rd_T36 t126 x5_1).f3)], .int .u16 a0] rfl (by (try simp only [List.map_toArray, List.map_cons, List.map_nil]); first | done | rfl | (simp only [List.length_drop, List.length_take]; rfl)) ?_; (with_reducible refine (vesperref16_Word_order.calls k1 ((rd_T36 t126 x5_1).f0) ((rd_T36 t126 x5_1).f1) ((rd_T36 t126 x5_1).f2) ((rd_T36 t126 x5_1).f3) a0 t130 t131 t132 t133 t134 t135 _ A9.out).mono ?_); rintro e w39 ⟨rfl, hb⟩; refine ⟨_, rfl, ?_⟩; have n0_ := Aside0.mk (Kd.R_below (by (with_reducible repeat (first | apply Kd.R_alloc | apply Kd.R_drewN | apply Kd.R_drew)); exact HO_4.out) hb); have n1_ := Aside0.mk (blk_below (g := gb125) (o := .cells #[.int .u8 x126000_1, .int .u8 x126001_1, .int .u8 x126002_1, .int .u8 x126003_1, .int .u8 x126004_1, .int .u16 x126005_1] 25 (0, 0)) (by (with_reducible repeat (first | refine blk_drewN ?_ _ | refine blk_drew ?_ | refine blk_alloc ?_ _)); exact BK125.out) hb); have n2_ := Aside0.mk (below_step (by repeat (first | (with_reducible first | exact HB.out | apply below_alloc | apply pw_below_drewN | apply below_drew1 | refine below_set ?_ GE125.out) | exact HB.out)) hb); clear HO_4; clear BK125; clear HB; have HO_4 := n0_; have BK125 := n1_; have HB := n2_; clear n0_ n1_ n2_; (try clear hb); (try clear hb2); (try clear hk); (try clear hi)) | ((with_reducible refine gate_dst (N := 6) rfl ?_); refine box_event ?hg (N := 6) ?hd (cs := #[.int .u8 0, .int .u8 0, .int .u8 0, .int .u8 0, .int .u8 0, .int .u16 0]) (t := 25) ?hr ?_; (case hd => rfl); (case hg => rfl); (case hr => first | (go_simp; done) | (go_simp; rfl)); intro gb136 hg w40 hbox hb; have n0_ := Aside0.mk (Kd.R_below (by (with_reducible repeat (first | apply Kd.R_alloc | apply Kd.R_drewN | apply Kd.R_drew)); exact HO_4.out) hb); have n1_ := Aside0.mk (blk_below (g := gb125) (o := .cells #[.int .u8 x126000_1, .int .u8 x126001_1, .int .u8 x126002_1, .int .u8 x126003_1, .int .u8 x126004_1, .int .u16 x126005_1] 25 (0, 0)) (by (with_reducible repeat (first | refine blk_drewN ?_ _ | refine blk_drew ?_ | refine blk_alloc ?_ _)); exact BK125.out) hb); have n2_ := Aside0.mk (below_step (by repeat (first | (with_reducible first | exact HB.out | apply below_alloc | apply pw_below_drewN | apply below_drew1 | refine below_set ?_ GE125.out) | exact HB.out)) hb); have n3_ := Aside0.mk (hbox); have n4_ := Aside0.mk ((by rw [hg]; exact (below_size (by repeat (first | (with_reducible first | exact HB.out | apply below_alloc | apply pw_below_drewN | apply below_drew1 | refine below_set ?_ GE125.out) | exact HB.out))) : w.heap.size ≤ gb136)); have n5_ := Aside0.mk ((by rw [hg]; exact (below_size (by repeat (first | (with_reducible first | exact HB.out | apply below_alloc | apply pw_below_drewN | apply below_drew1 | refine below_set ?_ GE125.out) | exact HB.out))) : w.heap.size ≤ gb136)); have n6_ := Aside0.mk ((by rw [hg]; exact Nat.ne_of_lt (blk_lt (g := gb125) (o := .cells #[.int .u8 x126000_1, .int .u8 x126001_1, .int .u8 x126002_1, .int .u8 x126003_1, .int .u8 x126004_1, .int .u16 x126005_1] 25 (0, 0)) (by (with_reducible repeat (first | refine blk_drewN ?_ _ | refine blk_drew ?_ | refine blk_alloc ?_ _)); exact BK125.out)) : gb125 ≠ gb136)); have n7_ := Aside0.mk ((by rw [hg]; exact Nat.ne_of_gt (blk_lt (g := gb125) (o := .cells #[.int .u8 x126000_1, .int .u8 x126001_1, .int .u8 x126002_1, .int .u8 x126003_1, .int .u8 x126004_1, .int .u16 x126005_1] 25 (0, 0)) (by (with_reducible repeat (first | refine blk_drewN ?_ _ | refine blk_drew ?_ | refine blk_alloc ?_ _)); exact BK125.out)) : gb136 ≠ gb125)); clear HO_4; clear BK125; clear HB; have HO_4 := n0_; have BK125 := n1_; have HB := n2_; have BK136 := n3_; have GW136 := n4_; have GE136 := n5_; have NB125_136 := n6_; have NB136_125 := n7_; clear n0_ n1_ n2_ n3_ n4_ n5_ n6_ n7_; clear hb hbox hg; have hnb41 := NB136_125.out; have hnc41 := NB125_136.out; have hcz42_0 : w40.cell? ⟨gb136, 0, none⟩ = some (.int .u8 0) := (blk_cell BK136.out 0).trans rfl; have hcz42_1 : w40.cell? ⟨gb136, 1, none⟩ = some (.int .u8 0) := (blk_cell BK136.out 1).trans rfl; have hcz42_2 : w40.cell? ⟨gb136, 2, none⟩ = some (.int .u8 0) := (blk_cell BK136.out 2).trans rfl; have hcz42_3 : w40.cell? ⟨gb136, 3, none⟩ = some (.int .u8 0) := (blk_cell BK136.out 3).trans rfl; have hcz42_4 : w40.cell? ⟨gb136, 4, none⟩ = some (.int .u8 0) := (blk_cell BK136.out 4).trans rfl; have hcz42_5 : w40.cell? ⟨gb136, 5, none⟩ = some (.int .u16 0) := (blk_cell BK136.out 5).trans rfl; have hfz42_0 := blk_frozen BK136.out 0; have hfz42_1 := blk_frozen BK136.out 1; have hfz42_2 := blk_frozen BK136.out 2; have hfz42_3 := blk_frozen BK136.out 3; have hfz42_4 := blk_frozen BK136.out 4; have hfz42_5 := blk_frozen BK136.out 5))
              have n0_ : Aside0 (Kd.R k36 36 ((((((w40.setCell ⟨gb136, 0, none⟩ (.int .u8 t130)).setCell ⟨gb136, 1, none⟩ (.int .u8 t131)).setCell ⟨gb136, 2, none⟩ (.int .u8 t132)).setCell ⟨gb136, 3, none⟩ (.int .u8 t133)).setCell ⟨gb136, 4, none⟩ (.int .u8 t134)).setCell ⟨gb136, 5, none⟩ (.int .u16 t135)) w.heap.size (fun _ => True) (.slice (some ad129) t126.length co5) t126) := ⟨by (with_reducible repeat (first | apply Kd.R_alloc | apply Kd.R_drewN | apply Kd.R_drew)); exact Kd.R_mono (Kd.R_far (p := ⟨gb136, 5, none⟩) (Kd.R_far (p := ⟨gb136, 4, none⟩) (Kd.R_far (p := ⟨gb136, 3, none⟩) (Kd.R_far (p := ⟨gb136, 2, none⟩) (Kd.R_far (p := ⟨gb136, 1, none⟩) (Kd.R_far (p := ⟨gb136, 0, none⟩) (Kd.R_types HO_4.out BK136.out (by decide)) (fun _ hk => hk.2) (.int .u8 t130)) (fun _ hk => hk.2) (.int .u8 t131)) (fun _ hk => hk.2) (.int .u8 t132)) (fun _ hk => hk.2) (.int .u8 t133)) (fun _ hk => hk.2) (.int .u8 t134)) (fun _ hk => hk.2) (.int .u16 t135)) (fun _ hk => trivial)⟩
              have n1_ : Aside0 (((((((w40.setCell ⟨gb136, 0, none⟩ (.int .u8 t130)).setCell ⟨gb136, 1, none⟩ (.int .u8 t131)).setCell ⟨gb136, 2, none⟩ (.int .u8 t132)).setCell ⟨gb136, 3, none⟩ (.int .u8 t133)).setCell ⟨gb136, 4, none⟩ (.int .u8 t134)).setCell ⟨gb136, 5, none⟩ (.int .u16 t135)).heap[gb125]? = some (.cells #[.int .u8 x126000_1, .int .u8 x126001_1, .int .u8 x126002_1, .int .u8 x126003_1, .int .u8 x126004_1, .int .u16 x126005_1] 25 (0, 0))) := ⟨by (with_reducible repeat (first | refine blk_drewN ?_ _ | refine blk_drew ?_ | refine blk_alloc ?_ _)); refine blk_far ?_ NB125_136.out _; (with_reducible repeat (first | refine blk_drewN ?_ _ | refine blk_drew ?_ | refine blk_alloc ?_ _)); refine blk_far ?_ NB125_136.out _; (with_reducible repeat (first | refine blk_drewN ?_ _ | refine blk_drew ?_ | refine blk_alloc ?_ _)); refine blk_far ?_ NB125_136.out _; (with_reducible repeat (first | refine blk_drewN ?_ _ | refine blk_drew ?_ | refine blk_alloc ?_ _)); refine blk_far ?_ NB125_136.out _; (with_reducible repeat (first | refine blk_drewN ?_ _ | refine blk_drew ?_ | refine blk_alloc ?_ _)); refine blk_far ?_ NB125_136.out _; (with_reducible repeat (first | refine blk_drewN ?_ _ | refine blk_drew ?_ | refine blk_alloc ?_ _)); refine blk_far ?_ NB125_136.out _; (with_reducible repeat (first | refine blk_drewN ?_ _ | refine blk_drew ?_ | refine blk_alloc ?_ _)); exact BK125.out⟩
              have n2_ : Aside0 (((((((w40.setCell ⟨gb136, 0, none⟩ (.int .u8 t130)).setCell ⟨gb136, 1, none⟩ (.int .u8 t131)).setCell ⟨gb136, 2, none⟩ (.int .u8 t132)).setCell ⟨gb136, 3, none⟩ (.int .u8 t133)).setCell ⟨gb136, 4, none⟩ (.int .u8 t134)).setCell ⟨gb136, 5, none⟩ (.int .u16 t135)).heap[gb136]? = some (.cells #[.int .u8 t130, .int .u8 t131, .int .u8 t132, .int .u8 t133, .int .u8 t134, .int .u16 t135] 25 (0, 0))) := ⟨by (with_reducible repeat (first | refine blk_drewN ?_ _ | refine blk_drew ?_ | refine blk_alloc ?_ _)); refine blk_put (cs := #[.int .u8 t130, .int .u8 t131, .int .u8 t132, .int .u8 t133, .int .u8 t134, .int .u16 0]) ?_ 5 _ rfl; (with_reducible repeat (first | refine blk_drewN ?_ _ | refine blk_drew ?_ | refine blk_alloc ?_ _)); refine blk_put (cs := #[.int .u8 t130, .int .u8 t131, .int .u8 t132, .int .u8 t133, .int .u8 0, .int .u16 0]) ?_ 4 _ rfl; (with_reducible repeat (first | refine blk_drewN ?_ _ | refine blk_drew ?_ | refine blk_alloc ?_ _)); refine blk_put (cs := #[.int .u8 t130, .int .u8 t131, .int .u8 t132, .int .u8 0, .int .u8 0, .int .u16 0]) ?_ 3 _ rfl; (with_reducible repeat (first | refine blk_drewN ?_ _ | refine blk_drew ?_ | refine blk_alloc ?_ _)); refine blk_put (cs := #[.int .u8 t130, .int .u8 t131, .int .u8 0, .int .u8 0, .int .u8 0, .int .u16 0]) ?_ 2 _ rfl; (with_reducible repeat (first | refine blk_drewN ?_ _ | refine blk_drew ?_ | refine blk_alloc ?_ _)); refine blk_put (cs := #[.int .u8 t130, .int .u8 0, .int .u8 0, .int .u8 0, .int .u8 0, .int .u16 0]) ?_ 1 _ rfl; (with_reducible repeat (first | refine blk_drewN ?_ _ | refine blk_drew ?_ | refine blk_alloc ?_ _)); refine blk_put (cs := #[.int .u8 0, .int .u8 0, .int .u8 0, .int .u8 0, .int .u8 0, .int .u16 0]) ?_ 0 _ rfl; (with_reducible repeat (first | refine blk_drewN ?_ _ | refine blk_drew ?_ | refine blk_alloc ?_ _)); exact BK136.out⟩
              have n3_ : Aside0 (Below w.heap.size w ((((((w40.setCell ⟨gb136, 0, none⟩ (.int .u8 t130)).setCell ⟨gb136, 1, none⟩ (.int .u8 t131)).setCell ⟨gb136, 2, none⟩ (.int .u8 t132)).setCell ⟨gb136, 3, none⟩ (.int .u8 t133)).setCell ⟨gb136, 4, none⟩ (.int .u8 t134)).setCell ⟨gb136, 5, none⟩ (.int .u16 t135))) := ⟨by repeat (first | (with_reducible first | exact HB.out | apply below_alloc | apply pw_below_drewN | apply below_drew1 | refine below_set ?_ GE125.out | refine below_set ?_ GE136.out) | exact HB.out)⟩
              (try clear HO_4)
              (try clear BK125)
              (try clear BK136)
              (try clear HB)
              generalize ((((((w40.setCell ⟨gb136, 0, none⟩ (.int .u8 t130)).setCell ⟨gb136, 1, none⟩ (.int .u8 t131)).setCell ⟨gb136, 2, none⟩ (.int .u8 t132)).setCell ⟨gb136, 3, none⟩ (.int .u8 t133)).setCell ⟨gb136, 4, none⟩ (.int .u8 t134)).setCell ⟨gb136, 5, none⟩ (.int .u16 t135)) = w43 at n0_ n1_ n2_ n3_ ⊢
              have HO_4 := n0_
              have BK125 := n1_
              have BK136 := n2_
              have HB := n3_
              clear n0_ n1_ n2_ n3_
              have n0_ := Aside0.mk (Kd.R_drew HO_4.out)
              have n1_ := Aside0.mk (blk_drew BK125.out)
              have n2_ := Aside0.mk (blk_drew BK136.out)
              have n3_ := Aside0.mk (below_drew1 HB.out)
              clear HO_4
              clear BK125
              clear BK136
              clear HB
              have HO_4 := n0_
              have BK125 := n1_
              have BK136 := n2_
              have HB := n3_
              clear n0_ n1_ n2_ n3_
              have p137 : 0 ≤ (x5_1 : Int) := of_decide_eq_true (by first | (with_reducible assumption) | assumption)
              have q137 : x5_1 < (t126.length : Int) := of_decide_eq_true (by first | (with_reducible assumption) | assumption)
              obtain ⟨ad137, e137, hx137_0, hx137_1, hx137_2, hx137_3⟩ := at_T36 (Kd.R_reads' HO_4.out).2.2 x5_1 p137 q137
              obtain rfl : ad129 = ad137 := (by injection e137)
              replace p137 := eq_true p137
              replace q137 := eq_true q137
              refine start_ (n := 20) (S := fun w' => w'.cell? ⟨gb136, 0, none⟩ = some (.int .u8 t130) ∧ w'.cell? ⟨gb136, 1, none⟩ = some (.int .u8 t131) ∧ w'.cell? ⟨gb136, 2, none⟩ = some (.int .u8 t132) ∧ w'.cell? ⟨gb136, 3, none⟩ = some (.int .u8 t133) ∧ w'.cell? ⟨gb136, 4, none⟩ = some (.int .u8 t134) ∧ w'.cell? ⟨gb136, 5, none⟩ = some (.int .u16 t135) ∧ w'.cell? (ad129.add ((x5_1).toNat * 4)) = some (.int .u8 ((rd_T36 t126 x5_1).f0)) ∧ w'.cell? ⟨(ad129.add ((x5_1).toNat * 4)).block, (ad129.add ((x5_1).toNat * 4)).off + 1, none⟩ = some (.int .u16 ((rd_T36 t126 x5_1).f1)) ∧ w'.cell? ⟨(ad129.add ((x5_1).toNat * 4)).block, (ad129.add ((x5_1).toNat * 4)).off + 2, none⟩ = some (.string ((rd_T36 t126 x5_1).f2)) ∧ w'.cell? ⟨(ad129.add ((x5_1).toNat * 4)).block, (ad129.add ((x5_1).toNat * 4)).off + 3, none⟩ = some (.string ((rd_T36 t126 x5_1).f3))) (ds := []) #[false, false, false, false, false, false, false, false, false, false, false, false, false, false, false, false, false, false, false, false] (by kernel_rfl) rfl rfl ⟨(blk_cell BK136.out 0).trans rfl, (blk_cell BK136.out 1).trans rfl, (blk_cell BK136.out 2).trans rfl, (blk_cell BK136.out 3).trans rfl, (blk_cell BK136.out 4).trans rfl, (blk_cell BK136.out 5).trans rfl, hx137_0, hx137_1, hx137_2, hx137_3⟩ (fun hHeld => ?_); refine with_tabW vesperref16_Decode.tab6 vesperref16_Decode.bits6 (fun HT_ HW_ => ?_)
              generalize w43.drew = w44 at HO_4 BK125 BK136 HB hx137_0 hx137_1 hx137_2 hx137_3 hHeld ⊢
              refine pure_ (i := 0) (N := some 21) (v := ?_) (a' := ?_) #[true, false, false, false, false, false, false, false, false, false, false, false, false, false, false, false, false, false, false, false] rfl rfl (any_of HT_.out (by kernel_rfl)) (fun _ _ _ h => h) (Or.inl ⟨by rfl, ?_⟩) ?_ ?_
              rotate_left
              · intro w'
                go_simp
                with_reducible rfl
              rotate_left
              · simp only [Act.put, List.setIfInBounds_toArray, List.set_cons_zero, List.set_cons_succ, i64_w, i32_w]
                rfl
              refine pure_ (i := 1) (N := some 22) (v := ?_) (a' := ?_) #[true, true, false, false, false, false, false, false, false, false, false, false, false, false, false, false, false, false, false, false] rfl rfl (any_of HT_.out (by kernel_rfl)) (fun _ _ _ h => h) (Or.inl ⟨by rfl, ?_⟩) ?_ ?_
              rotate_left
              · intro w'
                go_simp
                with_reducible rfl
              rotate_left
              · simp only [Act.put, List.setIfInBounds_toArray, List.set_cons_zero, List.set_cons_succ, i64_w, i32_w]
                rfl
              refine pure_ (i := 2) (N := some 23) (v := ?_) (a' := ?_) #[true, true, true, false, false, false, false, false, false, false, false, false, false, false, false, false, false, false, false, false] rfl rfl (any_of HT_.out (by kernel_rfl)) (fun _ _ _ h => h) (Or.inl ⟨by rfl, ?_⟩) ?_ ?_
              rotate_left
              · intro w'
                go_simp
                with_reducible rfl
              rotate_left
              · simp only [Act.put, List.setIfInBounds_toArray, List.set_cons_zero, List.set_cons_succ, i64_w, i32_w]
                rfl
              refine pure_ (i := 6) (N := some 27) (v := ?_) (a' := ?_) #[true, true, true, false, false, false, true, false, false, false, false, false, false, false, false, false, false, false, false, false] rfl rfl (any_of HT_.out (by kernel_rfl)) (fun _ _ _ h => h) (Or.inl ⟨by rfl, ?_⟩) ?_ ?_
              rotate_left
              · intro w'
                go_simp
                with_reducible rfl
              rotate_left
              · simp only [Act.put, List.setIfInBounds_toArray, List.set_cons_zero, List.set_cons_succ, i64_w, i32_w]
                rfl
              refine take_ (i := 3) (N := some 24) (v := ?_) (a' := ?_) #[true, true, true, true, false, false, true, false, false, false, false, false, false, false, false, false, false, false, false, false] rfl rfl (take_ofW HT_.out HW_.out (by kernel_rfl)) (fun _ _ _ h => h) (Or.inl ⟨by rfl, ?_⟩) hHeld ?_ ?_
              rotate_left
              · rintro w' ⟨s0, s1, s2, s3, s4, s5, s6, s7, s8, s9⟩
                go_simp
                with_reducible rfl
              rotate_left
              · simp only [Act.put, List.setIfInBounds_toArray, List.set_cons_zero, List.set_cons_succ, i64_w, i32_w]
                rfl
              refine take_ (i := 4) (N := some 25) (v := ?_) (a' := ?_) #[true, true, true, true, true, false, true, false, false, false, false, false, false, false, false, false, false, false, false, false] rfl rfl (take_ofW HT_.out HW_.out (by kernel_rfl)) (fun _ _ _ h => h) (Or.inl ⟨by rfl, ?_⟩) hHeld ?_ ?_
              rotate_left
              · rintro w' ⟨s0, s1, s2, s3, s4, s5, s6, s7, s8, s9⟩
                go_simp
                with_reducible rfl
              rotate_left
              · simp only [Act.put, List.setIfInBounds_toArray, List.set_cons_zero, List.set_cons_succ, i64_w, i32_w]
                rfl
              refine one_ (i := 5) (N := some 26) #[true, true, true, true, true, true, true, false, false, false, false, false, false, false, false, false, false, false, false, false] rfl rfl (one_of HT_.out (by kernel_rfl)) (by decide) (fun K hK => ?_)
              refine goes_ Try.func9 (by kernel_rfl) rfl #[.agg #[.int .u8 ((rd_T36 t126 x5_1).f0), .int .u16 ((rd_T36 t126 x5_1).f1), .string ((rd_T36 t126 x5_1).f2), .string ((rd_T36 t126 x5_1).f3)], .agg #[.int .u8 t130, .int .u8 t131, .int .u8 t132, .int .u8 t133, .int .u8 t134, .int .u16 t135]] (by rfl) rfl rfl (by (try simp only [List.map_toArray, List.map_cons, List.map_nil]); first | done | rfl | (simp only [List.length_drop, List.length_take]; rfl)) ?_
              with_reducible refine (vesperref16_Word_word.calls k1 ((rd_T36 t126 x5_1).f0) ((rd_T36 t126 x5_1).f1) ((rd_T36 t126 x5_1).f2) ((rd_T36 t126 x5_1).f3) t130 t131 t132 t133 t134 t135 t138 _ A10.out).mono ?_
              rintro e w45 ⟨rfl, hb⟩
              have HS6_ := (hb.cell (World.block_lt_of_cell? _ _ (hHeld.2.2.2.2.2.2.1))).trans (hHeld.2.2.2.2.2.2.1)
              have HS7_ := (hb.cell (World.block_lt_of_cell? _ _ (hHeld.2.2.2.2.2.2.2.1))).trans (hHeld.2.2.2.2.2.2.2.1)
              have HS8_ := (hb.cell (World.block_lt_of_cell? _ _ (hHeld.2.2.2.2.2.2.2.2.1))).trans (hHeld.2.2.2.2.2.2.2.2.1)
              have HS9_ := (hb.cell (World.block_lt_of_cell? _ _ (hHeld.2.2.2.2.2.2.2.2.2))).trans (hHeld.2.2.2.2.2.2.2.2.2)
              refine ⟨_, rfl, ?_⟩
              have n0_ := Aside0.mk (Kd.R_below (by (with_reducible repeat (first | apply Kd.R_alloc | apply Kd.R_drewN | apply Kd.R_drew)); exact HO_4.out) hb)
              have n1_ := Aside0.mk (blk_below (g := gb125) (o := .cells #[.int .u8 x126000_1, .int .u8 x126001_1, .int .u8 x126002_1, .int .u8 x126003_1, .int .u8 x126004_1, .int .u16 x126005_1] 25 (0, 0)) (by (with_reducible repeat (first | refine blk_drewN ?_ _ | refine blk_drew ?_ | refine blk_alloc ?_ _)); exact BK125.out) hb)
              have n2_ := Aside0.mk (blk_below (g := gb136) (o := .cells #[.int .u8 t130, .int .u8 t131, .int .u8 t132, .int .u8 t133, .int .u8 t134, .int .u16 t135] 25 (0, 0)) (by (with_reducible repeat (first | refine blk_drewN ?_ _ | refine blk_drew ?_ | refine blk_alloc ?_ _)); exact BK136.out) hb)
              have n3_ := Aside0.mk (below_step (by repeat (first | (with_reducible first | exact HB.out | apply below_alloc | apply pw_below_drewN | apply below_drew1 | refine below_set ?_ GE125.out | refine below_set ?_ GE136.out) | exact HB.out)) hb)
              clear HO_4
              clear BK125
              clear BK136
              clear HB
              have HO_4 := n0_
              have BK125 := n1_
              have BK136 := n2_
              have HB := n3_
              clear n0_ n1_ n2_ n3_
              (try clear hb)
              (try clear hb2)
              (try clear hk)
              (try clear hi)
              refine hK.out _ _ ⟨(blk_cell BK136.out 0).trans rfl, (blk_cell BK136.out 1).trans rfl, (blk_cell BK136.out 2).trans rfl, (blk_cell BK136.out 3).trans rfl, (blk_cell BK136.out 4).trans rfl, (blk_cell BK136.out 5).trans rfl, HS6_, HS7_, HS8_, HS9_⟩ (fun hHeld => ?_)
              clear hK K
              refine norm_ (a' := ?_) ?_ ?_
              rotate_left
              · show Act.put _ (some 26) _ = _
                simp only [Act.put, List.setIfInBounds_toArray, List.set_cons_zero, List.set_cons_succ, i64_w, i32_w]
                rfl
              refine pure_ (i := 7) (N := some 28) (v := ?_) (a' := ?_) #[true, true, true, true, true, true, true, true, false, false, false, false, false, false, false, false, false, false, false, false] rfl rfl (any_of HT_.out (by kernel_rfl)) (fun _ _ _ h => h) (Or.inl ⟨by rfl, ?_⟩) ?_ ?_
              rotate_left
              · intro w'
                go_simp
                with_reducible rfl
              rotate_left
              · simp only [Act.put, List.setIfInBounds_toArray, List.set_cons_zero, List.set_cons_succ, i64_w, i32_w]
                rfl
              refine pure_ (i := 8) (N := some 29) (v := ?_) (a' := ?_) #[true, true, true, true, true, true, true, true, true, false, false, false, false, false, false, false, false, false, false, false] rfl rfl (any_of HT_.out (by kernel_rfl)) (fun _ _ _ h => h) (Or.inl ⟨by rfl, ?_⟩) ?_ ?_
              rotate_left
              · intro w'
                go_simp
                with_reducible rfl
              rotate_left
              · simp only [Act.put, List.setIfInBounds_toArray, List.set_cons_zero, List.set_cons_succ, i64_w, i32_w]
                rfl
              refine pure_ (i := 9) (N := some 30) (v := undef) (a' := ?_) #[true, true, true, true, true, true, true, true, true, true, false, false, false, false, false, false, false, false, false, false] rfl rfl (any_of HT_.out (by kernel_rfl)) (fun _ _ _ h => h) (Or.inr ⟨by rfl, rfl⟩) ?_ ?_
              rotate_left
              · simp only [Act.put, List.setIfInBounds_toArray, List.set_cons_zero, List.set_cons_succ, i64_w, i32_w]
                rfl
              refine pure_ (i := 10) (N := some 31) (v := undef) (a' := ?_) #[true, true, true, true, true, true, true, true, true, true, true, false, false, false, false, false, false, false, false, false] rfl rfl (any_of HT_.out (by kernel_rfl)) (fun _ _ _ h => h) (Or.inr ⟨by rfl, rfl⟩) ?_ ?_
              rotate_left
              · simp only [Act.put, List.setIfInBounds_toArray, List.set_cons_zero, List.set_cons_succ, i64_w, i32_w]
                rfl
              refine pure_ (i := 11) (N := some 32) (v := undef) (a' := ?_) #[true, true, true, true, true, true, true, true, true, true, true, true, false, false, false, false, false, false, false, false] rfl rfl (any_of HT_.out (by kernel_rfl)) (fun _ _ _ h => h) (Or.inr ⟨by rfl, rfl⟩) ?_ ?_
              rotate_left
              · simp only [Act.put, List.setIfInBounds_toArray, List.set_cons_zero, List.set_cons_succ, i64_w, i32_w]
                rfl
              refine pure_ (i := 12) (N := some 33) (v := undef) (a' := ?_) #[true, true, true, true, true, true, true, true, true, true, true, true, true, false, false, false, false, false, false, false] rfl rfl (any_of HT_.out (by kernel_rfl)) (fun _ _ _ h => h) (Or.inr ⟨by rfl, rfl⟩) ?_ ?_
              rotate_left
              · simp only [Act.put, List.setIfInBounds_toArray, List.set_cons_zero, List.set_cons_succ, i64_w, i32_w]
                rfl
              refine pure_ (i := 13) (N := some 34) (v := undef) (a' := ?_) #[true, true, true, true, true, true, true, true, true, true, true, true, true, true, false, false, false, false, false, false] rfl rfl (any_of HT_.out (by kernel_rfl)) (fun _ _ _ h => h) (Or.inr ⟨by rfl, rfl⟩) ?_ ?_
              rotate_left
              · simp only [Act.put, List.setIfInBounds_toArray, List.set_cons_zero, List.set_cons_succ, i64_w, i32_w]
                rfl
              refine pure_ (i := 14) (N := some 35) (v := undef) (a' := ?_) #[true, true, true, true, true, true, true, true, true, true, true, true, true, true, true, false, false, false, false, false] rfl rfl (any_of HT_.out (by kernel_rfl)) (fun _ _ _ h => h) (Or.inr ⟨by rfl, rfl⟩) ?_ ?_
              rotate_left
              · simp only [Act.put, List.setIfInBounds_toArray, List.set_cons_zero, List.set_cons_succ, i64_w, i32_w]
                rfl
              refine pure_ (i := 15) (N := some 36) (v := undef) (a' := ?_) #[true, true, true, true, true, true, true, true, true, true, true, true, true, true, true, true, false, false, false, false] rfl rfl (any_of HT_.out (by kernel_rfl)) (fun _ _ _ h => h) (Or.inr ⟨by rfl, rfl⟩) ?_ ?_
              rotate_left
              · simp only [Act.put, List.setIfInBounds_toArray, List.set_cons_zero, List.set_cons_succ, i64_w, i32_w]
                rfl
              refine pure_ (i := 16) (N := some 37) (v := undef) (a' := ?_) #[true, true, true, true, true, true, true, true, true, true, true, true, true, true, true, true, true, false, false, false] rfl rfl (any_of HT_.out (by kernel_rfl)) (fun _ _ _ h => h) (Or.inr ⟨by rfl, rfl⟩) ?_ ?_
              rotate_left
              · simp only [Act.put, List.setIfInBounds_toArray, List.set_cons_zero, List.set_cons_succ, i64_w, i32_w]
                rfl
              refine pure_ (i := 17) (N := some 38) (v := undef) (a' := ?_) #[true, true, true, true, true, true, true, true, true, true, true, true, true, true, true, true, true, true, false, false] rfl rfl (any_of HT_.out (by kernel_rfl)) (fun _ _ _ h => h) (Or.inr ⟨by rfl, rfl⟩) ?_ ?_
              rotate_left
              · simp only [Act.put, List.setIfInBounds_toArray, List.set_cons_zero, List.set_cons_succ, i64_w, i32_w]
                rfl
              refine pure_ (i := 18) (N := some 39) (v := undef) (a' := ?_) #[true, true, true, true, true, true, true, true, true, true, true, true, true, true, true, true, true, true, true, false] rfl rfl (any_of HT_.out (by kernel_rfl)) (fun _ _ _ h => h) (Or.inr ⟨by rfl, rfl⟩) ?_ ?_
              rotate_left
              · simp only [Act.put, List.setIfInBounds_toArray, List.set_cons_zero, List.set_cons_succ, i64_w, i32_w]
                rfl
              refine pure_ (i := 19) (N := some 40) (v := ?_) (a' := ?_) #[true, true, true, true, true, true, true, true, true, true, true, true, true, true, true, true, true, true, true, true] rfl rfl (any_of HT_.out (by kernel_rfl)) (fun _ _ _ h => h) (Or.inl ⟨by rfl, ?_⟩) ?_ ?_
              rotate_left
              · intro w'
                go_simp
                with_reducible rfl
              rotate_left
              · simp only [Act.put, List.setIfInBounds_toArray, List.set_cons_zero, List.set_cons_succ, i64_w, i32_w]
                rfl
              refine done_ (done_of HT_.out (by kernel_rfl)) ?_
              try go_wp2
              go_roundg k1
              case measure => have := HK1.out; omega
              case rel => exact ⟨(wrap64 (x5_1 - 1)), (x126000_1), (x126001_1), (x126002_1), (x126003_1), (x126004_1), (x126005_1), (by first | rfl | (simp; done) | (simp [*]; done)), H', ⟨by have := HK1.out; omega⟩, ⟨by (with_reducible repeat (first | apply Kd.R_alloc | apply Kd.R_drewN | apply Kd.R_drew)); exact HO_4.out⟩, ⟨by (with_reducible repeat (first | refine blk_drewN ?_ _ | refine blk_drew ?_ | refine blk_alloc ?_ _)); exact BK125.out⟩, ⟨by repeat (first | (with_reducible first | exact HB.out | apply below_alloc | apply pw_below_drewN | apply below_drew1 | refine below_set ?_ GE125.out | refine below_set ?_ GE136.out) | exact HB.out)⟩⟩
          · rw [if_neg c8] at H
            exact absurd H (by simp)
        · rw [if_neg c7] at H
          exact absurd H (by simp)
      · rw [if_neg c6] at H
        have c6b0 : decide (0 ≤ x5_1) = false := decide_eq_false c6
        clear c6
        simp only [Option.some.injEq, Prod.mk.injEq] at H
        obtain ⟨rfl, rfl, rfl, rfl, rfl, rfl, rfl⟩ := H
        have hcz46_0 : wr.cell? ⟨gb125, 0, none⟩ = some (.int .u8 x126000_1) := (blk_cell BK125.out 0).trans rfl
        have hcz46_1 : wr.cell? ⟨gb125, 1, none⟩ = some (.int .u8 x126001_1) := (blk_cell BK125.out 1).trans rfl
        have hcz46_2 : wr.cell? ⟨gb125, 2, none⟩ = some (.int .u8 x126002_1) := (blk_cell BK125.out 2).trans rfl
        have hcz46_3 : wr.cell? ⟨gb125, 3, none⟩ = some (.int .u8 x126003_1) := (blk_cell BK125.out 3).trans rfl
        have hcz46_4 : wr.cell? ⟨gb125, 4, none⟩ = some (.int .u8 x126004_1) := (blk_cell BK125.out 4).trans rfl
        have hcz46_5 : wr.cell? ⟨gb125, 5, none⟩ = some (.int .u16 x126005_1) := (blk_cell BK125.out 5).trans rfl
        have hfz46_0 := blk_frozen BK125.out 0
        have hfz46_1 := blk_frozen BK125.out 1
        have hfz46_2 := blk_frozen BK125.out 2
        have hfz46_3 := blk_frozen BK125.out 3
        have hfz46_4 := blk_frozen BK125.out 4
        have hfz46_5 := blk_frozen BK125.out 5
        go_wp2
        refine bodyPost_ret (results_ct rfl _ _ gb125 25 #[.int .u8 0, .int .u8 0, .int .u8 0, .int .u8 0, .int .u8 0, .int .u16 0] (0, 0) _ rfl (by (with_reducible repeat (first | refine blk_drewN ?_ _ | refine blk_drew ?_ | refine blk_alloc ?_ _)); refine blk_put (cs := #[.int .u8 0, .int .u8 0, .int .u8 0, .int .u8 0, .int .u8 0, .int .u16 x126005_1]) ?_ 5 _ rfl; (with_reducible repeat (first | refine blk_drewN ?_ _ | refine blk_drew ?_ | refine blk_alloc ?_ _)); refine blk_put (cs := #[.int .u8 0, .int .u8 0, .int .u8 0, .int .u8 0, .int .u8 x126004_1, .int .u16 x126005_1]) ?_ 4 _ rfl; (with_reducible repeat (first | refine blk_drewN ?_ _ | refine blk_drew ?_ | refine blk_alloc ?_ _)); refine blk_put (cs := #[.int .u8 0, .int .u8 0, .int .u8 0, .int .u8 x126003_1, .int .u8 x126004_1, .int .u16 x126005_1]) ?_ 3 _ rfl; (with_reducible repeat (first | refine blk_drewN ?_ _ | refine blk_drew ?_ | refine blk_alloc ?_ _)); refine blk_put (cs := #[.int .u8 0, .int .u8 0, .int .u8 x126002_1, .int .u8 x126003_1, .int .u8 x126004_1, .int .u16 x126005_1]) ?_ 2 _ rfl; (with_reducible repeat (first | refine blk_drewN ?_ _ | refine blk_drew ?_ | refine blk_alloc ?_ _)); refine blk_put (cs := #[.int .u8 0, .int .u8 x126001_1, .int .u8 x126002_1, .int .u8 x126003_1, .int .u8 x126004_1, .int .u16 x126005_1]) ?_ 1 _ rfl; (with_reducible repeat (first | refine blk_drewN ?_ _ | refine blk_drew ?_ | refine blk_alloc ?_ _)); refine blk_put (cs := #[.int .u8 x126000_1, .int .u8 x126001_1, .int .u8 x126002_1, .int .u8 x126003_1, .int .u8 x126004_1, .int .u16 x126005_1]) ?_ 0 _ rfl; (with_reducible repeat (first | refine blk_drewN ?_ _ | refine blk_drew ?_ | refine blk_alloc ?_ _)); exact BK125.out) Try.underlying25 rfl (by kernel_rfl)) rfl ?_
        exact ⟨by first | rfl | (simp [errW_none, errW_some] <;> rfl) | (simp [*, errW_none, errW_some] <;> rfl), by repeat (first | (with_reducible first | exact HB.out | apply below_alloc | apply pw_below_drewN | apply below_drew1 | refine below_set ?_ GE125.out) | exact HB.out)⟩

end Go.Proofs.Ytffbkmcaecmmgaa.PInterBounds
