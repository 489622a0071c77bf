/- Written by a program of this session (gprint.py, over the kit's printer): functions of the seat YtjedbamcjgabpaaDoor and their contracts. No condition but each contract's own. -/
import Derived.Test.YtjedbamcjgabpaaDoorPSox0
import Derived.Test.YtjedbamcjgabpaaDoorSrcAll
namespace Go.Proofs.YtjedbamcjgabpaaDoor.PSo
open Go.RowKit Go.Proofs.YtjedbamcjgabpaaDoorW.PrintWords Go.Proofs.YtjedbamcjgabpaaDoorW.PrintLast Go.Proofs.YtjedbamcjgabpaaDoorW.PrintMore
attribute [local go_sem] max2_int min2_int max_two min_two max_three min_three max_four min_four   -- for this text's walks alone
set_option linter.unusedVariables false
set_option linter.unusedSimpArgs false

/-! ### source_readers_1: function 62 -/
def source_readers_1.l0 : Nat → List ByteArray → Int → Int → Int → ByteArray → Int → ByteArray → Int → List Int → Option (Int × ByteArray × Int × ByteArray × Int × List Int)
 | 0, _, _, _, _, _, _, _, _, _ => none
 | k + 1, x8, x9, x10, x419000, x419001, x419002, x419003, x419004, x419005 => if x10 < x9 then (if 0 ≤ x10 then (if x10 < (x8.length : Int) then ((source_number.f (rdOf ByteArray.empty x8 x10) 2).bind fun t421 => (if x419005.length < 140737488355328 then (source_readers_1.l0 k x8 x9 (wrap64 (x10 + 1)) x419000 x419001 x419002 x419003 x419004 (x419005 ++ [(t421) % 256])) else (none))) else (none)) else (none)) else (some (x419000, x419001, x419002, x419003, x419004, x419005))
def source_readers_1.f (k : Nat) (l0 : List ByteArray) : Option (Int × ByteArray × Int × ByteArray × Int × List Int) := if 1 ≤ (l0.length : Int) then (source_readers_1.l0 k (l0.drop 1) ((l0.drop 1).length : Int) 0 3 (⟨#[]⟩ : ByteArray) 0 (⟨#[]⟩ : ByteArray) 0 ([] : List Int)) else (none)
theorem source_readers_1.mono_l : ∀ k, (∀ y0 y1 y2 y3 y4 y5 y6 y7 y8, LeO (source_readers_1.l0 k y0 y1 y2 y3 y4 y5 y6 y7 y8) (source_readers_1.l0 (k + 1) y0 y1 y2 y3 y4 y5 y6 y7 y8))
 | 0 => fun _ _ _ _ _ _ _ _ _ r h => by simp [source_readers_1.l0] at h
 | k + 1 => by
  have ih0 := source_readers_1.mono_l k
  ·intro y0 y1 y2 y3 y4 y5 y6 y7 y8
   unfold source_readers_1.l0
   repeat' first
   | (with_reducible exact ih0 _ _ _ _ _ _ _ _ _)
   | (with_reducible exact LeO.refl _)
   | (with_reducible exact LeO.none _)
   | (with_reducible refine LeO.ite ?_ ?_)
   | (with_reducible refine LeO.bind ?_ (fun _ => ?_))
   | exact ih0 _ _ _ _ _ _ _ _ _
   | exact LeO.none _
   | refine LeO.ite ?_ ?_
   | refine LeO.bind ?_ (fun _ => ?_)
theorem source_readers_1.mono : ∀ a0 k, LeO (source_readers_1.f k a0) (source_readers_1.f (k + 1) a0) := by
 intro a0 k
 have ih0 := source_readers_1.mono_l k
 unfold source_readers_1.f
 repeat' first
  | (with_reducible exact ih0 _ _ _ _ _ _ _ _ _)
  | (with_reducible exact LeO.refl _)
  | (with_reducible exact LeO.none _)
  | (with_reducible refine LeO.ite ?_ ?_)
  | (with_reducible refine LeO.bind ?_ (fun _ => ?_))
  | exact ih0 _ _ _ _ _ _ _ _ _
  | exact LeO.none _
  | refine LeO.ite ?_ ?_
  | refine LeO.bind ?_ (fun _ => ?_)
def source_readers_1.T5 : Bool × List (List Nat × List Nat) := (true, [([], []), ([0], [0]), ([], []), ([2], [2]), ([3], [3]), ([4], [4]), ([1, 5, 3], [1, 5]), ([0, 1, 2, 3, 4, 5, 6], []), ([7, 6, 6, 0, 1, 2, 3, 4, 5, 6], [6, 7])])
def source_readers_1.B5 : List Nat := [0, 1, 0, 4, 12, 28, 63, 127, 255]
theorem source_readers_1.tab5 : rtab .any (opsOf Tryd.f62 5) = source_readers_1.T5 := by kernel_rfl
theorem source_readers_1.bits5 : waitsOk source_readers_1.T5.2 source_readers_1.B5 = true := by kernel_rfl
set_option maxHeartbeats 8000000 in
set_option maxRecDepth 100000 in
theorem source_readers_1.calls (k : Nat) (A0 : Option Addr) (c0 : Nat) (l0 : List ByteArray) (r1 : Int) (r2 : ByteArray) (r3 : Int) (r4 : ByteArray) (r5 : Int) (r6 : List Int) (w : World) (hr0 : Kd.C Kd.string w A0 l0.length l0) (hc0 : l0.length ≤ c0) (h : source_readers_1.f k l0 = some (r1, r2, r3, r4, r5, r6)) :
 Calls Tryd.prog 62 #[.slice A0 l0.length c0] w fun e w' => ∃ v5_ : Value, e = .returned (.agg #[.int .u8 r1, .string r2, .int .i64 r3, .string r4, .int .u8 r5, v5_]) ∧ Kd.R (Kd.int .u8) 5 w' w.heap.size (fun _ => True) v5_ r6 ∧ Below w.heap.size w w' := by
 have hu43 := Tryd.underlying43
 have HR0 := Aside0.mk hr0
 have HC0 := Aside0.mk hc0
 clear hr0 hc0
 have HB := Aside0.mk (Below.refl w.heap.size w)
 have H : (if 1 ≤ (l0.length : Int) then (source_readers_1.l0 k (l0.drop 1) ((l0.drop 1).length : Int) 0 3 (⟨#[]⟩ : ByteArray) 0 (⟨#[]⟩ : ByteArray) 0 ([] : List Int)) else (none)) = some (r1, r2, r3, r4, r5, r6) := h
 clear h
 by_cases c2 : 1 ≤ (l0.length : Int)
 ·rw [if_pos c2] at H
  have c2b0 := eq_true c2
  have c2b1 : decide (1 ≤ (l0.length : Int)) = true := decide_eq_true c2
  clear c2
  have H' := Aside0.mk H
  clear H
  go_enter Tryd.func62, Tryd.ntmps62
  go_wp2_with (first | ((with_reducible refine gate_dst (N := 2) rfl ?_); refine box_event ?hg (N := 2) ?hd (cs := #[.int .u8 0, .string (⟨#[]⟩ : ByteArray), .int .i64 0, .string (⟨#[]⟩ : ByteArray), .int .u8 0, .slice none 0 0]) (t := 43) ?hr ?_; (case hd => rfl); (case hg => rfl); (case hr => first | (go_simp; done) | (go_simp; rfl)); intro gb417 hg w3 hbox hb; have n0_ := Aside0.mk (below_step (by repeat (first | (with_reducible first | exact HB.out | apply below_alloc | apply pw_below_drewN | apply below_drew1) | exact HB.out)) hb); have n1_ := Aside0.mk (hbox); have n2_ := Aside0.mk ((by rw [hg]; exact (below_size (by repeat (first | (with_reducible first | exact HB.out | apply below_alloc | apply pw_below_drewN | apply below_drew1) | exact HB.out))) : w.heap.size ≤ gb417)); have n3_ := Aside0.mk ((by rw [hg]; exact (below_size (by repeat (first | (with_reducible first | exact HB.out | apply below_alloc | apply pw_below_drewN | apply below_drew1) | exact HB.out))) : w.heap.size ≤ gb417)); clear HB; have HB := n0_; have BK417 := n1_; have GW417 := n2_; have GE417 := n3_; clear n0_ n1_ n2_ n3_; clear hb hbox hg) | ((with_reducible refine gate_dst (N := 3) rfl ?_); refine box_event ?hg (N := 3) ?hd (cs := #[.int .u8 0, .string (⟨#[]⟩ : ByteArray), .int .i64 0, .string (⟨#[]⟩ : ByteArray), .int .u8 0, .slice none 0 0]) (t := 43) ?hr ?_; (case hd => rfl); (case hg => rfl); (case hr => first | (go_simp; done) | (go_simp; rfl)); intro gb418 hg w4 hbox hb; have n0_ := Aside0.mk (blk_below (g := gb417) (o := .cells #[.int .u8 0, .string (⟨#[]⟩ : ByteArray), .int .i64 0, .string (⟨#[]⟩ : ByteArray), .int .u8 0, .slice none 0 0] 43 (0, 0)) (by (with_reducible repeat (first | refine blk_drewN ?_ _ | refine blk_drew ?_ | refine blk_alloc ?_ _)); exact BK417.out) hb); have n1_ := Aside0.mk (below_step (by repeat (first | (with_reducible first | exact HB.out | apply below_alloc | apply pw_below_drewN | apply below_drew1 | refine below_set ?_ GE417.out) | exact HB.out)) hb); have n2_ := Aside0.mk (hbox); have n3_ := Aside0.mk ((by rw [hg]; exact (below_size (by repeat (first | (with_reducible first | exact HB.out | apply below_alloc | apply pw_below_drewN | apply below_drew1 | refine below_set ?_ GE417.out) | exact HB.out))) : w.heap.size ≤ gb418)); have n4_ := Aside0.mk ((by rw [hg]; exact (below_size (by repeat (first | (with_reducible first | exact HB.out | apply below_alloc | apply pw_below_drewN | apply below_drew1 | refine below_set ?_ GE417.out) | exact HB.out))) : w.heap.size ≤ gb418)); have n5_ := Aside0.mk ((by rw [hg]; exact Nat.ne_of_lt (blk_lt (g := gb417) (o := .cells #[.int .u8 0, .string (⟨#[]⟩ : ByteArray), .int .i64 0, .string (⟨#[]⟩ : ByteArray), .int .u8 0, .slice none 0 0] 43 (0, 0)) (by (with_reducible repeat (first | refine blk_drewN ?_ _ | refine blk_drew ?_ | refine blk_alloc ?_ _)); exact BK417.out)) : gb417 ≠ gb418)); have n6_ := Aside0.mk ((by rw [hg]; exact Nat.ne_of_gt (blk_lt (g := gb417) (o := .cells #[.int .u8 0, .string (⟨#[]⟩ : ByteArray), .int .i64 0, .string (⟨#[]⟩ : ByteArray), .int .u8 0, .slice none 0 0] 43 (0, 0)) (by (with_reducible repeat (first | refine blk_drewN ?_ _ | refine blk_drew ?_ | refine blk_alloc ?_ _)); exact BK417.out)) : gb418 ≠ gb417)); clear BK417; clear HB; have BK417 := n0_; have HB := n1_; have BK418 := n2_; have GW418 := n3_; have GE418 := n4_; have NB417_418 := n5_; have NB418_417 := n6_; clear n0_ n1_ n2_ n3_ n4_ n5_ n6_; clear hb hbox hg; have hnb5 := NB418_417.out; have hnc5 := NB417_418.out; have hcz6_0 : w4.cell? ⟨gb418, 0, none⟩ = some (.int .u8 0) := (blk_cell BK418.out 0).trans rfl; have hcz6_1 : w4.cell? ⟨gb418, 1, none⟩ = some (.string (⟨#[]⟩ : ByteArray)) := (blk_cell BK418.out 1).trans rfl; have hcz6_2 : w4.cell? ⟨gb418, 2, none⟩ = some (.int .i64 0) := (blk_cell BK418.out 2).trans rfl; have hcz6_3 : w4.cell? ⟨gb418, 3, none⟩ = some (.string (⟨#[]⟩ : ByteArray)) := (blk_cell BK418.out 3).trans rfl; have hcz6_4 : w4.cell? ⟨gb418, 4, none⟩ = some (.int .u8 0) := (blk_cell BK418.out 4).trans rfl; have hcz6_5 : w4.cell? ⟨gb418, 5, none⟩ = some (.slice none 0 0) := (blk_cell BK418.out 5).trans rfl; have hfz6_0 := blk_frozen BK418.out 0; have hfz6_1 := blk_frozen BK418.out 1; have hfz6_2 := blk_frozen BK418.out 2; have hfz6_3 := blk_frozen BK418.out 3; have hfz6_4 := blk_frozen BK418.out 4; have hfz6_5 := blk_frozen BK418.out 5; obtain ⟨i07, hi07, _, hsz7, _⟩ := info_parts info9; obtain ⟨A7, hcut7, hA7, hC7⟩ := print_drop_of (P := Tryd.prog) Value.string (⟨#[]⟩ : ByteArray) 62 9 .i64 Tryd.underlying62 hi07 hsz7 A0 c0 l0 1 (by omega) (of_decide_eq_true (by first | (with_reducible assumption) | assumption)) HC0.out; have HR419 := Aside0.mk (Kd.C_of_reads (h1 := fun _ => rfl) (hA7 _ (Kd.reads_of_C HR0.out))); have HC419 := Aside0.mk hC7; clear hA7 hC7 hi07 hsz7))
  go_loopg [10] k (fun kq v10 w' => ∃ (x10_1 : Int) (x419005_1 : List Int) (u419005 : Value), v10 = .int .i64 x10_1 ∧ Aside0 (source_readers_1.l0 kq (l0.drop 1) ((l0.drop 1).length : Int) x10_1 3 (⟨#[]⟩ : ByteArray) 0 (⟨#[]⟩ : ByteArray) 0 x419005_1 = some (r1, r2, r3, r4, r5, r6)) ∧ Aside0 (kq ≤ k) ∧ Aside0 (Kd.R (Kd.int .u8) 5 w' w.heap.size (fun _ => True) u419005 x419005_1) ∧ Aside0 (w'.heap[gb417]? = some (.cells #[.int .u8 0, .string (⟨#[]⟩ : ByteArray), .int .i64 0, .string (⟨#[]⟩ : ByteArray), .int .u8 0, (.slice none 0 0)] 43 (0, 0))) ∧ Aside0 (w'.heap[gb418]? = some (.cells #[.int .u8 3, .string (⟨#[]⟩ : ByteArray), .int .i64 0, .string (⟨#[]⟩ : ByteArray), .int .u8 0, u419005] 43 (0, 0))) ∧ Aside0 (Below w.heap.size w w'))
  case atStart => exact ⟨(0), (([] : List Int)), (.slice none 0 0), (by first | rfl | (simp; done) | (simp [*]; done)), H', ⟨Nat.le_refl _⟩, ⟨by first | exact Kd.R_nil _ _ _ _ _ | exact Kd.N_nil _ _ _ _ _ | exact Kd.V_nil _ _ _ _ _ | exact Kd.Q_nil _ _ _ _ _ | exact Kd.S_nil _ _ _ _ _⟩, ⟨by (with_reducible repeat (first | refine blk_drewN ?_ _ | refine blk_drew ?_ | refine blk_alloc ?_ _)); refine blk_far ?_ NB417_418.out _; (with_reducible repeat (first | refine blk_drewN ?_ _ | refine blk_drew ?_ | refine blk_alloc ?_ _)); refine blk_far ?_ NB417_418.out _; (with_reducible repeat (first | refine blk_drewN ?_ _ | refine blk_drew ?_ | refine blk_alloc ?_ _)); refine blk_far ?_ NB417_418.out _; (with_reducible repeat (first | refine blk_drewN ?_ _ | refine blk_drew ?_ | refine blk_alloc ?_ _)); refine blk_far ?_ NB417_418.out _; (with_reducible repeat (first | refine blk_drewN ?_ _ | refine blk_drew ?_ | refine blk_alloc ?_ _)); refine blk_far ?_ NB417_418.out _; (with_reducible repeat (first | refine blk_drewN ?_ _ | refine blk_drew ?_ | refine blk_alloc ?_ _)); refine blk_far ?_ NB417_418.out _; (with_reducible repeat (first | refine blk_drewN ?_ _ | refine blk_drew ?_ | refine blk_alloc ?_ _)); exact BK417.out⟩, ⟨by (with_reducible repeat (first | refine blk_drewN ?_ _ | refine blk_drew ?_ | refine blk_alloc ?_ _)); refine blk_put (cs := #[.int .u8 3, .string (⟨#[]⟩ : ByteArray), .int .i64 0, .string (⟨#[]⟩ : ByteArray), .int .u8 0, .slice none 0 0]) ?_ 5 _ rfl; (with_reducible repeat (first | refine blk_drewN ?_ _ | refine blk_drew ?_ | refine blk_alloc ?_ _)); refine blk_put (cs := #[.int .u8 3, .string (⟨#[]⟩ : ByteArray), .int .i64 0, .string (⟨#[]⟩ : ByteArray), .int .u8 0, .slice none 0 0]) ?_ 4 _ rfl; (with_reducible repeat (first | refine blk_drewN ?_ _ | refine blk_drew ?_ | refine blk_alloc ?_ _)); refine blk_put (cs := #[.int .u8 3, .string (⟨#[]⟩ : ByteArray), .int .i64 0, .string (⟨#[]⟩ : ByteArray), .int .u8 0, .slice none 0 0]) ?_ 3 _ rfl; (with_reducible repeat (first | refine blk_drewN ?_ _ | refine blk_drew ?_ | refine blk_alloc ?_ _)); refine blk_put (cs := #[.int .u8 3, .string (⟨#[]⟩ : ByteArray), .int .i64 0, .string (⟨#[]⟩ : ByteArray), .int .u8 0, .slice none 0 0]) ?_ 2 _ rfl; (with_reducible repeat (first | refine blk_drewN ?_ _ | refine blk_drew ?_ | refine blk_alloc ?_ _)); refine blk_put (cs := #[.int .u8 3, .string (⟨#[]⟩ : ByteArray), .int .i64 0, .string (⟨#[]⟩ : ByteArray), .int .u8 0, .slice none 0 0]) ?_ 1 _ rfl; (with_reducible repeat (first | refine blk_drewN ?_ _ | refine blk_drew ?_ | refine blk_alloc ?_ _)); refine blk_put (cs := #[.int .u8 0, .string (⟨#[]⟩ : ByteArray), .int .i64 0, .string (⟨#[]⟩ : ByteArray), .int .u8 0, .slice none 0 0]) ?_ 0 _ rfl; (with_reducible repeat (first | refine blk_drewN ?_ _ | refine blk_drew ?_ | refine blk_alloc ?_ _)); exact BK418.out⟩, ⟨by repeat (first | (with_reducible first | exact HB.out | apply below_alloc | apply pw_below_drewN | apply below_drew1 | refine below_set ?_ GE417.out | refine below_set ?_ GE418.out) | exact HB.out)⟩⟩
  case round =>
   clear H'
   try clear c2
   try clear c2b0
   try clear c2b1
   try clear p2
   try clear c5
   try clear c6
   try clear hcz6_0
   try clear hcz6_1
   try clear hcz6_2
   try clear hcz6_3
   try clear hcz6_4
   try clear hcz6_5
   try clear hfz6_0
   try clear hfz6_1
   try clear hfz6_2
   try clear hfz6_3
   try clear hfz6_4
   try clear hfz6_5
   obtain ⟨x10_1, x419005_1, u419005, rfl, HA, HK1, HO_419005, BK417, BK418, HB⟩ := hrel
   cases gk with
   | zero => exact absurd HA.out (by simp [source_readers_1.l0])
   | succ k1 =>
    have H := HA.out
    clear HA
    simp only [source_readers_1.l0] at H
    by_cases c8 : x10_1 < ((l0.drop 1).length : Int)
    ·rw [if_pos c8] at H
     have c8b0 : decide (x10_1 < ((l0.drop 1).length : Int)) = true := decide_eq_true c8
     have c8n : decide (x10_1 < ((l0.length - 1 : Nat) : Int)) = true := by have h := c8b0; rw [List.length_drop] at h; exact h
     clear c8
     by_cases c9 : 0 ≤ x10_1
     ·rw [if_pos c9] at H
      have c9b0 : decide (0 ≤ x10_1) = true := decide_eq_true c9
      clear c9
      by_cases c10 : x10_1 < ((l0.drop 1).length : Int)
      ·rw [if_pos c10] at H
       have c10b0 : decide (x10_1 < ((l0.drop 1).length : Int)) = true := decide_eq_true c10
       have c10n : decide (x10_1 < ((l0.length - 1 : Nat) : Int)) = true := by have h := c10b0; rw [List.length_drop] at h; exact h
       clear c10
       replace H := Option.bind_eq_some_iff.mp H
       obtain ⟨t421, A110, H⟩ := H
       replace H : (if x419005_1.length < 140737488355328 then (source_readers_1.l0 k1 (l0.drop 1) ((l0.drop 1).length : Int) (wrap64 (x10_1 + 1)) 3 (⟨#[]⟩ : ByteArray) 0 (⟨#[]⟩ : ByteArray) 0 (x419005_1 ++ [(t421) % 256])) else (none)) = some (r1, r2, r3, r4, r5, r6) := H
       have A11 := Aside0.mk A110
       clear A110
       by_cases c12 : x419005_1.length < 140737488355328
       ·rw [if_pos c12] at H
        have LMc12 := Aside0.mk c12
        clear c12
        obtain ⟨y422, hy422⟩ : ∃ y_ : List Int, y_ = (x419005_1 ++ [(t421) % 256]) := ⟨_, rfl⟩
        replace H : (source_readers_1.l0 k1 (l0.drop 1) ((l0.drop 1).length : Int) (wrap64 (x10_1 + 1)) 3 (⟨#[]⟩ : ByteArray) 0 (⟨#[]⟩ : ByteArray) 0 y422) = some (r1, r2, r3, r4, r5, r6) := by first | (rw [hy422]; with_reducible exact H) | (have H2_ := (Option.bind_some _ _).symm.trans H; rw [hy422]; with_reducible exact H2_) | (have H2_ := (Option.bind_some _ _).symm.trans H; with_reducible exact H2_) | with_reducible exact H | (rw [hy422]; exact H) | exact H
        have Ny422 := Aside0.mk hy422
        clear hy422
        have H' := Aside0.mk H
        clear H
        have p420 : 0 ≤ (x10_1 : Int) := of_decide_eq_true (by first | (with_reducible assumption) | assumption)
        have q420 : x10_1 < ((l0.drop 1).length : Int) := of_decide_eq_true (by first | (with_reducible assumption) | assumption)
        have q420n : (x10_1 < ((l0.length - 1 : Nat) : Int)) = True := eq_true (by have h := q420; rw [List.length_drop] at h; exact h)
        obtain ⟨ad420, e420, hx420_0⟩ := Kd.at_string HR419.out x10_1 p420 q420
        cases e420
        replace hx420_0 := (HB.out.cell (World.block_lt_of_cell? w _ hx420_0)).trans hx420_0
        replace p420 := eq_true p420
        replace q420 := eq_true q420
        try go_wp2
        have n0_ := Aside0.mk (Kd.R_drew HO_419005.out)
        have n1_ := Aside0.mk (blk_drew BK417.out)
        have n2_ := Aside0.mk (blk_drew BK418.out)
        have n3_ := Aside0.mk (below_drew1 HB.out)
        clear HO_419005
        clear BK417
        clear BK418
        clear HB
        have HO_419005 := n0_
        have BK417 := n1_
        have BK418 := n2_
        have HB := n3_
        clear n0_ n1_ n2_ n3_
        refine start_ (n := 9) (S := fun w' => w'.cell? ⟨gb418, 0, none⟩ = some (.int .u8 3) ∧ w'.cell? ⟨gb418, 1, none⟩ = some (.string (⟨#[]⟩ : ByteArray)) ∧ w'.cell? ⟨gb418, 2, none⟩ = some (.int .i64 0) ∧ w'.cell? ⟨gb418, 3, none⟩ = some (.string (⟨#[]⟩ : ByteArray)) ∧ w'.cell? ⟨gb418, 4, none⟩ = some (.int .u8 0) ∧ w'.cell? ⟨gb418, 5, none⟩ = some (u419005)) (ds := [8]) #[false, false, false, false, false, false, false, false, false] (by kernel_rfl) rfl rfl ⟨(blk_cell BK418.out 0).trans rfl, (blk_cell BK418.out 1).trans rfl, (blk_cell BK418.out 2).trans rfl, (blk_cell BK418.out 3).trans rfl, (blk_cell BK418.out 4).trans rfl, (blk_cell BK418.out 5).trans rfl⟩ (fun hHeld => ?_); refine with_tabW source_readers_1.tab5 source_readers_1.bits5 (fun HT_ HW_ => ?_)
        generalize wr.drew = w13 at HO_419005 BK417 BK418 HB hHeld ⊢
        refine pure_ (i := 0) (N := some 14) (v := ?_) (a' := ?_) #[true, false, false, false, false, false, false, false, false] rfl rfl (any_of HT_.out (by kernel_rfl)) (fun _ _ _ h => h) (Or.inl ⟨by rfl, ?_⟩) ?_ ?_
        rotate_left
        ·intro w'
         go_simp
         with_reducible rfl
        rotate_left
        ·simp only [Act.put, List.setIfInBounds_toArray, List.set_cons_zero, List.set_cons_succ, i64_w, i32_w]
         rfl
        refine pure_ (i := 2) (N := some 16) (v := ?_) (a' := ?_) #[true, false, true, false, false, false, false, false, false] rfl rfl (any_of HT_.out (by kernel_rfl)) (fun _ _ _ h => h) (Or.inl ⟨by rfl, ?_⟩) ?_ ?_
        rotate_left
        ·intro w'
         go_simp
         with_reducible rfl
        rotate_left
        ·simp only [Act.put, List.setIfInBounds_toArray, List.set_cons_zero, List.set_cons_succ, i64_w, i32_w]
         rfl
        refine take_ (i := 1) (N := some 15) (v := ?_) (a' := ?_) #[true, true, true, false, false, false, false, false, false] rfl rfl (take_ofW HT_.out HW_.out (by kernel_rfl)) (fun _ _ _ h => h) (Or.inl ⟨by rfl, ?_⟩) hHeld ?_ ?_
        rotate_left
        ·rintro w' ⟨s0, s1, s2, s3, s4, s5⟩
         go_simp
         with_reducible rfl
        rotate_left
        ·simp only [Act.put, List.setIfInBounds_toArray, List.set_cons_zero, List.set_cons_succ, i64_w, i32_w]
         rfl
        refine one_ (i := 3) (N := some 17) #[true, true, true, true, false, false, false, false, false] rfl rfl (one_of HT_.out (by kernel_rfl)) (by decide) (fun K hK => ?_)
        refine goes_ Tryd.func63 (by kernel_rfl) rfl #[.string (rdOf ByteArray.empty l0.tail x10_1), .int .i64 2] (by rfl) rfl rfl (by (try simp only [List.map_toArray, List.map_cons, List.map_nil]); first | done | rfl | (simp only [List.length_drop, List.length_take]; rfl)) ?_
        with_reducible refine (source_number.calls (rdOf ByteArray.empty l0.tail x10_1) 2 t421 _ (by have h := A11.out; rw [List.drop_one] at h; exact h)).mono ?_
        rintro e w14 ⟨rfl, hb⟩
        refine ⟨_, rfl, ?_⟩
        have n0_ := Aside0.mk (Kd.R_below (by (with_reducible repeat (first | apply Kd.R_alloc | apply Kd.R_drewN | apply Kd.R_drew)); exact HO_419005.out) hb)
        have n1_ := Aside0.mk (blk_below (g := gb417) (o := .cells #[.int .u8 0, .string (⟨#[]⟩ : ByteArray), .int .i64 0, .string (⟨#[]⟩ : ByteArray), .int .u8 0, .slice none 0 0] 43 (0, 0)) (by (with_reducible repeat (first | refine blk_drewN ?_ _ | refine blk_drew ?_ | refine blk_alloc ?_ _)); exact BK417.out) hb)
        have n2_ := Aside0.mk (blk_below (g := gb418) (o := .cells #[.int .u8 3, .string (⟨#[]⟩ : ByteArray), .int .i64 0, .string (⟨#[]⟩ : ByteArray), .int .u8 0, u419005] 43 (0, 0)) (by (with_reducible repeat (first | refine blk_drewN ?_ _ | refine blk_drew ?_ | refine blk_alloc ?_ _)); exact BK418.out) hb)
        have n3_ := Aside0.mk (below_step (by repeat (first | (with_reducible first | exact HB.out | apply below_alloc | apply pw_below_drewN | apply below_drew1 | refine below_set ?_ GE417.out | refine below_set ?_ GE418.out) | exact HB.out)) hb)
        clear HO_419005
        clear BK417
        clear BK418
        clear HB
        have HO_419005 := n0_
        have BK417 := n1_
        have BK418 := n2_
        have HB := n3_
        clear n0_ n1_ n2_ n3_
        (try clear hb)
        (try clear hb2)
        (try clear hk)
        (try clear hi)
        refine hK.out _ _ ⟨(blk_cell BK418.out 0).trans rfl, (blk_cell BK418.out 1).trans rfl, (blk_cell BK418.out 2).trans rfl, (blk_cell BK418.out 3).trans rfl, (blk_cell BK418.out 4).trans rfl, (blk_cell BK418.out 5).trans rfl⟩ (fun hHeld => ?_)
        clear hK K
        refine norm_ (a' := ?_) ?_ ?_
        rotate_left
        ·show Act.put _ (some 17) _ = _
         simp only [Act.put, List.setIfInBounds_toArray, List.set_cons_zero, List.set_cons_succ, i64_w, i32_w]
         rfl
        refine pure_ (i := 4) (N := some 18) (v := ?_) (a' := ?_) #[true, true, true, true, true, false, false, false, false] rfl rfl (any_of HT_.out (by kernel_rfl)) (fun _ _ _ h => h) (Or.inl ⟨by rfl, ?_⟩) ?_ ?_
        rotate_left
        ·intro w'
         go_simp
         with_reducible rfl
        rotate_left
        ·simp only [Act.put, List.setIfInBounds_toArray, List.set_cons_zero, List.set_cons_succ, i64_w, i32_w]
         rfl
        refine one_ (i := 5) (N := some 19) #[true, true, true, true, true, true, false, false, false] rfl rfl (one_of HT_.out (by kernel_rfl)) (by decide) (fun K hK => ?_)
        refine value_ (w1 := ?_) (v := ?_) (by rfl) rfl ?_ ?_
        rotate_left 2
        ·go_simp
         constructor
         ·rfl
         ·rfl
        refine hK.out _ _ ⟨(blk_cell (blk_alloc BK418.out _) 0).trans rfl, (blk_cell (blk_alloc BK418.out _) 1).trans rfl, (blk_cell (blk_alloc BK418.out _) 2).trans rfl, (blk_cell (blk_alloc BK418.out _) 3).trans rfl, (blk_cell (blk_alloc BK418.out _) 4).trans rfl, (blk_cell (blk_alloc BK418.out _) 5).trans rfl⟩ (fun hHeld => ?_)
        clear hK K
        refine norm_ (a' := ?_) ?_ ?_
        rotate_left
        ·show Act.put _ (some 19) _ = _
         simp only [Act.put, List.setIfInBounds_toArray, List.set_cons_zero, List.set_cons_succ, i64_w, i32_w]
         rfl
        refine one_ (i := 6) (N := some 20) #[true, true, true, true, true, true, true, false, false] rfl rfl (one_of HT_.out (by kernel_rfl)) (by decide) (fun K hK => ?_)
        refine Kd.R_append_step (Kd.int .u8) (w0 := w) w.heap.size (by rfl) (.tmp 15) (.tmp 19) 41 5 (.int .u8 0) 1 rfl Tryd.underlying41 info5 rfl (by decide) (by omega) u419005 x419005_1 ((t421) % 256) [.int .u8 ((t421) % 256)] (fun _ => True) (fun _ => False) rfl rfl ?aP (fun _ hk => hk.elim) ?aF ?aO ?aB ?aS ?aL ?_
        (case aP => exact rfl)
        (case aB => exact (by repeat (first | (with_reducible first | exact HB.out | apply below_alloc | apply pw_below_drewN | apply below_drew1 | refine below_set ?_ GE417.out | refine below_set ?_ GE418.out) | exact HB.out)))
        (case aF => exact (fun _ _ => trivial))
        (case aO => exact (by (with_reducible repeat (first | apply Kd.R_alloc | apply Kd.R_drewN | apply Kd.R_drew)); exact HO_419005.out))
        (case aS => exact (below_size (by repeat (first | (with_reducible first | exact HB.out | apply below_alloc | apply pw_below_drewN | apply below_drew1 | refine below_set ?_ GE417.out | refine below_set ?_ GE418.out) | exact HB.out))))
        (case aL => have := LMc12.out; omega)
        intro v423 w15 ho hb hg hat
        rw [← Ny422.out] at ho
        have n0_ := Aside0.mk (blk_grown (g := gb417) (o := .cells #[.int .u8 0, .string (⟨#[]⟩ : ByteArray), .int .i64 0, .string (⟨#[]⟩ : ByteArray), .int .u8 0, .slice none 0 0] 43 (0, 0)) (by (with_reducible repeat (first | refine blk_drewN ?_ _ | refine blk_drew ?_ | refine blk_alloc ?_ _)); exact BK417.out) hg (Kd.R_ne HO_419005.out BK417.out (by decide)))
        have n1_ := Aside0.mk (blk_grown (g := gb418) (o := .cells #[.int .u8 3, .string (⟨#[]⟩ : ByteArray), .int .i64 0, .string (⟨#[]⟩ : ByteArray), .int .u8 0, u419005] 43 (0, 0)) (by (with_reducible repeat (first | refine blk_drewN ?_ _ | refine blk_drew ?_ | refine blk_alloc ?_ _)); exact BK418.out) hg (Kd.R_ne HO_419005.out BK418.out (by decide)))
        have n2_ := Aside0.mk (hb)
        have n3_ := Aside0.mk (ho)
        clear BK417
        clear BK418
        clear HB
        clear HO_419005
        have BK417 := n0_
        have BK418 := n1_
        have HB := n2_
        have HO424 := n3_
        clear n0_ n1_ n2_ n3_
        clear ho hb hg hat
        obtain ⟨Ao16, co16, eo16⟩ := Kd.R_slice HO424.out
        (first | subst eo16 | (injection eo16 with f1_ f2_ f3_; have f4_ := f1_.symm; have f5_ := f3_.symm; clear f1_ f2_ f3_; subst f4_; subst f5_))
        refine hK.out _ _ ⟨(blk_cell BK418.out 0).trans rfl, (blk_cell BK418.out 1).trans rfl, (blk_cell BK418.out 2).trans rfl, (blk_cell BK418.out 3).trans rfl, (blk_cell BK418.out 4).trans rfl, (blk_cell BK418.out 5).trans rfl⟩ (fun hHeld => ?_)
        clear hK K
        refine norm_ (a' := ?_) ?_ ?_
        rotate_left
        ·show Act.put _ (some 20) _ = _
         simp only [Act.put, List.setIfInBounds_toArray, List.set_cons_zero, List.set_cons_succ, i64_w, i32_w]
         rfl
        refine pure_ (i := 7) (N := some 21) (v := ?_) (a' := ?_) #[true, true, true, true, true, true, true, true, false] rfl rfl (any_of HT_.out (by kernel_rfl)) (fun _ _ _ h => h) (Or.inl ⟨by rfl, ?_⟩) ?_ ?_
        rotate_left
        ·intro w'
         go_simp
         with_reducible rfl
        rotate_left
        ·simp only [Act.put, List.setIfInBounds_toArray, List.set_cons_zero, List.set_cons_succ, i64_w, i32_w]
         rfl
        refine last_ (i := 8) (N := none) #[true, true, true, true, true, true, true, true, true] rfl rfl (one_of HT_.out (by kernel_rfl)) (by decide) (fun K hK => ?_)
        have hs17 : w15.cell? ⟨gb418, 5, none⟩ = some (u419005) := (blk_cell BK418.out 5).trans rfl
        have hfs17 := blk_frozen BK418.out 5
        have hns17_0 := NB417_418.out
        have hms17_0 := NB418_417.out
        refine skip_ (w1 := ?_) (by rfl) rfl ?_ ?_
        rotate_left
        ·go_simp
         rfl
        refine hK.out _ _ ?_
        clear hK K
        refine done_ (done_of HT_.out (by kernel_rfl)) ?_
        try go_wp2
        go_roundg k1
        case measure => have := HK1.out; omega
        case rel => exact ⟨(wrap64 (x10_1 + 1)), (y422), (.slice Ao16 y422.length co16), (by first | rfl | (simp; done) | (simp [*]; done)), H', ⟨by have := HK1.out; omega⟩, ⟨by (with_reducible repeat (first | apply Kd.R_alloc | apply Kd.R_drewN | apply Kd.R_drew)); exact Kd.R_mono (Kd.R_far (p := ⟨gb418, 5, none⟩) (Kd.R_types HO424.out BK418.out (by decide)) (fun _ hk => hk.2) (.slice Ao16 y422.length co16)) (fun _ hk => trivial)⟩, ⟨by (with_reducible repeat (first | refine blk_drewN ?_ _ | refine blk_drew ?_ | refine blk_alloc ?_ _)); refine blk_far ?_ NB417_418.out _; (with_reducible repeat (first | refine blk_drewN ?_ _ | refine blk_drew ?_ | refine blk_alloc ?_ _)); exact BK417.out⟩, ⟨by (with_reducible repeat (first | refine blk_drewN ?_ _ | refine blk_drew ?_ | refine blk_alloc ?_ _)); refine blk_put (cs := #[.int .u8 3, .string (⟨#[]⟩ : ByteArray), .int .i64 0, .string (⟨#[]⟩ : ByteArray), .int .u8 0, u419005]) ?_ 5 _ rfl; (with_reducible repeat (first | refine blk_drewN ?_ _ | refine blk_drew ?_ | refine blk_alloc ?_ _)); exact BK418.out⟩, ⟨by repeat (first | (with_reducible first | exact HB.out | apply below_alloc | apply pw_below_drewN | apply below_drew1 | refine below_set ?_ GE417.out | refine below_set ?_ GE418.out) | exact HB.out)⟩⟩
       ·rw [if_neg c12] at H
        exact absurd H (by simp)
      ·rw [if_neg c10] at H
       exact absurd H (by simp)
     ·rw [if_neg c9] at H
      exact absurd H (by simp)
    ·rw [if_neg c8] at H
     have c8b0 : decide (x10_1 < ((l0.drop 1).length : Int)) = false := decide_eq_false c8
     have c8n : decide (x10_1 < ((l0.length - 1 : Nat) : Int)) = false := by have h := c8b0; rw [List.length_drop] at h; exact h
     clear c8
     simp only [Option.some.injEq, Prod.mk.injEq] at H
     obtain ⟨rfl, rfl, rfl, rfl, rfl, rfl⟩ := H
     have hnb18 := NB418_417.out
     have hnc18 := NB417_418.out
     have hcz19_0 : wr.cell? ⟨gb418, 0, none⟩ = some (.int .u8 3) := (blk_cell BK418.out 0).trans rfl
     have hcz19_1 : wr.cell? ⟨gb418, 1, none⟩ = some (.string (⟨#[]⟩ : ByteArray)) := (blk_cell BK418.out 1).trans rfl
     have hcz19_2 : wr.cell? ⟨gb418, 2, none⟩ = some (.int .i64 0) := (blk_cell BK418.out 2).trans rfl
     have hcz19_3 : wr.cell? ⟨gb418, 3, none⟩ = some (.string (⟨#[]⟩ : ByteArray)) := (blk_cell BK418.out 3).trans rfl
     have hcz19_4 : wr.cell? ⟨gb418, 4, none⟩ = some (.int .u8 0) := (blk_cell BK418.out 4).trans rfl
     have hcz19_5 : wr.cell? ⟨gb418, 5, none⟩ = some (u419005) := (blk_cell BK418.out 5).trans rfl
     have hfz19_0 := blk_frozen BK418.out 0
     have hfz19_1 := blk_frozen BK418.out 1
     have hfz19_2 := blk_frozen BK418.out 2
     have hfz19_3 := blk_frozen BK418.out 3
     have hfz19_4 := blk_frozen BK418.out 4
     have hfz19_5 := blk_frozen BK418.out 5
     have hcz20_0 : wr.cell? ⟨gb417, 0, none⟩ = some (.int .u8 0) := (blk_cell BK417.out 0).trans rfl
     have hcz20_1 : wr.cell? ⟨gb417, 1, none⟩ = some (.string (⟨#[]⟩ : ByteArray)) := (blk_cell BK417.out 1).trans rfl
     have hcz20_2 : wr.cell? ⟨gb417, 2, none⟩ = some (.int .i64 0) := (blk_cell BK417.out 2).trans rfl
     have hcz20_3 : wr.cell? ⟨gb417, 3, none⟩ = some (.string (⟨#[]⟩ : ByteArray)) := (blk_cell BK417.out 3).trans rfl
     have hcz20_4 : wr.cell? ⟨gb417, 4, none⟩ = some (.int .u8 0) := (blk_cell BK417.out 4).trans rfl
     have hcz20_5 : wr.cell? ⟨gb417, 5, none⟩ = some (.slice none 0 0) := (blk_cell BK417.out 5).trans rfl
     have hfz20_0 := blk_frozen BK417.out 0
     have hfz20_1 := blk_frozen BK417.out 1
     have hfz20_2 := blk_frozen BK417.out 2
     have hfz20_3 := blk_frozen BK417.out 3
     have hfz20_4 := blk_frozen BK417.out 4
     have hfz20_5 := blk_frozen BK417.out 5
     obtain ⟨Ao21, co21, eo21⟩ := Kd.R_slice HO_419005.out
     subst eo21
     go_wp2
     refine bodyPost_ret (results_cell_row rfl _ _ gb417 43 #[.int .u8 3, .string (⟨#[]⟩ : ByteArray), .int .i64 0, .string (⟨#[]⟩ : ByteArray), .int .u8 0, .slice Ao21 x419005_1.length co21] (0, 0) _ rfl (by (with_reducible repeat (first | refine blk_drewN ?_ _ | refine blk_drew ?_ | refine blk_alloc ?_ _)); refine blk_put (cs := #[.int .u8 3, .string (⟨#[]⟩ : ByteArray), .int .i64 0, .string (⟨#[]⟩ : ByteArray), .int .u8 0, .slice none 0 0]) ?_ 5 _ rfl; (with_reducible repeat (first | refine blk_drewN ?_ _ | refine blk_drew ?_ | refine blk_alloc ?_ _)); refine blk_put (cs := #[.int .u8 3, .string (⟨#[]⟩ : ByteArray), .int .i64 0, .string (⟨#[]⟩ : ByteArray), .int .u8 0, .slice none 0 0]) ?_ 4 _ rfl; (with_reducible repeat (first | refine blk_drewN ?_ _ | refine blk_drew ?_ | refine blk_alloc ?_ _)); refine blk_put (cs := #[.int .u8 3, .string (⟨#[]⟩ : ByteArray), .int .i64 0, .string (⟨#[]⟩ : ByteArray), .int .u8 0, .slice none 0 0]) ?_ 3 _ rfl; (with_reducible repeat (first | refine blk_drewN ?_ _ | refine blk_drew ?_ | refine blk_alloc ?_ _)); refine blk_put (cs := #[.int .u8 3, .string (⟨#[]⟩ : ByteArray), .int .i64 0, .string (⟨#[]⟩ : ByteArray), .int .u8 0, .slice none 0 0]) ?_ 2 _ rfl; (with_reducible repeat (first | refine blk_drewN ?_ _ | refine blk_drew ?_ | refine blk_alloc ?_ _)); refine blk_put (cs := #[.int .u8 3, .string (⟨#[]⟩ : ByteArray), .int .i64 0, .string (⟨#[]⟩ : ByteArray), .int .u8 0, .slice none 0 0]) ?_ 1 _ rfl; (with_reducible repeat (first | refine blk_drewN ?_ _ | refine blk_drew ?_ | refine blk_alloc ?_ _)); refine blk_put (cs := #[.int .u8 0, .string (⟨#[]⟩ : ByteArray), .int .i64 0, .string (⟨#[]⟩ : ByteArray), .int .u8 0, .slice none 0 0]) ?_ 0 _ rfl; (with_reducible repeat (first | refine blk_drewN ?_ _ | refine blk_drew ?_ | refine blk_alloc ?_ _)); exact BK417.out) Tryd.underlying43 rfl (by kernel_rfl)) rfl ?_
     exact ⟨_, by first | rfl | (simp [errW_none, errW_some] <;> rfl) | (simp [*, errW_none, errW_some] <;> rfl), by (with_reducible repeat (first | apply Kd.R_alloc | apply Kd.R_drewN | apply Kd.R_drew)); exact Kd.R_mono (Kd.R_far (p := ⟨gb417, 5, none⟩) (Kd.R_far (p := ⟨gb417, 4, none⟩) (Kd.R_far (p := ⟨gb417, 3, none⟩) (Kd.R_far (p := ⟨gb417, 2, none⟩) (Kd.R_far (p := ⟨gb417, 1, none⟩) (Kd.R_far (p := ⟨gb417, 0, none⟩) (Kd.R_types HO_419005.out BK417.out (by decide)) (fun _ hk => hk.2) (.int .u8 3)) (fun _ hk => hk.2) (.string (⟨#[]⟩ : ByteArray))) (fun _ hk => hk.2) (.int .i64 0)) (fun _ hk => hk.2) (.string (⟨#[]⟩ : ByteArray))) (fun _ hk => hk.2) (.int .u8 0)) (fun _ hk => hk.2) (.slice Ao21 x419005_1.length co21)) (fun _ hk => trivial), by repeat (first | (with_reducible first | exact HB.out | apply below_alloc | apply pw_below_drewN | apply below_drew1 | refine below_set ?_ GE417.out | refine below_set ?_ GE418.out) | exact HB.out)⟩
 ·rw [if_neg c2] at H
  exact absurd H (by simp)
end Go.Proofs.YtjedbamcjgabpaaDoor.PSo
