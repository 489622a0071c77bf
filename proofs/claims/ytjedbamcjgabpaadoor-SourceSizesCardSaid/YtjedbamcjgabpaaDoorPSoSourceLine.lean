/- Written by a program of this session (gprint.py, over the kit's printer): functions of the seat YtjedbamcjgabpaaDoor and their contracts. No condition but each contract's own. -/
import Derived.Test.YtjedbamcjgabpaaDoorPSox0
import Derived.Test.YtjedbamcjgabpaaDoorSrcAll
import Derived.Test.YtjedbamcjgabpaaDoorSrcHex
import Derived.Test.YtjedbamcjgabpaaDoorSrcCp
import Derived.Test.YtjedbamcjgabpaaDoorSrcG
namespace Go.Proofs.YtjedbamcjgabpaaDoor.PSo
open Go.RowKit Go.Proofs.YtjedbamcjgabpaaDoorW.PrintWords Go.Proofs.YtjedbamcjgabpaaDoorW.PrintLast Go.Proofs.YtjedbamcjgabpaaDoorW.PrintMore
open Go.Proofs.YtjedbamcjgabpaaDoor.Src (GOk)
attribute [local go_sem] max2_int min2_int max_two min_two max_three min_three max_four min_four   -- for this text's walks alone
set_option linter.unusedVariables false
set_option linter.unusedSimpArgs false

/-! ### source_line: function 26 -/
def source_line.l0 : Nat → ByteArray → List Int → Int → Int → Option (ByteArray)
 | 0, _, _, _, _ => none
 | k + 1, x3, x18, x19, x20 => if x20 < x19 then (if 0 ≤ x20 then (if x20 < (x18.length : Int) then ((bits_Hex.f (wrap64 (rd x18 x20)) 2).bind fun t147 => (if 1 + t147.size ≤ 9223372036854775807 then (if x3.size + ((⟨#[32]⟩ : ByteArray) ++ t147).size ≤ 9223372036854775807 then (source_line.l0 k (x3 ++ ((⟨#[32]⟩ : ByteArray) ++ t147)) x18 x19 (wrap64 (x20 + 1))) else (none)) else (none))) else (none)) else (none)) else (some x3)
def source_line.f (k : Nat) (a0_0 : Int) (a0_1 : ByteArray) (a0_2 : Int) (a0_3 : ByteArray) (a0_4 : Int) (l0_5 : List Int) : Option (ByteArray) := if a0_0 = 1 then (if a0_1.size + 1 ≤ 9223372036854775807 then (some (a0_1 ++ (⟨#[58]⟩ : ByteArray))) else (none)) else (if a0_0 = 3 then (source_line.l0 k (⟨#[32, 100, 97, 116, 97]⟩ : ByteArray) l0_5 (l0_5.length : Int) 0) else (if a0_0 = 4 then ((bits_Hex.f a0_2 4).bind fun t148 => (if 4 + t148.size ≤ 9223372036854775807 then (some ((⟨#[32, 97, 116, 32]⟩ : ByteArray) ++ t148)) else (none))) else (if a0_0 = 5 then (if 9 + a0_3.size ≤ 9223372036854775807 then (some ((⟨#[32, 97, 100, 100, 114, 101, 115, 115, 32]⟩ : ByteArray) ++ a0_3)) else (none)) else (if a0_4 = 0 then ((code_Print.f a0_1 a0_2).bind fun bt149 => (if 1 + bt149.1.size ≤ 9223372036854775807 then (some ((⟨#[32]⟩ : ByteArray) ++ bt149.1)) else (none))) else (if 1 + a0_1.size ≤ 9223372036854775807 then (if ((⟨#[32]⟩ : ByteArray) ++ a0_1).size + 1 ≤ 9223372036854775807 then ((source_parts.f a0_4).bind fun t151 => (if (((⟨#[32]⟩ : ByteArray) ++ a0_1) ++ (⟨#[32]⟩ : ByteArray)).size + t151.size ≤ 9223372036854775807 then (if ((((⟨#[32]⟩ : ByteArray) ++ a0_1) ++ (⟨#[32]⟩ : ByteArray)) ++ t151).size + 1 ≤ 9223372036854775807 then (if (((((⟨#[32]⟩ : ByteArray) ++ a0_1) ++ (⟨#[32]⟩ : ByteArray)) ++ t151) ++ (⟨#[32]⟩ : ByteArray)).size + a0_3.size ≤ 9223372036854775807 then (some ((((((⟨#[32]⟩ : ByteArray) ++ a0_1) ++ (⟨#[32]⟩ : ByteArray)) ++ t151) ++ (⟨#[32]⟩ : ByteArray)) ++ a0_3)) else (none)) else (none)) else (none))) else (none)) else (none))))))
theorem source_line.mono_l : ∀ k, (∀ y0 y1 y2 y3, LeO (source_line.l0 k y0 y1 y2 y3) (source_line.l0 (k + 1) y0 y1 y2 y3))
 | 0 => fun _ _ _ _ r h => by simp [source_line.l0] at h
 | k + 1 => by
  have ih0 := source_line.mono_l k
  ·intro y0 y1 y2 y3
   unfold source_line.l0
   repeat' first
   | (with_reducible exact ih0 _ _ _ _)
   | (with_reducible exact LeO.refl _)
   | (with_reducible exact LeO.none _)
   | (with_reducible refine LeO.ite ?_ ?_)
   | (with_reducible refine LeO.bind ?_ (fun _ => ?_))
   | exact ih0 _ _ _ _
   | exact LeO.none _
   | refine LeO.ite ?_ ?_
   | refine LeO.bind ?_ (fun _ => ?_)
theorem source_line.mono : ∀ a0 a1 a2 a3 a4 a5 k, LeO (source_line.f k a0 a1 a2 a3 a4 a5) (source_line.f (k + 1) a0 a1 a2 a3 a4 a5) := by
 intro a0 a1 a2 a3 a4 a5 k
 have ih0 := source_line.mono_l k
 unfold source_line.f
 repeat' first
  | (with_reducible exact ih0 _ _ _ _)
  | (with_reducible exact LeO.refl _)
  | (with_reducible exact LeO.none _)
  | (with_reducible refine LeO.ite ?_ ?_)
  | (with_reducible refine LeO.bind ?_ (fun _ => ?_))
  | exact ih0 _ _ _ _
  | exact LeO.none _
  | refine LeO.ite ?_ ?_
  | refine LeO.bind ?_ (fun _ => ?_)
def source_line.T17 : Bool × List (List Nat × List Nat) := (true, [([], []), ([0], [0]), ([1], [1]), ([2], [2]), ([], []), ([4], [4]), ([5], [5]), ([3, 6], [3, 6]), ([7], [7]), ([], []), ([9], [9]), ([8, 10], [8, 10]), ([11, 6, 0, 1, 2, 3, 4, 5, 6, 7, 8, 9, 10, 11], [11])])
def source_line.B17 : List Nat := [0, 1, 3, 7, 0, 16, 48, 127, 255, 0, 512, 2047, 4095]
theorem source_line.tab17 : rtab .any (opsOf Tryd.f26 17) = source_line.T17 := by kernel_rfl
theorem source_line.bits17 : waitsOk source_line.T17.2 source_line.B17 = true := by kernel_rfl
set_option maxHeartbeats 8000000 in
set_option maxRecDepth 100000 in
theorem source_line.calls (k : Nat) (a0_0 : Int) (a0_1 : ByteArray) (a0_2 : Int) (a0_3 : ByteArray) (a0_4 : Int) (A0_5 : Option Addr) (c0_5 : Nat) (l0_5 : List Int) (r : ByteArray) (w : World) (hr0_5 : Kd.C (Kd.int .u8) w A0_5 l0_5.length l0_5) (hc0_5 : l0_5.length ≤ c0_5) (h : source_line.f k a0_0 a0_1 a0_2 a0_3 a0_4 l0_5 = some r) (hG : GOk w := by first | exact HG.out | exact GOk.below HG.out HB.out | exact GOk.below HG.out (by repeat (first | (with_reducible first | exact HB.out | apply below_alloc | apply pw_below_drewN | apply below_drew1 | refine below_set ?_ (Aside0.out (by assumption))) | exact HB.out))) :
 Calls Tryd.prog 26 #[.agg #[.int .u8 a0_0, .string a0_1, .int .i64 a0_2, .string a0_3, .int .u8 a0_4, .slice A0_5 l0_5.length c0_5]] w fun e w' => e = .returned (.string r) ∧ Below w.heap.size w w' := by
 have HG := Aside0.mk hG
 clear hG
 have hu43 := Tryd.underlying43
 have hu80 := Tryd.underlying80
 have HR0_5 := Aside0.mk hr0_5
 have HC0_5 := Aside0.mk hc0_5
 clear hr0_5 hc0_5
 have HB := Aside0.mk (Below.refl w.heap.size w)
 have H : (if a0_0 = 1 then (if a0_1.size + 1 ≤ 9223372036854775807 then (some (a0_1 ++ (⟨#[58]⟩ : ByteArray))) else (none)) else (if a0_0 = 3 then (source_line.l0 k (⟨#[32, 100, 97, 116, 97]⟩ : ByteArray) l0_5 (l0_5.length : Int) 0) else (if a0_0 = 4 then ((bits_Hex.f a0_2 4).bind fun t148 => (if 4 + t148.size ≤ 9223372036854775807 then (some ((⟨#[32, 97, 116, 32]⟩ : ByteArray) ++ t148)) else (none))) else (if a0_0 = 5 then (if 9 + a0_3.size ≤ 9223372036854775807 then (some ((⟨#[32, 97, 100, 100, 114, 101, 115, 115, 32]⟩ : ByteArray) ++ a0_3)) else (none)) else (if a0_4 = 0 then ((code_Print.f a0_1 a0_2).bind fun bt149 => (if 1 + bt149.1.size ≤ 9223372036854775807 then (some ((⟨#[32]⟩ : ByteArray) ++ bt149.1)) else (none))) else (if 1 + a0_1.size ≤ 9223372036854775807 then (if ((⟨#[32]⟩ : ByteArray) ++ a0_1).size + 1 ≤ 9223372036854775807 then ((source_parts.f a0_4).bind fun t151 => (if (((⟨#[32]⟩ : ByteArray) ++ a0_1) ++ (⟨#[32]⟩ : ByteArray)).size + t151.size ≤ 9223372036854775807 then (if ((((⟨#[32]⟩ : ByteArray) ++ a0_1) ++ (⟨#[32]⟩ : ByteArray)) ++ t151).size + 1 ≤ 9223372036854775807 then (if (((((⟨#[32]⟩ : ByteArray) ++ a0_1) ++ (⟨#[32]⟩ : ByteArray)) ++ t151) ++ (⟨#[32]⟩ : ByteArray)).size + a0_3.size ≤ 9223372036854775807 then (some ((((((⟨#[32]⟩ : ByteArray) ++ a0_1) ++ (⟨#[32]⟩ : ByteArray)) ++ t151) ++ (⟨#[32]⟩ : ByteArray)) ++ a0_3)) else (none)) else (none)) else (none))) else (none)) else (none))))))) = some r := h
 clear h
 by_cases c2 : a0_0 = 1
 ·rw [if_pos c2] at H
  have c2b0 : (a0_0 == 1) = true := beq_iff_eq.mpr c2
  have c2b1 : (a0_0 != 1) = false := bne_eq_false_iff_eq.mpr c2
  clear c2
  by_cases c3 : a0_1.size + 1 ≤ 9223372036854775807
  ·rw [if_pos c3] at H
   have c3b0 := eq_true c3
   have c3b1 : decide (a0_1.size + 1 ≤ 9223372036854775807) = true := decide_eq_true c3
   try have c3b2 : (9223372036854775807 < a0_1.size + 1) = False := eq_false (Nat.not_lt.2 c3)
   obtain rfl := Option.some.inj H
   go_enter Tryd.func26, Tryd.ntmps26
   go_wp2_with (first | ((with_reducible refine gate_dst (N := 1) rfl ?_); refine box_event ?hg (N := 1) ?hd (cs := #[.int .u8 a0_0, .string a0_1, .int .i64 a0_2, .string a0_3, .int .u8 a0_4, .slice A0_5 l0_5.length c0_5]) (t := 43) ?hr ?_; (case hd => rfl); (case hg => rfl); (case hr => first | (go_simp; done) | (go_simp; rfl)); intro gb145 hg w4 hbox hb; have n0_ := Aside0.mk (below_step (by repeat (first | (with_reducible first | exact HB.out | apply below_alloc | apply pw_below_drewN | apply below_drew1) | exact HB.out)) hb); have n1_ := Aside0.mk (hbox); have n2_ := Aside0.mk ((by rw [hg]; exact (below_size (by repeat (first | (with_reducible first | exact HB.out | apply below_alloc | apply pw_below_drewN | apply below_drew1) | exact HB.out))) : w.heap.size ≤ gb145)); have n3_ := Aside0.mk ((by rw [hg]; exact (below_size (by repeat (first | (with_reducible first | exact HB.out | apply below_alloc | apply pw_below_drewN | apply below_drew1) | exact HB.out))) : w.heap.size ≤ gb145)); clear HB; have HB := n0_; have BK145 := n1_; have GW145 := n2_; have GE145 := n3_; clear n0_ n1_ n2_ n3_; clear hb hbox hg; have hcz5_0 : w4.cell? ⟨gb145, 0, none⟩ = some (.int .u8 a0_0) := (blk_cell BK145.out 0).trans rfl; have hcz5_1 : w4.cell? ⟨gb145, 1, none⟩ = some (.string a0_1) := (blk_cell BK145.out 1).trans rfl; have hcz5_2 : w4.cell? ⟨gb145, 2, none⟩ = some (.int .i64 a0_2) := (blk_cell BK145.out 2).trans rfl; have hcz5_3 : w4.cell? ⟨gb145, 3, none⟩ = some (.string a0_3) := (blk_cell BK145.out 3).trans rfl; have hcz5_4 : w4.cell? ⟨gb145, 4, none⟩ = some (.int .u8 a0_4) := (blk_cell BK145.out 4).trans rfl; have hcz5_5 : w4.cell? ⟨gb145, 5, none⟩ = some (.slice A0_5 l0_5.length c0_5) := (blk_cell BK145.out 5).trans rfl; have hfz5_0 := blk_frozen BK145.out 0; have hfz5_1 := blk_frozen BK145.out 1; have hfz5_2 := blk_frozen BK145.out 2; have hfz5_3 := blk_frozen BK145.out 3; have hfz5_4 := blk_frozen BK145.out 4; have hfz5_5 := blk_frozen BK145.out 5))
   go_ret
   exact ⟨by first | rfl | (simp [errW_none, errW_some] <;> rfl) | (simp [*, errW_none, errW_some] <;> rfl), by repeat (first | (with_reducible first | exact HB.out | apply below_alloc | apply pw_below_drewN | apply below_drew1 | refine below_set ?_ GE145.out) | exact HB.out)⟩
  ·rw [if_neg c3] at H
   exact absurd H (by simp)
 ·rw [if_neg c2] at H
  have c2b0 : (a0_0 == 1) = false := beq_eq_false_iff_ne.mpr c2
  have c2b1 : (a0_0 != 1) = true := bne_iff_ne.mpr c2
  by_cases c6 : a0_0 = 3
  ·rw [if_pos c6] at H
   have c6b0 : (a0_0 == 3) = true := beq_iff_eq.mpr c6
   have c6b1 : (a0_0 != 3) = false := bne_eq_false_iff_eq.mpr c6
   clear c6
   have H' := Aside0.mk H
   clear H
   go_enter Tryd.func26, Tryd.ntmps26
   go_wp2_with (first | ((with_reducible refine gate_dst (N := 1) rfl ?_); refine box_event ?hg (N := 1) ?hd (cs := #[.int .u8 a0_0, .string a0_1, .int .i64 a0_2, .string a0_3, .int .u8 a0_4, .slice A0_5 l0_5.length c0_5]) (t := 43) ?hr ?_; (case hd => rfl); (case hg => rfl); (case hr => first | (go_simp; done) | (go_simp; rfl)); intro gb145 hg w7 hbox hb; have n0_ := Aside0.mk (below_step (by repeat (first | (with_reducible first | exact HB.out | apply below_alloc | apply pw_below_drewN | apply below_drew1) | exact HB.out)) hb); have n1_ := Aside0.mk (hbox); have n2_ := Aside0.mk ((by rw [hg]; exact (below_size (by repeat (first | (with_reducible first | exact HB.out | apply below_alloc | apply pw_below_drewN | apply below_drew1) | exact HB.out))) : w.heap.size ≤ gb145)); have n3_ := Aside0.mk ((by rw [hg]; exact (below_size (by repeat (first | (with_reducible first | exact HB.out | apply below_alloc | apply pw_below_drewN | apply below_drew1) | exact HB.out))) : w.heap.size ≤ gb145)); clear HB; have HB := n0_; have BK145 := n1_; have GW145 := n2_; have GE145 := n3_; clear n0_ n1_ n2_ n3_; clear hb hbox hg; have hcz8_0 : w7.cell? ⟨gb145, 0, none⟩ = some (.int .u8 a0_0) := (blk_cell BK145.out 0).trans rfl; have hcz8_1 : w7.cell? ⟨gb145, 1, none⟩ = some (.string a0_1) := (blk_cell BK145.out 1).trans rfl; have hcz8_2 : w7.cell? ⟨gb145, 2, none⟩ = some (.int .i64 a0_2) := (blk_cell BK145.out 2).trans rfl; have hcz8_3 : w7.cell? ⟨gb145, 3, none⟩ = some (.string a0_3) := (blk_cell BK145.out 3).trans rfl; have hcz8_4 : w7.cell? ⟨gb145, 4, none⟩ = some (.int .u8 a0_4) := (blk_cell BK145.out 4).trans rfl; have hcz8_5 : w7.cell? ⟨gb145, 5, none⟩ = some (.slice A0_5 l0_5.length c0_5) := (blk_cell BK145.out 5).trans rfl; have hfz8_0 := blk_frozen BK145.out 0; have hfz8_1 := blk_frozen BK145.out 1; have hfz8_2 := blk_frozen BK145.out 2; have hfz8_3 := blk_frozen BK145.out 3; have hfz8_4 := blk_frozen BK145.out 4; have hfz8_5 := blk_frozen BK145.out 5))
   go_loopg [3, 20] k (fun kq v3 v20 w' => ∃ (x3_1 : ByteArray) (x20_1 : Int), v3 = .string x3_1 ∧ v20 = .int .i64 x20_1 ∧ Aside0 (source_line.l0 kq x3_1 l0_5 (l0_5.length : Int) x20_1 = some r) ∧ Aside0 (kq ≤ k) ∧ Aside0 (w'.heap[gb145]? = some (.cells #[.int .u8 a0_0, .string a0_1, .int .i64 a0_2, .string a0_3, .int .u8 a0_4, (.slice A0_5 l0_5.length c0_5)] 43 (0, 0))) ∧ Aside0 (Below w.heap.size w w'))
   case atStart => exact ⟨((⟨#[32, 100, 97, 116, 97]⟩ : ByteArray)), (0), (by first | rfl | (simp; done) | (simp [*]; done)), (by first | rfl | (simp; done) | (simp [*]; done)), H', ⟨Nat.le_refl _⟩, ⟨by (with_reducible repeat (first | refine blk_drewN ?_ _ | refine blk_drew ?_ | refine blk_alloc ?_ _)); exact BK145.out⟩, ⟨by repeat (first | (with_reducible first | exact HB.out | apply below_alloc | apply pw_below_drewN | apply below_drew1 | refine below_set ?_ GE145.out) | exact HB.out)⟩⟩
   case round =>
    clear H'
    try clear c2
    try clear c2b0
    try clear c2b1
    try clear p2
    try clear c3
    try clear c3b0
    try clear c3b1
    try clear c3b2
    try clear c6
    try clear c6b0
    try clear c6b1
    try clear hcz5_0
    try clear hcz5_1
    try clear hcz5_2
    try clear hcz5_3
    try clear hcz5_4
    try clear hcz5_5
    try clear hcz8_0
    try clear hcz8_1
    try clear hcz8_2
    try clear hcz8_3
    try clear hcz8_4
    try clear hcz8_5
    try clear hfz5_0
    try clear hfz5_1
    try clear hfz5_2
    try clear hfz5_3
    try clear hfz5_4
    try clear hfz5_5
    try clear hfz8_0
    try clear hfz8_1
    try clear hfz8_2
    try clear hfz8_3
    try clear hfz8_4
    try clear hfz8_5
    obtain ⟨x3_1, x20_1, rfl, rfl, HA, HK1, BK145, HB⟩ := hrel
    cases gk with
    | zero => exact absurd HA.out (by simp [source_line.l0])
    | succ k1 =>
     have H := HA.out
     clear HA
     simp only [source_line.l0] at H
     by_cases c9 : x20_1 < (l0_5.length : Int)
     ·rw [if_pos c9] at H
      have c9b0 : decide (x20_1 < (l0_5.length : Int)) = true := decide_eq_true c9
      clear c9
      by_cases c10 : 0 ≤ x20_1
      ·rw [if_pos c10] at H
       have c10b0 : decide (0 ≤ x20_1) = true := decide_eq_true c10
       clear c10
       by_cases c11 : x20_1 < (l0_5.length : Int)
       ·rw [if_pos c11] at H
        have c11b0 : decide (x20_1 < (l0_5.length : Int)) = true := decide_eq_true c11
        clear c11
        replace H := Option.bind_eq_some_iff.mp H
        obtain ⟨t147, A120, H⟩ := H
        replace H : (if 1 + t147.size ≤ 9223372036854775807 then (if x3_1.size + ((⟨#[32]⟩ : ByteArray) ++ t147).size ≤ 9223372036854775807 then (source_line.l0 k1 (x3_1 ++ ((⟨#[32]⟩ : ByteArray) ++ t147)) l0_5 (l0_5.length : Int) (wrap64 (x20_1 + 1))) else (none)) else (none)) = some r := H
        have A12 := Aside0.mk A120
        clear A120
        by_cases c13 : 1 + t147.size ≤ 9223372036854775807
        ·rw [if_pos c13] at H
         have c13b0 := eq_true c13
         have c13b1 : decide (1 + t147.size ≤ 9223372036854775807) = true := decide_eq_true c13
         try have c13b2 : (9223372036854775807 < 1 + t147.size) = False := eq_false (Nat.not_lt.2 c13)
         by_cases c14 : x3_1.size + ((⟨#[32]⟩ : ByteArray) ++ t147).size ≤ 9223372036854775807
         ·rw [if_pos c14] at H
          have c14b0 := eq_true c14
          have c14b1 : decide (x3_1.size + ((⟨#[32]⟩ : ByteArray) ++ t147).size ≤ 9223372036854775807) = true := decide_eq_true c14
          try have c14b2 : (9223372036854775807 < x3_1.size + ((⟨#[32]⟩ : ByteArray) ++ t147).size) = False := eq_false (Nat.not_lt.2 c14)
          have c14b3 : (9223372036854775807 < x3_1.size + (1 + t147.size)) = False := eq_false (Nat.not_lt.2 (by have h := c14; simp only [ByteArray.size_append] at h; exact h))
          have H' := Aside0.mk H
          clear H
          have p146 : 0 ≤ (x20_1 : Int) := of_decide_eq_true (by first | (with_reducible assumption) | assumption)
          have q146 : x20_1 < (l0_5.length : Int) := of_decide_eq_true (by first | (with_reducible assumption) | assumption)
          obtain ⟨ad146, e146, hx146_0⟩ := Kd.at_int HR0_5.out x20_1 p146 q146
          cases e146
          replace hx146_0 := (HB.out.cell (World.block_lt_of_cell? w _ hx146_0)).trans hx146_0
          replace p146 := eq_true p146
          replace q146 := eq_true q146
          go_wp2_with (first | ((with_reducible refine gate_callee (f := 41) rfl ?_); refine goesL_ (some 27) rfl rfl Tryd.func41 (by kernel_rfl) rfl #[.int .i64 (wrap64 (rd l0_5 x20_1)), .int .i64 2] rfl (by (try simp only [List.map_toArray, List.map_cons, List.map_nil]); first | done | rfl | (simp only [List.length_drop, List.length_take]; rfl)) ?_; (with_reducible refine (bits_Hex.calls (wrap64 (rd l0_5 x20_1)) 2 t147 _ A12.out).mono ?_); rintro e w15 ⟨rfl, hb⟩; refine ⟨_, rfl, ?_⟩; have n0_ := Aside0.mk (blk_below (g := gb145) (o := .cells #[.int .u8 a0_0, .string a0_1, .int .i64 a0_2, .string a0_3, .int .u8 a0_4, .slice (some ad146) l0_5.length c0_5] 43 (0, 0)) (by (with_reducible repeat (first | refine blk_drewN ?_ _ | refine blk_drew ?_ | refine blk_alloc ?_ _)); exact BK145.out) hb); have n1_ := Aside0.mk (below_step (by repeat (first | (with_reducible first | exact HB.out | apply below_alloc | apply pw_below_drewN | apply below_drew1 | refine below_set ?_ GE145.out) | exact HB.out)) hb); clear BK145; clear HB; have BK145 := n0_; have HB := n1_; clear n0_ n1_; (try clear hb); (try clear hb2); (try clear hk); (try clear hi)))
          go_roundg k1
          case measure => have := HK1.out; omega
          case rel => exact ⟨(x3_1 ++ ((⟨#[32]⟩ : ByteArray) ++ t147)), (wrap64 (x20_1 + 1)), (by first | rfl | (simp; done) | (simp [*]; done)), (by first | rfl | (simp; done) | (simp [*]; done)), H', ⟨by have := HK1.out; omega⟩, ⟨by (with_reducible repeat (first | refine blk_drewN ?_ _ | refine blk_drew ?_ | refine blk_alloc ?_ _)); exact BK145.out⟩, ⟨by repeat (first | (with_reducible first | exact HB.out | apply below_alloc | apply pw_below_drewN | apply below_drew1 | refine below_set ?_ GE145.out) | exact HB.out)⟩⟩
         ·rw [if_neg c14] at H
          exact absurd H (by simp)
        ·rw [if_neg c13] at H
         exact absurd H (by simp)
       ·rw [if_neg c11] at H
        exact absurd H (by simp)
      ·rw [if_neg c10] at H
       exact absurd H (by simp)
     ·rw [if_neg c9] at H
      have c9b0 : decide (x20_1 < (l0_5.length : Int)) = false := decide_eq_false c9
      clear c9
      obtain rfl := Option.some.inj H
      go_wp2
      go_ret
      exact ⟨by first | rfl | (simp [errW_none, errW_some] <;> rfl) | (simp [*, errW_none, errW_some] <;> rfl), by repeat (first | (with_reducible first | exact HB.out | apply below_alloc | apply pw_below_drewN | apply below_drew1 | refine below_set ?_ GE145.out) | exact HB.out)⟩
  ·rw [if_neg c6] at H
   have c6b0 : (a0_0 == 3) = false := beq_eq_false_iff_ne.mpr c6
   have c6b1 : (a0_0 != 3) = true := bne_iff_ne.mpr c6
   by_cases c16 : a0_0 = 4
   ·rw [if_pos c16] at H
    have c16b0 : (a0_0 == 4) = true := beq_iff_eq.mpr c16
    have c16b1 : (a0_0 != 4) = false := bne_eq_false_iff_eq.mpr c16
    clear c16
    replace H := Option.bind_eq_some_iff.mp H
    obtain ⟨t148, A170, H⟩ := H
    replace H : (if 4 + t148.size ≤ 9223372036854775807 then (some ((⟨#[32, 97, 116, 32]⟩ : ByteArray) ++ t148)) else (none)) = some r := H
    have A17 := Aside0.mk A170
    clear A170
    by_cases c18 : 4 + t148.size ≤ 9223372036854775807
    ·rw [if_pos c18] at H
     have c18b0 := eq_true c18
     have c18b1 : decide (4 + t148.size ≤ 9223372036854775807) = true := decide_eq_true c18
     try have c18b2 : (9223372036854775807 < 4 + t148.size) = False := eq_false (Nat.not_lt.2 c18)
     obtain rfl := Option.some.inj H
     go_enter Tryd.func26, Tryd.ntmps26
     go_wp2_with (first | ((with_reducible refine gate_dst (N := 1) rfl ?_); refine box_event ?hg (N := 1) ?hd (cs := #[.int .u8 a0_0, .string a0_1, .int .i64 a0_2, .string a0_3, .int .u8 a0_4, .slice A0_5 l0_5.length c0_5]) (t := 43) ?hr ?_; (case hd => rfl); (case hg => rfl); (case hr => first | (go_simp; done) | (go_simp; rfl)); intro gb145 hg w19 hbox hb; have n0_ := Aside0.mk (below_step (by repeat (first | (with_reducible first | exact HB.out | apply below_alloc | apply pw_below_drewN | apply below_drew1) | exact HB.out)) hb); have n1_ := Aside0.mk (hbox); have n2_ := Aside0.mk ((by rw [hg]; exact (below_size (by repeat (first | (with_reducible first | exact HB.out | apply below_alloc | apply pw_below_drewN | apply below_drew1) | exact HB.out))) : w.heap.size ≤ gb145)); have n3_ := Aside0.mk ((by rw [hg]; exact (below_size (by repeat (first | (with_reducible first | exact HB.out | apply below_alloc | apply pw_below_drewN | apply below_drew1) | exact HB.out))) : w.heap.size ≤ gb145)); clear HB; have HB := n0_; have BK145 := n1_; have GW145 := n2_; have GE145 := n3_; clear n0_ n1_ n2_ n3_; clear hb hbox hg; have hcz20_0 : w19.cell? ⟨gb145, 0, none⟩ = some (.int .u8 a0_0) := (blk_cell BK145.out 0).trans rfl; have hcz20_1 : w19.cell? ⟨gb145, 1, none⟩ = some (.string a0_1) := (blk_cell BK145.out 1).trans rfl; have hcz20_2 : w19.cell? ⟨gb145, 2, none⟩ = some (.int .i64 a0_2) := (blk_cell BK145.out 2).trans rfl; have hcz20_3 : w19.cell? ⟨gb145, 3, none⟩ = some (.string a0_3) := (blk_cell BK145.out 3).trans rfl; have hcz20_4 : w19.cell? ⟨gb145, 4, none⟩ = some (.int .u8 a0_4) := (blk_cell BK145.out 4).trans rfl; have hcz20_5 : w19.cell? ⟨gb145, 5, none⟩ = some (.slice A0_5 l0_5.length c0_5) := (blk_cell BK145.out 5).trans rfl; have hfz20_0 := blk_frozen BK145.out 0; have hfz20_1 := blk_frozen BK145.out 1; have hfz20_2 := blk_frozen BK145.out 2; have hfz20_3 := blk_frozen BK145.out 3; have hfz20_4 := blk_frozen BK145.out 4; have hfz20_5 := blk_frozen BK145.out 5) | ((with_reducible refine gate_callee (f := 41) rfl ?_); refine goesL_ (some 36) rfl rfl Tryd.func41 (by kernel_rfl) rfl #[.int .i64 a0_2, .int .i64 4] rfl (by (try simp only [List.map_toArray, List.map_cons, List.map_nil]); first | done | rfl | (simp only [List.length_drop, List.length_take]; rfl)) ?_; (with_reducible refine (bits_Hex.calls a0_2 4 t148 _ A17.out).mono ?_); rintro e w21 ⟨rfl, hb⟩; refine ⟨_, rfl, ?_⟩; have n0_ := Aside0.mk (blk_below (g := gb145) (o := .cells #[.int .u8 a0_0, .string a0_1, .int .i64 a0_2, .string a0_3, .int .u8 a0_4, .slice A0_5 l0_5.length c0_5] 43 (0, 0)) (by (with_reducible repeat (first | refine blk_drewN ?_ _ | refine blk_drew ?_ | refine blk_alloc ?_ _)); exact BK145.out) hb); have n1_ := Aside0.mk (below_step (by repeat (first | (with_reducible first | exact HB.out | apply below_alloc | apply pw_below_drewN | apply below_drew1 | refine below_set ?_ GE145.out) | exact HB.out)) hb); clear BK145; clear HB; have BK145 := n0_; have HB := n1_; clear n0_ n1_; (try clear hb); (try clear hb2); (try clear hk); (try clear hi)))
     go_ret
     exact ⟨by first | rfl | (simp [errW_none, errW_some] <;> rfl) | (simp [*, errW_none, errW_some] <;> rfl), by repeat (first | (with_reducible first | exact HB.out | apply below_alloc | apply pw_below_drewN | apply below_drew1 | refine below_set ?_ GE145.out) | exact HB.out)⟩
    ·rw [if_neg c18] at H
     exact absurd H (by simp)
   ·rw [if_neg c16] at H
    have c16b0 : (a0_0 == 4) = false := beq_eq_false_iff_ne.mpr c16
    have c16b1 : (a0_0 != 4) = true := bne_iff_ne.mpr c16
    by_cases c22 : a0_0 = 5
    ·rw [if_pos c22] at H
     have c22b0 : (a0_0 == 5) = true := beq_iff_eq.mpr c22
     have c22b1 : (a0_0 != 5) = false := bne_eq_false_iff_eq.mpr c22
     clear c22
     by_cases c23 : 9 + a0_3.size ≤ 9223372036854775807
     ·rw [if_pos c23] at H
      have c23b0 := eq_true c23
      have c23b1 : decide (9 + a0_3.size ≤ 9223372036854775807) = true := decide_eq_true c23
      try have c23b2 : (9223372036854775807 < 9 + a0_3.size) = False := eq_false (Nat.not_lt.2 c23)
      obtain rfl := Option.some.inj H
      go_enter Tryd.func26, Tryd.ntmps26
      go_wp2_with (first | ((with_reducible refine gate_dst (N := 1) rfl ?_); refine box_event ?hg (N := 1) ?hd (cs := #[.int .u8 a0_0, .string a0_1, .int .i64 a0_2, .string a0_3, .int .u8 a0_4, .slice A0_5 l0_5.length c0_5]) (t := 43) ?hr ?_; (case hd => rfl); (case hg => rfl); (case hr => first | (go_simp; done) | (go_simp; rfl)); intro gb145 hg w24 hbox hb; have n0_ := Aside0.mk (below_step (by repeat (first | (with_reducible first | exact HB.out | apply below_alloc | apply pw_below_drewN | apply below_drew1) | exact HB.out)) hb); have n1_ := Aside0.mk (hbox); have n2_ := Aside0.mk ((by rw [hg]; exact (below_size (by repeat (first | (with_reducible first | exact HB.out | apply below_alloc | apply pw_below_drewN | apply below_drew1) | exact HB.out))) : w.heap.size ≤ gb145)); have n3_ := Aside0.mk ((by rw [hg]; exact (below_size (by repeat (first | (with_reducible first | exact HB.out | apply below_alloc | apply pw_below_drewN | apply below_drew1) | exact HB.out))) : w.heap.size ≤ gb145)); clear HB; have HB := n0_; have BK145 := n1_; have GW145 := n2_; have GE145 := n3_; clear n0_ n1_ n2_ n3_; clear hb hbox hg; have hcz25_0 : w24.cell? ⟨gb145, 0, none⟩ = some (.int .u8 a0_0) := (blk_cell BK145.out 0).trans rfl; have hcz25_1 : w24.cell? ⟨gb145, 1, none⟩ = some (.string a0_1) := (blk_cell BK145.out 1).trans rfl; have hcz25_2 : w24.cell? ⟨gb145, 2, none⟩ = some (.int .i64 a0_2) := (blk_cell BK145.out 2).trans rfl; have hcz25_3 : w24.cell? ⟨gb145, 3, none⟩ = some (.string a0_3) := (blk_cell BK145.out 3).trans rfl; have hcz25_4 : w24.cell? ⟨gb145, 4, none⟩ = some (.int .u8 a0_4) := (blk_cell BK145.out 4).trans rfl; have hcz25_5 : w24.cell? ⟨gb145, 5, none⟩ = some (.slice A0_5 l0_5.length c0_5) := (blk_cell BK145.out 5).trans rfl; have hfz25_0 := blk_frozen BK145.out 0; have hfz25_1 := blk_frozen BK145.out 1; have hfz25_2 := blk_frozen BK145.out 2; have hfz25_3 := blk_frozen BK145.out 3; have hfz25_4 := blk_frozen BK145.out 4; have hfz25_5 := blk_frozen BK145.out 5))
      go_ret
      exact ⟨by first | rfl | (simp [errW_none, errW_some] <;> rfl) | (simp [*, errW_none, errW_some] <;> rfl), by repeat (first | (with_reducible first | exact HB.out | apply below_alloc | apply pw_below_drewN | apply below_drew1 | refine below_set ?_ GE145.out) | exact HB.out)⟩
     ·rw [if_neg c23] at H
      exact absurd H (by simp)
    ·rw [if_neg c22] at H
     have c22b0 : (a0_0 == 5) = false := beq_eq_false_iff_ne.mpr c22
     have c22b1 : (a0_0 != 5) = true := bne_iff_ne.mpr c22
     by_cases c26 : a0_4 = 0
     ·rw [if_pos c26] at H
      have c26b0 : (a0_4 == 0) = true := beq_iff_eq.mpr c26
      have c26b1 : (a0_4 != 0) = false := bne_eq_false_iff_eq.mpr c26
      clear c26
      replace H := Option.bind_eq_some_iff.mp H
      obtain ⟨⟨t149, t150⟩, A270, H⟩ := H
      replace H : (if 1 + t149.size ≤ 9223372036854775807 then (some ((⟨#[32]⟩ : ByteArray) ++ t149)) else (none)) = some r := H
      have A27 := Aside0.mk A270
      clear A270
      by_cases c28 : 1 + t149.size ≤ 9223372036854775807
      ·rw [if_pos c28] at H
       have c28b0 := eq_true c28
       have c28b1 : decide (1 + t149.size ≤ 9223372036854775807) = true := decide_eq_true c28
       try have c28b2 : (9223372036854775807 < 1 + t149.size) = False := eq_false (Nat.not_lt.2 c28)
       obtain rfl := Option.some.inj H
       go_enter Tryd.func26, Tryd.ntmps26
       go_wp2_with (first | ((with_reducible refine gate_dst (N := 1) rfl ?_); refine box_event ?hg (N := 1) ?hd (cs := #[.int .u8 a0_0, .string a0_1, .int .i64 a0_2, .string a0_3, .int .u8 a0_4, .slice A0_5 l0_5.length c0_5]) (t := 43) ?hr ?_; (case hd => rfl); (case hg => rfl); (case hr => first | (go_simp; done) | (go_simp; rfl)); intro gb145 hg w29 hbox hb; have n0_ := Aside0.mk (below_step (by repeat (first | (with_reducible first | exact HB.out | apply below_alloc | apply pw_below_drewN | apply below_drew1) | exact HB.out)) hb); have n1_ := Aside0.mk (hbox); have n2_ := Aside0.mk ((by rw [hg]; exact (below_size (by repeat (first | (with_reducible first | exact HB.out | apply below_alloc | apply pw_below_drewN | apply below_drew1) | exact HB.out))) : w.heap.size ≤ gb145)); have n3_ := Aside0.mk ((by rw [hg]; exact (below_size (by repeat (first | (with_reducible first | exact HB.out | apply below_alloc | apply pw_below_drewN | apply below_drew1) | exact HB.out))) : w.heap.size ≤ gb145)); clear HB; have HB := n0_; have BK145 := n1_; have GW145 := n2_; have GE145 := n3_; clear n0_ n1_ n2_ n3_; clear hb hbox hg; have hcz30_0 : w29.cell? ⟨gb145, 0, none⟩ = some (.int .u8 a0_0) := (blk_cell BK145.out 0).trans rfl; have hcz30_1 : w29.cell? ⟨gb145, 1, none⟩ = some (.string a0_1) := (blk_cell BK145.out 1).trans rfl; have hcz30_2 : w29.cell? ⟨gb145, 2, none⟩ = some (.int .i64 a0_2) := (blk_cell BK145.out 2).trans rfl; have hcz30_3 : w29.cell? ⟨gb145, 3, none⟩ = some (.string a0_3) := (blk_cell BK145.out 3).trans rfl; have hcz30_4 : w29.cell? ⟨gb145, 4, none⟩ = some (.int .u8 a0_4) := (blk_cell BK145.out 4).trans rfl; have hcz30_5 : w29.cell? ⟨gb145, 5, none⟩ = some (.slice A0_5 l0_5.length c0_5) := (blk_cell BK145.out 5).trans rfl; have hfz30_0 := blk_frozen BK145.out 0; have hfz30_1 := blk_frozen BK145.out 1; have hfz30_2 := blk_frozen BK145.out 2; have hfz30_3 := blk_frozen BK145.out 3; have hfz30_4 := blk_frozen BK145.out 4; have hfz30_5 := blk_frozen BK145.out 5) | ((with_reducible refine gate_callee (f := 43) rfl ?_); refine goesL_ (some 64) rfl rfl Tryd.func43 (by kernel_rfl) rfl #[.agg #[.string a0_1, .int .i64 a0_2]] rfl (by (try simp only [List.map_toArray, List.map_cons, List.map_nil]); first | done | rfl | (simp only [List.length_drop, List.length_take]; rfl)) ?_; (with_reducible refine (code_Print.calls a0_1 a0_2 t149 t150 _ A27.out).mono ?_); rintro e w31 ⟨rfl, hb⟩; refine ⟨_, rfl, ?_⟩; have n0_ := Aside0.mk (blk_below (g := gb145) (o := .cells #[.int .u8 a0_0, .string a0_1, .int .i64 a0_2, .string a0_3, .int .u8 a0_4, .slice A0_5 l0_5.length c0_5] 43 (0, 0)) (by (with_reducible repeat (first | refine blk_drewN ?_ _ | refine blk_drew ?_ | refine blk_alloc ?_ _)); exact BK145.out) hb); have n1_ := Aside0.mk (below_step (by repeat (first | (with_reducible first | exact HB.out | apply below_alloc | apply pw_below_drewN | apply below_drew1 | refine below_set ?_ GE145.out) | exact HB.out)) hb); clear BK145; clear HB; have BK145 := n0_; have HB := n1_; clear n0_ n1_; (try clear hb); (try clear hb2); (try clear hk); (try clear hi)))
       go_ret
       exact ⟨by first | rfl | (simp [errW_none, errW_some] <;> rfl) | (simp [*, errW_none, errW_some] <;> rfl), by repeat (first | (with_reducible first | exact HB.out | apply below_alloc | apply pw_below_drewN | apply below_drew1 | refine below_set ?_ GE145.out) | exact HB.out)⟩
      ·rw [if_neg c28] at H
       exact absurd H (by simp)
     ·rw [if_neg c26] at H
      have c26b0 : (a0_4 == 0) = false := beq_eq_false_iff_ne.mpr c26
      have c26b1 : (a0_4 != 0) = true := bne_iff_ne.mpr c26
      by_cases c32 : 1 + a0_1.size ≤ 9223372036854775807
      ·rw [if_pos c32] at H
       have c32b0 := eq_true c32
       have c32b1 : decide (1 + a0_1.size ≤ 9223372036854775807) = true := decide_eq_true c32
       try have c32b2 : (9223372036854775807 < 1 + a0_1.size) = False := eq_false (Nat.not_lt.2 c32)
       by_cases c33 : ((⟨#[32]⟩ : ByteArray) ++ a0_1).size + 1 ≤ 9223372036854775807
       ·rw [if_pos c33] at H
        have c33b0 := eq_true c33
        have c33b1 : decide (((⟨#[32]⟩ : ByteArray) ++ a0_1).size + 1 ≤ 9223372036854775807) = true := decide_eq_true c33
        try have c33b2 : (9223372036854775807 < ((⟨#[32]⟩ : ByteArray) ++ a0_1).size + 1) = False := eq_false (Nat.not_lt.2 c33)
        have c33b3 : (9223372036854775807 < 1 + a0_1.size + 1) = False := eq_false (Nat.not_lt.2 (by have h := c33; simp only [ByteArray.size_append] at h; exact h))
        replace H := Option.bind_eq_some_iff.mp H
        obtain ⟨t151, A340, H⟩ := H
        replace H : (if (((⟨#[32]⟩ : ByteArray) ++ a0_1) ++ (⟨#[32]⟩ : ByteArray)).size + t151.size ≤ 9223372036854775807 then (if ((((⟨#[32]⟩ : ByteArray) ++ a0_1) ++ (⟨#[32]⟩ : ByteArray)) ++ t151).size + 1 ≤ 9223372036854775807 then (if (((((⟨#[32]⟩ : ByteArray) ++ a0_1) ++ (⟨#[32]⟩ : ByteArray)) ++ t151) ++ (⟨#[32]⟩ : ByteArray)).size + a0_3.size ≤ 9223372036854775807 then (some ((((((⟨#[32]⟩ : ByteArray) ++ a0_1) ++ (⟨#[32]⟩ : ByteArray)) ++ t151) ++ (⟨#[32]⟩ : ByteArray)) ++ a0_3)) else (none)) else (none)) else (none)) = some r := H
        have A34 := Aside0.mk A340
        clear A340
        by_cases c35 : (((⟨#[32]⟩ : ByteArray) ++ a0_1) ++ (⟨#[32]⟩ : ByteArray)).size + t151.size ≤ 9223372036854775807
        ·rw [if_pos c35] at H
         have c35b0 := eq_true c35
         have c35b1 : decide ((((⟨#[32]⟩ : ByteArray) ++ a0_1) ++ (⟨#[32]⟩ : ByteArray)).size + t151.size ≤ 9223372036854775807) = true := decide_eq_true c35
         try have c35b2 : (9223372036854775807 < (((⟨#[32]⟩ : ByteArray) ++ a0_1) ++ (⟨#[32]⟩ : ByteArray)).size + t151.size) = False := eq_false (Nat.not_lt.2 c35)
         have c35b3 : (9223372036854775807 < 1 + a0_1.size + 1 + t151.size) = False := eq_false (Nat.not_lt.2 (by have h := c35; simp only [ByteArray.size_append] at h; exact h))
         by_cases c36 : ((((⟨#[32]⟩ : ByteArray) ++ a0_1) ++ (⟨#[32]⟩ : ByteArray)) ++ t151).size + 1 ≤ 9223372036854775807
         ·rw [if_pos c36] at H
          have c36b0 := eq_true c36
          have c36b1 : decide (((((⟨#[32]⟩ : ByteArray) ++ a0_1) ++ (⟨#[32]⟩ : ByteArray)) ++ t151).size + 1 ≤ 9223372036854775807) = true := decide_eq_true c36
          try have c36b2 : (9223372036854775807 < ((((⟨#[32]⟩ : ByteArray) ++ a0_1) ++ (⟨#[32]⟩ : ByteArray)) ++ t151).size + 1) = False := eq_false (Nat.not_lt.2 c36)
          have c36b3 : (9223372036854775807 < 1 + a0_1.size + 1 + t151.size + 1) = False := eq_false (Nat.not_lt.2 (by have h := c36; simp only [ByteArray.size_append] at h; exact h))
          by_cases c37 : (((((⟨#[32]⟩ : ByteArray) ++ a0_1) ++ (⟨#[32]⟩ : ByteArray)) ++ t151) ++ (⟨#[32]⟩ : ByteArray)).size + a0_3.size ≤ 9223372036854775807
          ·rw [if_pos c37] at H
           have c37b0 := eq_true c37
           have c37b1 : decide ((((((⟨#[32]⟩ : ByteArray) ++ a0_1) ++ (⟨#[32]⟩ : ByteArray)) ++ t151) ++ (⟨#[32]⟩ : ByteArray)).size + a0_3.size ≤ 9223372036854775807) = true := decide_eq_true c37
           try have c37b2 : (9223372036854775807 < (((((⟨#[32]⟩ : ByteArray) ++ a0_1) ++ (⟨#[32]⟩ : ByteArray)) ++ t151) ++ (⟨#[32]⟩ : ByteArray)).size + a0_3.size) = False := eq_false (Nat.not_lt.2 c37)
           have c37b3 : (9223372036854775807 < 1 + a0_1.size + 1 + t151.size + 1 + a0_3.size) = False := eq_false (Nat.not_lt.2 (by have h := c37; simp only [ByteArray.size_append] at h; exact h))
           obtain rfl := Option.some.inj H
           go_enter Tryd.func26, Tryd.ntmps26
           try go_wp2_with (first | ((with_reducible refine gate_dst (N := 1) rfl ?_); refine box_event ?hg (N := 1) ?hd (cs := #[.int .u8 a0_0, .string a0_1, .int .i64 a0_2, .string a0_3, .int .u8 a0_4, .slice A0_5 l0_5.length c0_5]) (t := 43) ?hr ?_; (case hd => rfl); (case hg => rfl); (case hr => first | (go_simp; done) | (go_simp; rfl)); intro gb145 hg w38 hbox hb; have n0_ := Aside0.mk (below_step (by repeat (first | (with_reducible first | exact HB.out | apply below_alloc | apply pw_below_drewN | apply below_drew1) | exact HB.out)) hb); have n1_ := Aside0.mk (hbox); have n2_ := Aside0.mk ((by rw [hg]; exact (below_size (by repeat (first | (with_reducible first | exact HB.out | apply below_alloc | apply pw_below_drewN | apply below_drew1) | exact HB.out))) : w.heap.size ≤ gb145)); have n3_ := Aside0.mk ((by rw [hg]; exact (below_size (by repeat (first | (with_reducible first | exact HB.out | apply below_alloc | apply pw_below_drewN | apply below_drew1) | exact HB.out))) : w.heap.size ≤ gb145)); clear HB; have HB := n0_; have BK145 := n1_; have GW145 := n2_; have GE145 := n3_; clear n0_ n1_ n2_ n3_; clear hb hbox hg; have hcz39_0 : w38.cell? ⟨gb145, 0, none⟩ = some (.int .u8 a0_0) := (blk_cell BK145.out 0).trans rfl; have hcz39_1 : w38.cell? ⟨gb145, 1, none⟩ = some (.string a0_1) := (blk_cell BK145.out 1).trans rfl; have hcz39_2 : w38.cell? ⟨gb145, 2, none⟩ = some (.int .i64 a0_2) := (blk_cell BK145.out 2).trans rfl; have hcz39_3 : w38.cell? ⟨gb145, 3, none⟩ = some (.string a0_3) := (blk_cell BK145.out 3).trans rfl; have hcz39_4 : w38.cell? ⟨gb145, 4, none⟩ = some (.int .u8 a0_4) := (blk_cell BK145.out 4).trans rfl; have hcz39_5 : w38.cell? ⟨gb145, 5, none⟩ = some (.slice A0_5 l0_5.length c0_5) := (blk_cell BK145.out 5).trans rfl; have hfz39_0 := blk_frozen BK145.out 0; have hfz39_1 := blk_frozen BK145.out 1; have hfz39_2 := blk_frozen BK145.out 2; have hfz39_3 := blk_frozen BK145.out 3; have hfz39_4 := blk_frozen BK145.out 4; have hfz39_5 := blk_frozen BK145.out 5))
           have n0_ := Aside0.mk (blk_drew BK145.out)
           have n1_ := Aside0.mk (below_drew1 HB.out)
           clear BK145
           clear HB
           have BK145 := n0_
           have HB := n1_
           clear n0_ n1_
           refine start_ (n := 13) (S := fun w' => w'.cell? ⟨gb145, 0, none⟩ = some (.int .u8 a0_0) ∧ w'.cell? ⟨gb145, 1, none⟩ = some (.string a0_1) ∧ w'.cell? ⟨gb145, 2, none⟩ = some (.int .i64 a0_2) ∧ w'.cell? ⟨gb145, 3, none⟩ = some (.string a0_3) ∧ w'.cell? ⟨gb145, 4, none⟩ = some (.int .u8 a0_4) ∧ w'.cell? ⟨gb145, 5, none⟩ = some (.slice A0_5 l0_5.length c0_5)) (ds := []) #[false, false, false, false, false, false, false, false, false, false, false, false, false] (by kernel_rfl) rfl rfl ⟨(blk_cell BK145.out 0).trans rfl, (blk_cell BK145.out 1).trans rfl, (blk_cell BK145.out 2).trans rfl, (blk_cell BK145.out 3).trans rfl, (blk_cell BK145.out 4).trans rfl, (blk_cell BK145.out 5).trans rfl⟩ (fun hHeld => ?_); refine with_tabW source_line.tab17 source_line.bits17 (fun HT_ HW_ => ?_)
           generalize w38.drew = w40 at BK145 HB hHeld ⊢
           refine pure_ (i := 0) (N := some 46) (v := ?_) (a' := ?_) #[true, false, false, false, false, false, false, false, false, false, false, false, false] rfl rfl (any_of HT_.out (by kernel_rfl)) (fun _ _ _ h => h) (Or.inl ⟨by rfl, ?_⟩) ?_ ?_
           rotate_left
           ·intro w'
            go_simp
            with_reducible rfl
           rotate_left
           ·simp only [Act.put, List.setIfInBounds_toArray, List.set_cons_zero, List.set_cons_succ, i64_w, i32_w]
            rfl
           refine pure_ (i := 4) (N := some 50) (v := ?_) (a' := ?_) #[true, false, false, false, true, false, false, false, false, false, false, false, false] rfl rfl (any_of HT_.out (by kernel_rfl)) (fun _ _ _ h => h) (Or.inl ⟨by rfl, ?_⟩) ?_ ?_
           rotate_left
           ·intro w'
            go_simp
            with_reducible rfl
           rotate_left
           ·simp only [Act.put, List.setIfInBounds_toArray, List.set_cons_zero, List.set_cons_succ, i64_w, i32_w]
            rfl
           refine pure_ (i := 9) (N := some 55) (v := ?_) (a' := ?_) #[true, false, false, false, true, false, false, false, false, true, false, false, false] rfl rfl (any_of HT_.out (by kernel_rfl)) (fun _ _ _ h => h) (Or.inl ⟨by rfl, ?_⟩) ?_ ?_
           rotate_left
           ·intro w'
            go_simp
            with_reducible rfl
           rotate_left
           ·simp only [Act.put, List.setIfInBounds_toArray, List.set_cons_zero, List.set_cons_succ, i64_w, i32_w]
            rfl
           refine take_ (i := 1) (N := some 47) (v := ?_) (a' := ?_) #[true, true, false, false, true, false, false, false, false, true, false, false, false] rfl rfl (take_ofW HT_.out HW_.out (by kernel_rfl)) (fun _ _ _ h => h) (Or.inl ⟨by rfl, ?_⟩) hHeld ?_ ?_
           rotate_left
           ·rintro w' ⟨s0, s1, s2, s3, s4, s5⟩
            go_simp
            with_reducible rfl
           rotate_left
           ·simp only [Act.put, List.setIfInBounds_toArray, List.set_cons_zero, List.set_cons_succ, i64_w, i32_w]
            rfl
           refine pure_ (i := 2) (N := some 48) (v := ?_) (a' := ?_) #[true, true, true, false, true, false, false, false, false, true, false, false, false] rfl rfl (any_of HT_.out (by kernel_rfl)) (fun _ _ _ h => h) (Or.inl ⟨by rfl, ?_⟩) ?_ ?_
           rotate_left
           ·intro w'
            go_simp
            with_reducible rfl
           rotate_left
           ·simp only [Act.put, List.setIfInBounds_toArray, List.set_cons_zero, List.set_cons_succ, i64_w, i32_w]
            rfl
           refine pure_ (i := 3) (N := some 49) (v := ?_) (a' := ?_) #[true, true, true, true, true, false, false, false, false, true, false, false, false] rfl rfl (any_of HT_.out (by kernel_rfl)) (fun _ _ _ h => h) (Or.inl ⟨by rfl, ?_⟩) ?_ ?_
           rotate_left
           ·intro w'
            go_simp
            with_reducible rfl
           rotate_left
           ·simp only [Act.put, List.setIfInBounds_toArray, List.set_cons_zero, List.set_cons_succ, i64_w, i32_w]
            rfl
           refine take_ (i := 5) (N := some 51) (v := ?_) (a' := ?_) #[true, true, true, true, true, true, false, false, false, true, false, false, false] rfl rfl (take_ofW HT_.out HW_.out (by kernel_rfl)) (fun _ _ _ h => h) (Or.inl ⟨by rfl, ?_⟩) hHeld ?_ ?_
           rotate_left
           ·rintro w' ⟨s0, s1, s2, s3, s4, s5⟩
            go_simp
            with_reducible rfl
           rotate_left
           ·simp only [Act.put, List.setIfInBounds_toArray, List.set_cons_zero, List.set_cons_succ, i64_w, i32_w]
            rfl
           refine take_ (i := 10) (N := some 56) (v := ?_) (a' := ?_) #[true, true, true, true, true, true, false, false, false, true, true, false, false] rfl rfl (take_ofW HT_.out HW_.out (by kernel_rfl)) (fun _ _ _ h => h) (Or.inl ⟨by rfl, ?_⟩) hHeld ?_ ?_
           rotate_left
           ·rintro w' ⟨s0, s1, s2, s3, s4, s5⟩
            go_simp
            with_reducible rfl
           rotate_left
           ·simp only [Act.put, List.setIfInBounds_toArray, List.set_cons_zero, List.set_cons_succ, i64_w, i32_w]
            rfl
           refine one_ (i := 6) (N := some 52) #[true, true, true, true, true, true, true, false, false, true, true, false, false] rfl rfl (one_of HT_.out (by kernel_rfl)) (by decide) (fun K hK => ?_)
           refine goes_ Tryd.func42 (by kernel_rfl) rfl #[.int .u8 a0_4] (by rfl) rfl rfl (by (try simp only [List.map_toArray, List.map_cons, List.map_nil]); first | done | rfl | (simp only [List.length_drop, List.length_take]; rfl)) ?_
           with_reducible refine (source_parts.calls a0_4 t151 _ A34.out).mono ?_
           rintro e w41 ⟨rfl, hb⟩
           refine ⟨_, rfl, ?_⟩
           have n0_ := Aside0.mk (blk_below (g := gb145) (o := .cells #[.int .u8 a0_0, .string a0_1, .int .i64 a0_2, .string a0_3, .int .u8 a0_4, .slice A0_5 l0_5.length c0_5] 43 (0, 0)) (by (with_reducible repeat (first | refine blk_drewN ?_ _ | refine blk_drew ?_ | refine blk_alloc ?_ _)); exact BK145.out) hb)
           have n1_ := Aside0.mk (below_step (by repeat (first | (with_reducible first | exact HB.out | apply below_alloc | apply pw_below_drewN | apply below_drew1 | refine below_set ?_ GE145.out) | exact HB.out)) hb)
           clear BK145
           clear HB
           have BK145 := n0_
           have HB := n1_
           clear n0_ n1_
           (try clear hb)
           (try clear hb2)
           (try clear hk)
           (try clear hi)
           refine hK.out _ _ ⟨(blk_cell BK145.out 0).trans rfl, (blk_cell BK145.out 1).trans rfl, (blk_cell BK145.out 2).trans rfl, (blk_cell BK145.out 3).trans rfl, (blk_cell BK145.out 4).trans rfl, (blk_cell BK145.out 5).trans rfl⟩ (fun hHeld => ?_)
           clear hK K
           refine norm_ (a' := ?_) ?_ ?_
           rotate_left
           ·show Act.put _ (some 52) _ = _
            simp only [Act.put, List.setIfInBounds_toArray, List.set_cons_zero, List.set_cons_succ, i64_w, i32_w]
            rfl
           refine pure_ (i := 7) (N := some 53) (v := ?_) (a' := ?_) #[true, true, true, true, true, true, true, true, false, true, true, false, false] rfl rfl (any_of HT_.out (by kernel_rfl)) (fun _ _ _ h => h) (Or.inl ⟨by rfl, ?_⟩) ?_ ?_
           rotate_left
           ·intro w'
            go_simp
            with_reducible rfl
           rotate_left
           ·simp only [Act.put, List.setIfInBounds_toArray, List.set_cons_zero, List.set_cons_succ, i64_w, i32_w]
            rfl
           refine pure_ (i := 8) (N := some 54) (v := ?_) (a' := ?_) #[true, true, true, true, true, true, true, true, true, true, true, false, false] rfl rfl (any_of HT_.out (by kernel_rfl)) (fun _ _ _ h => h) (Or.inl ⟨by rfl, ?_⟩) ?_ ?_
           rotate_left
           ·intro w'
            go_simp
            with_reducible rfl
           rotate_left
           ·simp only [Act.put, List.setIfInBounds_toArray, List.set_cons_zero, List.set_cons_succ, i64_w, i32_w]
            rfl
           refine pure_ (i := 11) (N := some 57) (v := ?_) (a' := ?_) #[true, true, true, true, true, true, true, true, true, true, true, true, false] rfl rfl (any_of HT_.out (by kernel_rfl)) (fun _ _ _ h => h) (Or.inl ⟨by rfl, ?_⟩) ?_ ?_
           rotate_left
           ·intro w'
            go_simp
            with_reducible rfl
           rotate_left
           ·simp only [Act.put, List.setIfInBounds_toArray, List.set_cons_zero, List.set_cons_succ, i64_w, i32_w]
            rfl
           refine pure_ (i := 12) (N := some 2) (v := ?_) (a' := ?_) #[true, true, true, true, true, true, true, true, true, true, true, true, true] rfl rfl (any_of HT_.out (by kernel_rfl)) (fun _ _ _ h => h) (Or.inl ⟨by rfl, ?_⟩) ?_ ?_
           rotate_left
           ·intro w'
            go_simp
            with_reducible rfl
           rotate_left
           ·simp only [Act.put, List.setIfInBounds_toArray, List.set_cons_zero, List.set_cons_succ, i64_w, i32_w]
            rfl
           refine done_ (done_of HT_.out (by kernel_rfl)) ?_
           try go_wp2
           go_ret
           exact ⟨by first | rfl | (simp [errW_none, errW_some] <;> rfl) | (simp [*, errW_none, errW_some] <;> rfl), by repeat (first | (with_reducible first | exact HB.out | apply below_alloc | apply pw_below_drewN | apply below_drew1 | refine below_set ?_ GE145.out) | exact HB.out)⟩
          ·rw [if_neg c37] at H
           exact absurd H (by simp)
         ·rw [if_neg c36] at H
          exact absurd H (by simp)
        ·rw [if_neg c35] at H
         exact absurd H (by simp)
       ·rw [if_neg c33] at H
        exact absurd H (by simp)
      ·rw [if_neg c32] at H
       exact absurd H (by simp)

-- NOT PRINTED: function 27 (strings_Builder_Len)

-- NOT PRINTED: function 28 (strings_Builder_String)

-- given: source_Print (a text of this session's own)

-- NOT PRINTED: function 44 (stringslite_Cut)

-- given: strings_Cut (a text of this session's own)

-- NOT PRINTED: function 45 (strings_FieldsFunc)

-- given: source_words (a text of this session's own)

-- NOT PRINTED: function 48 (source_readers)

-- NOT PRINTED: function 91 (stringslite_HasSuffix)

-- NOT PRINTED: function 66 (stringslite_CutSuffix)

-- NOT PRINTED: function 49 (strings_CutSuffix)

-- NOT PRINTED: function 50 (source_must)

-- given: bits_Number (a text of this session's own)

-- NOT PRINTED: function 107 (stringslite_HasPrefix)

-- NOT PRINTED: function 102 (stringslite_TrimPrefix)

-- NOT PRINTED: function 92 (strings_TrimPrefix)

-- given: code_Parse (a text of this session's own)

-- NOT PRINTED: function 108 (bytealg_MakeNoZero)

-- NOT PRINTED: function 103 (strings_Builder_grow)

-- NOT PRINTED: function 93 (strings_Builder_Grow)

-- NOT PRINTED: function 68 (strings_Join)

-- NOT PRINTED: function 51 (source_ordered)

-- given: source_read (a text of this session's own)
end Go.Proofs.YtjedbamcjgabpaaDoor.PSo
