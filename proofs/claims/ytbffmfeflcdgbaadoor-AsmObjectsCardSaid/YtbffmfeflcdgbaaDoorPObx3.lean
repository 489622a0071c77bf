/- Written by a program of this session (gprint.py, over the kit's printer): functions of the seat YtbffmfeflcdgbaaDoor and their contracts. No condition but each contract's own. -/
import Derived.Test.YtbffmfeflcdgbaaDoorPObx0
namespace Go.Proofs.YtbffmfeflcdgbaaDoor.POb
open Go.RowKit Go.Proofs.YtbffmfeflcdgbaaDoorW.PrintWords Go.Proofs.YtbffmfeflcdgbaaDoorW.PrintLast Go.Proofs.YtbffmfeflcdgbaaDoorW.PrintMore
attribute [local go_sem] max2_int min2_int max_two min_two max_three min_three max_four min_four   -- for this text's walks alone
set_option linter.unusedVariables false
set_option linter.unusedSimpArgs false

/-! ### vesperlaw14_large: function 4 -/
def vesperlaw14_large.l0 : Nat → Int → Int → List (S42) → List (S52) → List (S47) → Option (Bool)
 | 0, _, _, _, _, _ => none
 | k + 1, x3, x4, x102000, x102001, x102002 => if x4 < (x102000.length : Int) then (if x3 ≤ 2147483647 then (if 0 ≤ x4 then (vesperlaw14_large.l0 k (wrap64 (x3 + (((rd_T42 x102000 x4).f1).length : Int))) (wrap64 (x4 + 1)) x102000 x102001 x102002) else (none)) else (some (decide (x3 > 2147483647)))) else (some (decide (x3 > 2147483647)))
def vesperlaw14_large.f (k : Nat) (l0_0 : List (S42)) (l0_1 : List (S52)) (l0_2 : List (S47)) : Option (Bool) := vesperlaw14_large.l0 k (wrap64 ((wrap64 ((l0_0.length : Int) + (l0_1.length : Int))) + (l0_2.length : Int))) 0 l0_0 l0_1 l0_2
theorem vesperlaw14_large.mono_l : ∀ k, (∀ y0 y1 y2 y3 y4, LeO (vesperlaw14_large.l0 k y0 y1 y2 y3 y4) (vesperlaw14_large.l0 (k + 1) y0 y1 y2 y3 y4))
 | 0 => fun _ _ _ _ _ r h => by simp [vesperlaw14_large.l0] at h
 | k + 1 => by
  have ih0 := vesperlaw14_large.mono_l k
  intro y0 y1 y2 y3 y4
  unfold vesperlaw14_large.l0
  repeat' first
  | (with_reducible exact ih0 _ _ _ _ _)
  | (with_reducible exact LeO.refl _)
  | (with_reducible exact LeO.none _)
  | (with_reducible refine LeO.ite ?_ ?_)
  | (with_reducible refine LeO.bind ?_ (fun _ => ?_))
  | exact ih0 _ _ _ _ _
  | exact LeO.none _
  | refine LeO.ite ?_ ?_
  | refine LeO.bind ?_ (fun _ => ?_)
theorem vesperlaw14_large.mono : ∀ a0 a1 a2 k, LeO (vesperlaw14_large.f k a0 a1 a2) (vesperlaw14_large.f (k + 1) a0 a1 a2) := by
 intro a0 a1 a2 k
 have ih0 := vesperlaw14_large.mono_l k
 unfold vesperlaw14_large.f
 repeat' first
  | (with_reducible exact ih0 _ _ _ _ _)
  | (with_reducible exact LeO.refl _)
  | (with_reducible exact LeO.none _)
  | (with_reducible refine LeO.ite ?_ ?_)
  | (with_reducible refine LeO.bind ?_ (fun _ => ?_))
  | exact ih0 _ _ _ _ _
  | exact LeO.none _
  | refine LeO.ite ?_ ?_
  | refine LeO.bind ?_ (fun _ => ?_)
set_option maxHeartbeats 8000000 in
set_option maxRecDepth 100000 in
theorem vesperlaw14_large.calls (k : Nat) (A0_0 : Option Addr) (c0_0 : Nat) (l0_0 : List (S42)) (A0_1 : Option Addr) (c0_1 : Nat) (l0_1 : List (S52)) (A0_2 : Option Addr) (c0_2 : Nat) (l0_2 : List (S47)) (r : Bool) (w : World) (hr0_0 : Kd.C k42 w A0_0 l0_0.length l0_0) (hc0_0 : l0_0.length ≤ c0_0) (hr0_1 : Kd.C k52 w A0_1 l0_1.length l0_1) (hc0_1 : l0_1.length ≤ c0_1) (hr0_2 : Kd.C k47 w A0_2 l0_2.length l0_2) (hc0_2 : l0_2.length ≤ c0_2) (h : vesperlaw14_large.f k l0_0 l0_1 l0_2 = some r) :
 Calls Tryd.prog 4 #[.agg #[.slice A0_0 l0_0.length c0_0, .slice A0_1 l0_1.length c0_1, .slice A0_2 l0_2.length c0_2]] w fun e w' => e = .returned (.bool r) ∧ Below w.heap.size w w' := by
 have hu26 := Tryd.underlying26
 have HR0_0 := Aside0.mk hr0_0
 have HC0_0 := Aside0.mk hc0_0
 clear hr0_0 hc0_0
 have HR0_1 := Aside0.mk hr0_1
 have HC0_1 := Aside0.mk hc0_1
 clear hr0_1 hc0_1
 have HR0_2 := Aside0.mk hr0_2
 have HC0_2 := Aside0.mk hc0_2
 clear hr0_2 hc0_2
 have HB := Aside0.mk (Below.refl w.heap.size w)
 have H : (vesperlaw14_large.l0 k (wrap64 ((wrap64 ((l0_0.length : Int) + (l0_1.length : Int))) + (l0_2.length : Int))) 0 l0_0 l0_1 l0_2) = some r := h
 clear h
 have H' := Aside0.mk H
 clear H
 go_enter Tryd.func4, Tryd.ntmps4
 go_wp2_with (first | ((with_reducible refine gate_dst (N := 1) rfl ?_); refine box_event ?hg (N := 1) ?hd (cs := #[.slice A0_0 l0_0.length c0_0, .slice A0_1 l0_1.length c0_1, .slice A0_2 l0_2.length c0_2]) (t := 26) ?hr ?_; (case hd => rfl); (case hg => rfl); (case hr => first | (go_simp; done) | (go_simp; rfl)); intro gb101 hg w2 hbox hb; have n0_ := Aside0.mk (below_step bw hb); have n1_ := Aside0.mk (hbox); have n2_ := Aside0.mk (bz hg : w.heap.size ≤ gb101); have n3_ := Aside0.mk (bz hg : w.heap.size ≤ gb101); clear HB; have HB := n0_; have BK101 := n1_; have GW101 := n2_; have GE101 := n3_; clear n0_ n1_ n2_ n3_; clear hb hbox hg; have hcz3_0 : w2.cell? ⟨gb101, 0, none⟩ = some (.slice A0_0 l0_0.length c0_0) := (blk_cell BK101.out 0).trans rfl; have hcz3_1 : w2.cell? ⟨gb101, 1, none⟩ = some (.slice A0_1 l0_1.length c0_1) := (blk_cell BK101.out 1).trans rfl; have hcz3_2 : w2.cell? ⟨gb101, 2, none⟩ = some (.slice A0_2 l0_2.length c0_2) := (blk_cell BK101.out 2).trans rfl; have hfz3_0 := blk_frozen BK101.out 0; have hfz3_1 := blk_frozen BK101.out 1; have hfz3_2 := blk_frozen BK101.out 2))
 go_loopg [3, 4] k (fun kq v3 v4 w' => ∃ (x3_1 : Int) (x4_1 : Int), v3 = .int .i64 x3_1 ∧ v4 = .int .i64 x4_1 ∧ Aside0 (vesperlaw14_large.l0 kq x3_1 x4_1 l0_0 l0_1 l0_2 = some r) ∧ Aside0 (kq ≤ k) ∧ Aside0 (w'.heap[gb101]? = some (.cells #[(.slice A0_0 l0_0.length c0_0), (.slice A0_1 l0_1.length c0_1), (.slice A0_2 l0_2.length c0_2)] 26 (0, 0))) ∧ Aside0 (Below w.heap.size w w'))
 case atStart => exact ⟨(wrap64 ((wrap64 ((l0_0.length : Int) + (l0_1.length : Int))) + (l0_2.length : Int))), (0), rs, rs, H', ⟨Nat.le_refl _⟩, ⟨by (with_reducible repeat (first | refine blk_drewN ?_ _ | refine blk_drew ?_ | refine blk_alloc ?_ _)); exact BK101.out⟩, ⟨bw⟩⟩
 case round =>
  clear H'
  clear hcz3_0 hcz3_1 hcz3_2 hfz3_0 hfz3_1 hfz3_2
  obtain ⟨x3_1, x4_1, rfl, rfl, HA, HK1, BK101, HB⟩ := hrel
  cases gk with
  | zero => exact absurd HA.out (by simp [vesperlaw14_large.l0])
  | succ k1 =>
   have H := HA.out
   clear HA
   simp only [vesperlaw14_large.l0] at H
   by_cases c4 : x4_1 < (l0_0.length : Int)
   ·rw [if_pos c4] at H
    have c4b0 : decide (x4_1 < (l0_0.length : Int)) = true := decide_eq_true c4
    clear c4
    by_cases c5 : x3_1 ≤ 2147483647
    ·rw [if_pos c5] at H
     have c5b0 : decide (x3_1 ≤ 2147483647) = true := decide_eq_true c5
     clear c5
     by_cases c6 : 0 ≤ x4_1
     ·rw [if_pos c6] at H
      have c6b0 : decide (0 ≤ x4_1) = true := decide_eq_true c6
      clear c6
      have H' := Aside0.mk H
      clear H
      have hcz7_0 : wr.cell? ⟨gb101, 0, none⟩ = some (.slice A0_0 l0_0.length c0_0) := (blk_cell BK101.out 0).trans rfl
      have hcz7_1 : wr.cell? ⟨gb101, 1, none⟩ = some (.slice A0_1 l0_1.length c0_1) := (blk_cell BK101.out 1).trans rfl
      have hcz7_2 : wr.cell? ⟨gb101, 2, none⟩ = some (.slice A0_2 l0_2.length c0_2) := (blk_cell BK101.out 2).trans rfl
      have hfz7_0 := blk_frozen BK101.out 0
      have hfz7_1 := blk_frozen BK101.out 1
      have hfz7_2 := blk_frozen BK101.out 2
      have p102 : 0 ≤ (x4_1 : Int) := oda
      have q102 : x4_1 < (l0_0.length : Int) := oda
      obtain ⟨ad102, A102_1, c102_1, e102, hx102_0, hx102_1, hl102_1, hi102_1⟩ := at_T42 HR0_0.out x4_1 p102 q102
      cases e102
      replace hx102_0 := up_ HB hx102_0
      replace hx102_1 := up_ HB hx102_1
      have HR102_1 := Aside0.mk hi102_1
      have HC102_1 := Aside0.mk hl102_1
      clear hi102_1 hl102_1
      replace p102 := eq_true p102
      replace q102 := eq_true q102
      go_wp2
      go_roundg k1
      case measure => have := HK1.out; omega
      case rel => exact ⟨(wrap64 (x3_1 + (((rd_T42 l0_0 x4_1).f1).length : Int))), (wrap64 (x4_1 + 1)), rs, rs, H', ⟨by have := HK1.out; omega⟩, ⟨by (with_reducible repeat (first | refine blk_drewN ?_ _ | refine blk_drew ?_ | refine blk_alloc ?_ _)); exact BK101.out⟩, ⟨bw⟩⟩
     rw [if_neg c6] at H
     exact absurd H (by simp)
    rw [if_neg c5] at H
    have c5b0 : decide (x3_1 ≤ 2147483647) = false := decide_eq_false c5
    clear c5
    obtain rfl := Option.some.inj H
    have hcz8_0 : wr.cell? ⟨gb101, 0, none⟩ = some (.slice A0_0 l0_0.length c0_0) := (blk_cell BK101.out 0).trans rfl
    have hcz8_1 : wr.cell? ⟨gb101, 1, none⟩ = some (.slice A0_1 l0_1.length c0_1) := (blk_cell BK101.out 1).trans rfl
    have hcz8_2 : wr.cell? ⟨gb101, 2, none⟩ = some (.slice A0_2 l0_2.length c0_2) := (blk_cell BK101.out 2).trans rfl
    have hfz8_0 := blk_frozen BK101.out 0
    have hfz8_1 := blk_frozen BK101.out 1
    have hfz8_2 := blk_frozen BK101.out 2
    go_wp2
    go_ret
    exact ⟨ew, bw⟩
   rw [if_neg c4] at H
   have c4b0 : decide (x4_1 < (l0_0.length : Int)) = false := decide_eq_false c4
   clear c4
   obtain rfl := Option.some.inj H
   have hcz9_0 : wr.cell? ⟨gb101, 0, none⟩ = some (.slice A0_0 l0_0.length c0_0) := (blk_cell BK101.out 0).trans rfl
   have hcz9_1 : wr.cell? ⟨gb101, 1, none⟩ = some (.slice A0_1 l0_1.length c0_1) := (blk_cell BK101.out 1).trans rfl
   have hcz9_2 : wr.cell? ⟨gb101, 2, none⟩ = some (.slice A0_2 l0_2.length c0_2) := (blk_cell BK101.out 2).trans rfl
   have hfz9_0 := blk_frozen BK101.out 0
   have hfz9_1 := blk_frozen BK101.out 1
   have hfz9_2 := blk_frozen BK101.out 2
   go_wp2
   go_ret
   exact ⟨ew, bw⟩

-- NOT PRINTED: function 15 (vesperlaw14_room)

-- NOT PRINTED: function 5 (vesperlaw14_object)

/-! ### code_immediate: function 52 -/
def code_immediate.f (a0 : Int) : Option (Bool) := if (a0 / 16) = 7 then (if (Go.bits .and .u8 a0 15) ≥ 12 then (if (Go.bits .and .u8 a0 15) = 14 then (if (a0 / 16) = 15 then (if (Go.bits .and .u8 a0 15) ≥ 8 then (some ((Go.bits .and .u8 a0 15) != 14)) else (some false)) else (some false)) else (some true)) else (if (a0 / 16) = 15 then (if (Go.bits .and .u8 a0 15) ≥ 8 then (some ((Go.bits .and .u8 a0 15) != 14)) else (some false)) else (some false))) else (if (a0 / 16) = 15 then (if (Go.bits .and .u8 a0 15) ≥ 8 then (some ((Go.bits .and .u8 a0 15) != 14)) else (some false)) else (some false))
set_option maxHeartbeats 8000000 in
set_option maxRecDepth 100000 in
theorem code_immediate.calls (a0 : Int) (r : Bool) (w : World) (h : code_immediate.f a0 = some r) :
 Calls Tryd.prog 52 #[.int .u8 a0] w fun e w' => e = .returned (.bool r) ∧ Drawn0 w w' := by
 have H : (if (a0 / 16) = 7 then (if (Go.bits .and .u8 a0 15) ≥ 12 then (if (Go.bits .and .u8 a0 15) = 14 then (if (a0 / 16) = 15 then (if (Go.bits .and .u8 a0 15) ≥ 8 then (some ((Go.bits .and .u8 a0 15) != 14)) else (some false)) else (some false)) else (some true)) else (if (a0 / 16) = 15 then (if (Go.bits .and .u8 a0 15) ≥ 8 then (some ((Go.bits .and .u8 a0 15) != 14)) else (some false)) else (some false))) else (if (a0 / 16) = 15 then (if (Go.bits .and .u8 a0 15) ≥ 8 then (some ((Go.bits .and .u8 a0 15) != 14)) else (some false)) else (some false))) = some r := h
 clear h
 by_cases c2 : (a0 / 16) = 7
 ·rw [if_pos c2] at H
  have c2b0 : ((a0 / 16) == 7) = true := beq_iff_eq.mpr c2
  have c2b1 : ((a0 / 16) != 7) = false := bne_eq_false_iff_eq.mpr c2
  clear c2
  by_cases c3 : (Go.bits .and .u8 a0 15) ≥ 12
  ·rw [if_pos c3] at H
   have c3b0 : decide (12 ≤ (Go.bits .and .u8 a0 15)) = true := decide_eq_true c3
   clear c3
   by_cases c4 : (Go.bits .and .u8 a0 15) = 14
   ·rw [if_pos c4] at H
    have c4b0 : ((Go.bits .and .u8 a0 15) == 14) = true := beq_iff_eq.mpr c4
    have c4b1 : ((Go.bits .and .u8 a0 15) != 14) = false := bne_eq_false_iff_eq.mpr c4
    clear c4
    by_cases c5 : (a0 / 16) = 15
    ·rw [if_pos c5] at H
     have c5b0 : ((a0 / 16) == 15) = true := beq_iff_eq.mpr c5
     have c5b1 : ((a0 / 16) != 15) = false := bne_eq_false_iff_eq.mpr c5
     clear c5
     by_cases c6 : (Go.bits .and .u8 a0 15) ≥ 8
     ·rw [if_pos c6] at H
      have c6b0 : decide (8 ≤ (Go.bits .and .u8 a0 15)) = true := decide_eq_true c6
      clear c6
      obtain rfl := Option.some.inj H
      go_enter Tryd.func52, Tryd.ntmps52
      go_wp2
      go_ret
      exact ⟨by first | rfl | (simp; done) | (simp [*]; done), by repeat (first | exact Drawn0.refl _ | apply Drawn0.step)⟩
     rw [if_neg c6] at H
     have c6b0 : decide (8 ≤ (Go.bits .and .u8 a0 15)) = false := decide_eq_false c6
     clear c6
     obtain rfl := Option.some.inj H
     go_enter Tryd.func52, Tryd.ntmps52
     go_wp2
     go_ret
     exact ⟨by first | rfl | (simp; done) | (simp [*]; done), by repeat (first | exact Drawn0.refl _ | apply Drawn0.step)⟩
    rw [if_neg c5] at H
    have c5b0 : ((a0 / 16) == 15) = false := beq_eq_false_iff_ne.mpr c5
    have c5b1 : ((a0 / 16) != 15) = true := bne_iff_ne.mpr c5
    obtain rfl := Option.some.inj H
    go_enter Tryd.func52, Tryd.ntmps52
    go_wp2
    go_ret
    exact ⟨by first | rfl | (simp; done) | (simp [*]; done), by repeat (first | exact Drawn0.refl _ | apply Drawn0.step)⟩
   rw [if_neg c4] at H
   have c4b0 : ((Go.bits .and .u8 a0 15) == 14) = false := beq_eq_false_iff_ne.mpr c4
   have c4b1 : ((Go.bits .and .u8 a0 15) != 14) = true := bne_iff_ne.mpr c4
   obtain rfl := Option.some.inj H
   go_enter Tryd.func52, Tryd.ntmps52
   go_wp2
   go_ret
   exact ⟨by first | rfl | (simp; done) | (simp [*]; done), by repeat (first | exact Drawn0.refl _ | apply Drawn0.step)⟩
  rw [if_neg c3] at H
  have c3b0 : decide (12 ≤ (Go.bits .and .u8 a0 15)) = false := decide_eq_false c3
  clear c3
  by_cases c7 : (a0 / 16) = 15
  ·rw [if_pos c7] at H
   have c7b0 : ((a0 / 16) == 15) = true := beq_iff_eq.mpr c7
   have c7b1 : ((a0 / 16) != 15) = false := bne_eq_false_iff_eq.mpr c7
   clear c7
   by_cases c8 : (Go.bits .and .u8 a0 15) ≥ 8
   ·rw [if_pos c8] at H
    have c8b0 : decide (8 ≤ (Go.bits .and .u8 a0 15)) = true := decide_eq_true c8
    clear c8
    obtain rfl := Option.some.inj H
    go_enter Tryd.func52, Tryd.ntmps52
    go_wp2
    go_ret
    exact ⟨by first | rfl | (simp; done) | (simp [*]; done), by repeat (first | exact Drawn0.refl _ | apply Drawn0.step)⟩
   rw [if_neg c8] at H
   have c8b0 : decide (8 ≤ (Go.bits .and .u8 a0 15)) = false := decide_eq_false c8
   clear c8
   obtain rfl := Option.some.inj H
   go_enter Tryd.func52, Tryd.ntmps52
   go_wp2
   go_ret
   exact ⟨by first | rfl | (simp; done) | (simp [*]; done), by repeat (first | exact Drawn0.refl _ | apply Drawn0.step)⟩
  rw [if_neg c7] at H
  have c7b0 : ((a0 / 16) == 15) = false := beq_eq_false_iff_ne.mpr c7
  have c7b1 : ((a0 / 16) != 15) = true := bne_iff_ne.mpr c7
  obtain rfl := Option.some.inj H
  go_enter Tryd.func52, Tryd.ntmps52
  go_wp2
  go_ret
  exact ⟨by first | rfl | (simp; done) | (simp [*]; done), by repeat (first | exact Drawn0.refl _ | apply Drawn0.step)⟩
 rw [if_neg c2] at H
 have c2b0 : ((a0 / 16) == 7) = false := beq_eq_false_iff_ne.mpr c2
 have c2b1 : ((a0 / 16) != 7) = true := bne_iff_ne.mpr c2
 by_cases c9 : (a0 / 16) = 15
 ·rw [if_pos c9] at H
  have c9b0 : ((a0 / 16) == 15) = true := beq_iff_eq.mpr c9
  have c9b1 : ((a0 / 16) != 15) = false := bne_eq_false_iff_eq.mpr c9
  clear c9
  by_cases c10 : (Go.bits .and .u8 a0 15) ≥ 8
  ·rw [if_pos c10] at H
   have c10b0 : decide (8 ≤ (Go.bits .and .u8 a0 15)) = true := decide_eq_true c10
   clear c10
   obtain rfl := Option.some.inj H
   go_enter Tryd.func52, Tryd.ntmps52
   go_wp2
   go_ret
   exact ⟨by first | rfl | (simp; done) | (simp [*]; done), by repeat (first | exact Drawn0.refl _ | apply Drawn0.step)⟩
  rw [if_neg c10] at H
  have c10b0 : decide (8 ≤ (Go.bits .and .u8 a0 15)) = false := decide_eq_false c10
  clear c10
  obtain rfl := Option.some.inj H
  go_enter Tryd.func52, Tryd.ntmps52
  go_wp2
  go_ret
  exact ⟨by first | rfl | (simp; done) | (simp [*]; done), by repeat (first | exact Drawn0.refl _ | apply Drawn0.step)⟩
 rw [if_neg c9] at H
 have c9b0 : ((a0 / 16) == 15) = false := beq_eq_false_iff_ne.mpr c9
 have c9b1 : ((a0 / 16) != 15) = true := bne_iff_ne.mpr c9
 obtain rfl := Option.some.inj H
 go_enter Tryd.func52, Tryd.ntmps52
 go_wp2
 go_ret
 exact ⟨by first | rfl | (simp; done) | (simp [*]; done), by repeat (first | exact Drawn0.refl _ | apply Drawn0.step)⟩

/-! ### code_form: function 44 -/
mutual
def code_form.j0 : Nat → Int → Int → Int → Bool → Option (Int)
 | 0, _, _, _, _ => none
 | k + 1, x0, x3, x4, x12 => if x12 = true then (some 5) else (if x3 = 3 then (some 1) else (if x3 = 6 then (code_form.j1 k x0 x3 x4 ((Int.tmod x4 8) != 0)) else (code_form.j1 k x0 x3 x4 false)))
def code_form.j1 : Nat → Int → Int → Int → Bool → Option (Int)
 | 0, _, _, _, _ => none
 | k + 1, x0, x3, x4, x22 => if x22 = true then (some 3) else (if x3 = 6 then (some 1) else ((code_immediate.f x0).bind fun t108 => (if t108 = true then (some 4) else (if x3 = 7 then (code_form.j2 k x3 x4 (x3 == 7)) else (code_form.j2 k x3 x4 (x3 == 15))))))
def code_form.j2 : Nat → Int → Int → Bool → Option (Int)
 | 0, _, _, _ => none
 | k + 1, x3, x4, x36 => if x36 = true then (some 1) else (if x3 = 12 then (if x4 < 4 then (code_form.j3 k x3 true) else (if x4 > 8 then (code_form.j3 k x3 (decide (x4 < 12))) else (code_form.j3 k x3 false))) else (code_form.j3 k x3 false))
def code_form.j3 : Nat → Int → Bool → Option (Int)
 | 0, _, _ => none
 | k + 1, x3, x41 => if x41 = true then (some 6) else (if x3 = 12 then (some 1) else (some 2))
end
def code_form.f (k : Nat) (a0 : Int) : Option (Int) := if a0 = 0 then (some 1) else (if (a0 / 16) = 3 then (code_form.j0 k a0 (a0 / 16) (Go.bits .and .u8 a0 15) ((Go.bits .and .u8 a0 15) != 8)) else (code_form.j0 k a0 (a0 / 16) (Go.bits .and .u8 a0 15) false))
theorem code_form.mono_l : ∀ k, (∀ y0 y1 y2 y3, LeO (code_form.j0 k y0 y1 y2 y3) (code_form.j0 (k + 1) y0 y1 y2 y3)) ∧ (∀ y0 y1 y2 y3, LeO (code_form.j1 k y0 y1 y2 y3) (code_form.j1 (k + 1) y0 y1 y2 y3)) ∧ (∀ y0 y1 y2, LeO (code_form.j2 k y0 y1 y2) (code_form.j2 (k + 1) y0 y1 y2)) ∧ (∀ y0 y1, LeO (code_form.j3 k y0 y1) (code_form.j3 (k + 1) y0 y1))
 | 0 => ⟨fun _ _ _ _ r h => by simp [code_form.j0] at h, fun _ _ _ _ r h => by simp [code_form.j1] at h, fun _ _ _ r h => by simp [code_form.j2] at h, fun _ _ r h => by simp [code_form.j3] at h⟩
 | k + 1 => by
  obtain ⟨ih0, ih1, ih2, ih3⟩ := code_form.mono_l k
  refine ⟨?_, ?_, ?_, ?_⟩
  ·intro y0 y1 y2 y3
   unfold code_form.j0
   repeat' first
   | (with_reducible exact ih0 _ _ _ _)
   | (with_reducible exact ih1 _ _ _ _)
   | (with_reducible exact ih2 _ _ _)
   | (with_reducible exact ih3 _ _)
   | (with_reducible exact LeO.refl _)
   | (with_reducible exact LeO.none _)
   | (with_reducible refine LeO.ite ?_ ?_)
   | (with_reducible refine LeO.bind ?_ (fun _ => ?_))
   | exact ih0 _ _ _ _
   | exact ih1 _ _ _ _
   | exact ih2 _ _ _
   | exact ih3 _ _
   | exact LeO.none _
   | refine LeO.ite ?_ ?_
   | refine LeO.bind ?_ (fun _ => ?_)
  ·intro y0 y1 y2 y3
   unfold code_form.j1
   repeat' first
   | (with_reducible exact ih0 _ _ _ _)
   | (with_reducible exact ih1 _ _ _ _)
   | (with_reducible exact ih2 _ _ _)
   | (with_reducible exact ih3 _ _)
   | (with_reducible exact LeO.refl _)
   | (with_reducible exact LeO.none _)
   | (with_reducible refine LeO.ite ?_ ?_)
   | (with_reducible refine LeO.bind ?_ (fun _ => ?_))
   | exact ih0 _ _ _ _
   | exact ih1 _ _ _ _
   | exact ih2 _ _ _
   | exact ih3 _ _
   | exact LeO.none _
   | refine LeO.ite ?_ ?_
   | refine LeO.bind ?_ (fun _ => ?_)
  ·intro y0 y1 y2
   unfold code_form.j2
   repeat' first
   | (with_reducible exact ih0 _ _ _ _)
   | (with_reducible exact ih1 _ _ _ _)
   | (with_reducible exact ih2 _ _ _)
   | (with_reducible exact ih3 _ _)
   | (with_reducible exact LeO.refl _)
   | (with_reducible exact LeO.none _)
   | (with_reducible refine LeO.ite ?_ ?_)
   | (with_reducible refine LeO.bind ?_ (fun _ => ?_))
   | exact ih0 _ _ _ _
   | exact ih1 _ _ _ _
   | exact ih2 _ _ _
   | exact ih3 _ _
   | exact LeO.none _
   | refine LeO.ite ?_ ?_
   | refine LeO.bind ?_ (fun _ => ?_)
  intro y0 y1
  unfold code_form.j3
  repeat' first
  | (with_reducible exact ih0 _ _ _ _)
  | (with_reducible exact ih1 _ _ _ _)
  | (with_reducible exact ih2 _ _ _)
  | (with_reducible exact ih3 _ _)
  | (with_reducible exact LeO.refl _)
  | (with_reducible exact LeO.none _)
  | (with_reducible refine LeO.ite ?_ ?_)
  | (with_reducible refine LeO.bind ?_ (fun _ => ?_))
  | exact ih0 _ _ _ _
  | exact ih1 _ _ _ _
  | exact ih2 _ _ _
  | exact ih3 _ _
  | exact LeO.none _
  | refine LeO.ite ?_ ?_
  | refine LeO.bind ?_ (fun _ => ?_)
theorem code_form.mono : ∀ a0 k, LeO (code_form.f k a0) (code_form.f (k + 1) a0) := by
 intro a0 k
 obtain ⟨ih0, ih1, ih2, ih3⟩ := code_form.mono_l k
 unfold code_form.f
 repeat' first
  | (with_reducible exact ih0 _ _ _ _)
  | (with_reducible exact ih1 _ _ _ _)
  | (with_reducible exact ih2 _ _ _)
  | (with_reducible exact ih3 _ _)
  | (with_reducible exact LeO.refl _)
  | (with_reducible exact LeO.none _)
  | (with_reducible refine LeO.ite ?_ ?_)
  | (with_reducible refine LeO.bind ?_ (fun _ => ?_))
  | exact ih0 _ _ _ _
  | exact ih1 _ _ _ _
  | exact ih2 _ _ _
  | exact ih3 _ _
  | exact LeO.none _
  | refine LeO.ite ?_ ?_
  | refine LeO.bind ?_ (fun _ => ?_)
set_option maxHeartbeats 8000000 in
set_option maxRecDepth 100000 in
theorem code_form.calls (k : Nat) (a0 : Int) (r : Int) (w : World) (h : code_form.f k a0 = some r) :
 Calls Tryd.prog 44 #[.int .u8 a0] w fun e w' => e = .returned (.int .u8 r) ∧ Drawn0 w w' := by
 have H : (if a0 = 0 then (some 1) else (if (a0 / 16) = 3 then (code_form.j0 k a0 (a0 / 16) (Go.bits .and .u8 a0 15) ((Go.bits .and .u8 a0 15) != 8)) else (code_form.j0 k a0 (a0 / 16) (Go.bits .and .u8 a0 15) false))) = some r := h
 clear h
 by_cases c2 : a0 = 0
 ·rw [if_pos c2] at H
  have c2b0 : (a0 == 0) = true := beq_iff_eq.mpr c2
  have c2b1 : (a0 != 0) = false := bne_eq_false_iff_eq.mpr c2
  clear c2
  obtain rfl := Option.some.inj H
  go_enter Tryd.func44, Tryd.ntmps44
  go_wp2
  go_ret
  exact ⟨by first | rfl | (simp; done) | (simp [*]; done), by repeat (first | exact Drawn0.refl _ | apply Drawn0.step)⟩
 rw [if_neg c2] at H
 have c2b0 : (a0 == 0) = false := beq_eq_false_iff_ne.mpr c2
 have c2b1 : (a0 != 0) = true := bne_iff_ne.mpr c2
 have HC3 := Aside0.mk H
 clear H
 go_enter Tryd.func44, Tryd.ntmps44
 go_upto_region 4 with (fail)
 go_cut [12] (fun v12 wc => ∃ (kq : Nat) (x12_2 : Bool), v12 = .bool x12_2 ∧ Aside0 (code_form.j0 kq a0 (a0 / 16) (Go.bits .and .u8 a0 15) x12_2 = some r) ∧ Aside0 (kq ≤ k) ∧ Drawn0 w wc)
 case first =>
  have H := HC3.out
  clear HC3
  by_cases c4 : (a0 / 16) = 3
  ·rw [if_pos c4] at H
   have c4b0 : ((a0 / 16) == 3) = true := beq_iff_eq.mpr c4
   have c4b1 : ((a0 / 16) != 3) = false := bne_eq_false_iff_eq.mpr c4
   clear c4
   (first | rw [c4b0] | (simp only [i64_w, i32_w]; rw [c4b0]) | skip)
   have H' := Aside0.mk H
   clear H
   go_wp2
   go_meet
   case rel => exact ⟨_, (((Go.bits .and .u8 a0 15) != 8)), rs, H', ⟨by first | omega | exact Nat.le_refl _⟩, by repeat (first | exact Drawn0.refl _ | apply Drawn0.step)⟩
  rw [if_neg c4] at H
  have c4b0 : ((a0 / 16) == 3) = false := beq_eq_false_iff_ne.mpr c4
  have c4b1 : ((a0 / 16) != 3) = true := bne_iff_ne.mpr c4
  (first | rw [c4b0] | (simp only [i64_w, i32_w]; rw [c4b0]) | skip)
  have H' := Aside0.mk H
  clear H
  go_wp2
  go_meet
  case rel => exact ⟨_, (false), rs, H', ⟨by first | omega | exact Nat.le_refl _⟩, by repeat (first | exact Drawn0.refl _ | apply Drawn0.step)⟩
 case rest =>
  clear HC3
  clear c2 c2b0 c2b1
  obtain ⟨kq, x12_2, rfl, HA, HJ2, ⟨mc2, rfl⟩⟩ := hcut
  cases kq with
  | zero => exact absurd HA.out (by simp [code_form.j0])
  | succ kj2 =>
   have H := HA.out
   clear HA
   simp only [code_form.j0] at H
   by_cases c5 : x12_2 = true
   ·subst c5
    have H1 : (some 5) = some r := by rw [if_pos rfl] at H; exact H
    clear H
    have H := H1
    clear H1
    obtain rfl := Option.some.inj H
    go_wp2
    go_ret
    exact ⟨by first | rfl | (simp; done) | (simp [*]; done), by repeat (first | exact Drawn0.refl _ | apply Drawn0.step)⟩
   replace c5 := Bool.eq_false_iff.mpr c5
   subst c5
   have H1 : (if (a0 / 16) = 3 then (some 1) else (if (a0 / 16) = 6 then (code_form.j1 kj2 a0 (a0 / 16) (Go.bits .and .u8 a0 15) ((Int.tmod (Go.bits .and .u8 a0 15) 8) != 0)) else (code_form.j1 kj2 a0 (a0 / 16) (Go.bits .and .u8 a0 15) false))) = some r := by rw [if_neg (show ¬ (false = true) by decide)] at H; exact H
   clear H
   have H := H1
   clear H1
   by_cases c6 : (a0 / 16) = 3
   ·rw [if_pos c6] at H
    have c6b0 : ((a0 / 16) == 3) = true := beq_iff_eq.mpr c6
    have c6b1 : ((a0 / 16) != 3) = false := bne_eq_false_iff_eq.mpr c6
    clear c6
    obtain rfl := Option.some.inj H
    go_wp2
    go_ret
    exact ⟨by first | rfl | (simp; done) | (simp [*]; done), by repeat (first | exact Drawn0.refl _ | apply Drawn0.step)⟩
   rw [if_neg c6] at H
   have c6b0 : ((a0 / 16) == 3) = false := beq_eq_false_iff_ne.mpr c6
   have c6b1 : ((a0 / 16) != 3) = true := bne_iff_ne.mpr c6
   have HC7 := Aside0.mk H
   clear H
   go_upto_region 8 with (fail)
   go_cut [22] (fun v22 wc => ∃ (kq : Nat) (x22_6 : Bool), v22 = .bool x22_6 ∧ Aside0 (code_form.j1 kq a0 (a0 / 16) (Go.bits .and .u8 a0 15) x22_6 = some r) ∧ Aside0 (kq ≤ kj2) ∧ Drawn0 w wc)
   case first =>
    have H := HC7.out
    clear HC7
    by_cases c8 : (a0 / 16) = 6
    ·rw [if_pos c8] at H
     have c8b0 : ((a0 / 16) == 6) = true := beq_iff_eq.mpr c8
     have c8b1 : ((a0 / 16) != 6) = false := bne_eq_false_iff_eq.mpr c8
     clear c8
     (first | rw [c8b0] | (simp only [i64_w, i32_w]; rw [c8b0]) | skip)
     have H' := Aside0.mk H
     clear H
     go_wp2
     go_meet
     case rel => exact ⟨_, (((Int.tmod (Go.bits .and .u8 a0 15) 8) != 0)), rs, H', ⟨by have := HJ2.out; first | omega | exact Nat.le_refl _⟩, by repeat (first | exact Drawn0.refl _ | apply Drawn0.step)⟩
    rw [if_neg c8] at H
    have c8b0 : ((a0 / 16) == 6) = false := beq_eq_false_iff_ne.mpr c8
    have c8b1 : ((a0 / 16) != 6) = true := bne_iff_ne.mpr c8
    (first | rw [c8b0] | (simp only [i64_w, i32_w]; rw [c8b0]) | skip)
    have H' := Aside0.mk H
    clear H
    go_wp2
    go_meet
    case rel => exact ⟨_, (false), rs, H', ⟨by have := HJ2.out; first | omega | exact Nat.le_refl _⟩, by repeat (first | exact Drawn0.refl _ | apply Drawn0.step)⟩
   case rest =>
    clear HC7
    clear c6 c6b0 c6b1
    obtain ⟨kq, x22_6, rfl, HA, HJ6, ⟨mc6, rfl⟩⟩ := hcut
    cases kq with
    | zero => exact absurd HA.out (by simp [code_form.j1])
    | succ kj6 =>
     have H := HA.out
     clear HA
     simp only [code_form.j1] at H
     by_cases c9 : x22_6 = true
     ·subst c9
      have H1 : (some 3) = some r := by rw [if_pos rfl] at H; exact H
      clear H
      have H := H1
      clear H1
      obtain rfl := Option.some.inj H
      go_wp2
      go_ret
      exact ⟨by first | rfl | (simp; done) | (simp [*]; done), by repeat (first | exact Drawn0.refl _ | apply Drawn0.step)⟩
     replace c9 := Bool.eq_false_iff.mpr c9
     subst c9
     have H1 : (if (a0 / 16) = 6 then (some 1) else ((code_immediate.f a0).bind fun t108 => (if t108 = true then (some 4) else (if (a0 / 16) = 7 then (code_form.j2 kj6 (a0 / 16) (Go.bits .and .u8 a0 15) ((a0 / 16) == 7)) else (code_form.j2 kj6 (a0 / 16) (Go.bits .and .u8 a0 15) ((a0 / 16) == 15)))))) = some r := by rw [if_neg (show ¬ (false = true) by decide)] at H; exact H
     clear H
     have H := H1
     clear H1
     by_cases c10 : (a0 / 16) = 6
     ·rw [if_pos c10] at H
      have c10b0 : ((a0 / 16) == 6) = true := beq_iff_eq.mpr c10
      have c10b1 : ((a0 / 16) != 6) = false := bne_eq_false_iff_eq.mpr c10
      clear c10
      obtain rfl := Option.some.inj H
      go_wp2
      go_ret
      exact ⟨by first | rfl | (simp; done) | (simp [*]; done), by repeat (first | exact Drawn0.refl _ | apply Drawn0.step)⟩
     rw [if_neg c10] at H
     have c10b0 : ((a0 / 16) == 6) = false := beq_eq_false_iff_ne.mpr c10
     have c10b1 : ((a0 / 16) != 6) = true := bne_iff_ne.mpr c10
     replace H := Option.bind_eq_some_iff.mp H
     obtain ⟨t108, A110, H⟩ := H
     replace H : (if t108 = true then (some 4) else (if (a0 / 16) = 7 then (code_form.j2 kj6 (a0 / 16) (Go.bits .and .u8 a0 15) ((a0 / 16) == 7)) else (code_form.j2 kj6 (a0 / 16) (Go.bits .and .u8 a0 15) ((a0 / 16) == 15)))) = some r := H
     have A11 := Aside0.mk A110
     clear A110
     by_cases c12 : t108 = true
     ·subst c12
      have H1 : (some 4) = some r := by rw [if_pos rfl] at H; exact H
      clear H
      have H := H1
      clear H1
      obtain rfl := Option.some.inj H
      go_wp2_with (first | ((with_reducible refine gate_callee (f := 52) rfl ?_); refine goesL_ (some 35) rfl rfl Tryd.func52 (by kernel_rfl) rfl #[.int .u8 a0] rfl sm ?_; (with_reducible refine (code_immediate.calls a0 true _ A11.out).mono ?_); rintro e w' ⟨rfl, ⟨nd, rfl⟩⟩; refine ⟨_, rfl, ?_⟩))
      go_ret
      exact ⟨by first | rfl | (simp; done) | (simp [*]; done), by repeat (first | exact Drawn0.refl _ | apply Drawn0.step)⟩
     replace c12 := Bool.eq_false_iff.mpr c12
     subst c12
     have H1 : (if (a0 / 16) = 7 then (code_form.j2 kj6 (a0 / 16) (Go.bits .and .u8 a0 15) ((a0 / 16) == 7)) else (code_form.j2 kj6 (a0 / 16) (Go.bits .and .u8 a0 15) ((a0 / 16) == 15))) = some r := by rw [if_neg (show ¬ (false = true) by decide)] at H; exact H
     clear H
     have H := H1
     clear H1
     have HC13 := Aside0.mk H
     clear H
     go_upto_if 36 with (first | ((with_reducible refine gate_callee (f := 52) rfl ?_); refine goesL_ (some 35) rfl rfl Tryd.func52 (by kernel_rfl) rfl #[.int .u8 a0] rfl sm ?_; (with_reducible refine (code_immediate.calls a0 false _ A11.out).mono ?_); rintro e w' ⟨rfl, ⟨nd, rfl⟩⟩; refine ⟨_, rfl, ?_⟩))
     (try simp only [Act.put, List.setIfInBounds_toArray, List.set_cons_zero, List.set_cons_succ])
     go_cut [36] (fun v36 wc => ∃ (kq : Nat) (x36_12 : Bool), v36 = .bool x36_12 ∧ Aside0 (code_form.j2 kq (a0 / 16) (Go.bits .and .u8 a0 15) x36_12 = some r) ∧ Aside0 (kq ≤ kj6) ∧ Drawn0 w wc)
     case first =>
      have H := HC13.out
      clear HC13
      by_cases c14 : (a0 / 16) = 7
      ·rw [if_pos c14] at H
       have c14b0 : ((a0 / 16) == 7) = true := beq_iff_eq.mpr c14
       have c14b1 : ((a0 / 16) != 7) = false := bne_eq_false_iff_eq.mpr c14
       clear c14
       (first | rw [c14b0] | (simp only [i64_w, i32_w]; rw [c14b0]) | skip)
       have H' := Aside0.mk H
       clear H
       go_wp2
       go_meet
       case rel => exact ⟨_, (((a0 / 16) == 7)), rs, H', ⟨by have := HJ2.out; have := HJ6.out; first | omega | exact Nat.le_refl _⟩, by repeat (first | exact Drawn0.refl _ | apply Drawn0.step)⟩
      rw [if_neg c14] at H
      have c14b0 : ((a0 / 16) == 7) = false := beq_eq_false_iff_ne.mpr c14
      have c14b1 : ((a0 / 16) != 7) = true := bne_iff_ne.mpr c14
      (first | rw [c14b0] | (simp only [i64_w, i32_w]; rw [c14b0]) | skip)
      have H' := Aside0.mk H
      clear H
      go_wp2
      go_meet
      case rel => exact ⟨_, (((a0 / 16) == 15)), rs, H', ⟨by have := HJ2.out; have := HJ6.out; first | omega | exact Nat.le_refl _⟩, by repeat (first | exact Drawn0.refl _ | apply Drawn0.step)⟩
     case rest =>
      clear HC13
      clear c10 c10b0 c10b1
      obtain ⟨kq, x36_12, rfl, HA, HJ12, ⟨mc12, rfl⟩⟩ := hcut
      cases kq with
      | zero => exact absurd HA.out (by simp [code_form.j2])
      | succ kj12 =>
       have H := HA.out
       clear HA
       simp only [code_form.j2] at H
       by_cases c15 : x36_12 = true
       ·subst c15
        have H1 : (some 1) = some r := by rw [if_pos rfl] at H; exact H
        clear H
        have H := H1
        clear H1
        obtain rfl := Option.some.inj H
        go_wp2
        go_ret
        exact ⟨by first | rfl | (simp; done) | (simp [*]; done), by repeat (first | exact Drawn0.refl _ | apply Drawn0.step)⟩
       replace c15 := Bool.eq_false_iff.mpr c15
       subst c15
       have H1 : (if (a0 / 16) = 12 then (if (Go.bits .and .u8 a0 15) < 4 then (code_form.j3 kj12 (a0 / 16) true) else (if (Go.bits .and .u8 a0 15) > 8 then (code_form.j3 kj12 (a0 / 16) (decide ((Go.bits .and .u8 a0 15) < 12))) else (code_form.j3 kj12 (a0 / 16) false))) else (code_form.j3 kj12 (a0 / 16) false)) = some r := by rw [if_neg (show ¬ (false = true) by decide)] at H; exact H
       clear H
       have H := H1
       clear H1
       have HC16 := Aside0.mk H
       clear H
       go_upto_region 17 with (fail)
       go_cut [41] (fun v41 wc => ∃ (kq : Nat) (x41_15 : Bool), v41 = .bool x41_15 ∧ Aside0 (code_form.j3 kq (a0 / 16) x41_15 = some r) ∧ Aside0 (kq ≤ kj12) ∧ Drawn0 w wc)
       case first =>
        have H := HC16.out
        clear HC16
        by_cases c17 : (a0 / 16) = 12
        ·rw [if_pos c17] at H
         have c17b0 : ((a0 / 16) == 12) = true := beq_iff_eq.mpr c17
         have c17b1 : ((a0 / 16) != 12) = false := bne_eq_false_iff_eq.mpr c17
         clear c17
         (first | rw [c17b0] | (simp only [i64_w, i32_w]; rw [c17b0]) | skip)
         by_cases c18 : (Go.bits .and .u8 a0 15) < 4
         ·rw [if_pos c18] at H
          have c18b0 : decide ((Go.bits .and .u8 a0 15) < 4) = true := decide_eq_true c18
          clear c18
          have H' := Aside0.mk H
          clear H
          go_wp2
          go_meet
          case rel => exact ⟨_, (true), rs, H', ⟨by have := HJ2.out; have := HJ6.out; have := HJ12.out; first | omega | exact Nat.le_refl _⟩, by repeat (first | exact Drawn0.refl _ | apply Drawn0.step)⟩
         rw [if_neg c18] at H
         have c18b0 : decide ((Go.bits .and .u8 a0 15) < 4) = false := decide_eq_false c18
         clear c18
         by_cases c19 : (Go.bits .and .u8 a0 15) > 8
         ·rw [if_pos c19] at H
          have c19b0 : decide (8 < (Go.bits .and .u8 a0 15)) = true := decide_eq_true c19
          clear c19
          have H' := Aside0.mk H
          clear H
          go_wp2
          go_meet
          case rel => exact ⟨_, (decide ((Go.bits .and .u8 a0 15) < 12)), rs, H', ⟨by have := HJ2.out; have := HJ6.out; have := HJ12.out; first | omega | exact Nat.le_refl _⟩, by repeat (first | exact Drawn0.refl _ | apply Drawn0.step)⟩
         rw [if_neg c19] at H
         have c19b0 : decide (8 < (Go.bits .and .u8 a0 15)) = false := decide_eq_false c19
         clear c19
         have H' := Aside0.mk H
         clear H
         go_wp2
         go_meet
         case rel => exact ⟨_, (false), rs, H', ⟨by have := HJ2.out; have := HJ6.out; have := HJ12.out; first | omega | exact Nat.le_refl _⟩, by repeat (first | exact Drawn0.refl _ | apply Drawn0.step)⟩
        rw [if_neg c17] at H
        have c17b0 : ((a0 / 16) == 12) = false := beq_eq_false_iff_ne.mpr c17
        have c17b1 : ((a0 / 16) != 12) = true := bne_iff_ne.mpr c17
        (first | rw [c17b0] | (simp only [i64_w, i32_w]; rw [c17b0]) | skip)
        have H' := Aside0.mk H
        clear H
        go_wp2
        go_meet
        case rel => exact ⟨_, (false), rs, H', ⟨by have := HJ2.out; have := HJ6.out; have := HJ12.out; first | omega | exact Nat.le_refl _⟩, by repeat (first | exact Drawn0.refl _ | apply Drawn0.step)⟩
       case rest =>
        clear HC16
        obtain ⟨kq, x41_15, rfl, HA, HJ15, ⟨mc15, rfl⟩⟩ := hcut
        cases kq with
        | zero => exact absurd HA.out (by simp [code_form.j3])
        | succ kj15 =>
         have H := HA.out
         clear HA
         simp only [code_form.j3] at H
         by_cases c20 : x41_15 = true
         ·subst c20
          have H1 : (some 6) = some r := by rw [if_pos rfl] at H; exact H
          clear H
          have H := H1
          clear H1
          obtain rfl := Option.some.inj H
          go_wp2
          go_ret
          exact ⟨by first | rfl | (simp; done) | (simp [*]; done), by repeat (first | exact Drawn0.refl _ | apply Drawn0.step)⟩
         replace c20 := Bool.eq_false_iff.mpr c20
         subst c20
         have H1 : (if (a0 / 16) = 12 then (some 1) else (some 2)) = some r := by rw [if_neg (show ¬ (false = true) by decide)] at H; exact H
         clear H
         have H := H1
         clear H1
         by_cases c21 : (a0 / 16) = 12
         ·rw [if_pos c21] at H
          have c21b0 : ((a0 / 16) == 12) = true := beq_iff_eq.mpr c21
          have c21b1 : ((a0 / 16) != 12) = false := bne_eq_false_iff_eq.mpr c21
          clear c21
          obtain rfl := Option.some.inj H
          go_wp2
          go_ret
          exact ⟨by first | rfl | (simp; done) | (simp [*]; done), by repeat (first | exact Drawn0.refl _ | apply Drawn0.step)⟩
         rw [if_neg c21] at H
         have c21b0 : ((a0 / 16) == 12) = false := beq_eq_false_iff_ne.mpr c21
         have c21b1 : ((a0 / 16) != 12) = true := bne_iff_ne.mpr c21
         obtain rfl := Option.some.inj H
         go_wp2
         go_ret
         exact ⟨by first | rfl | (simp; done) | (simp [*]; done), by repeat (first | exact Drawn0.refl _ | apply Drawn0.step)⟩

-- NOT PRINTED: function 45 (code_name)

/-! ### code_long: function 46 -/
def code_long.f (a0 : Int) : Option (Bool) := some ((a0 / 16) == 12)
set_option maxHeartbeats 8000000 in
set_option maxRecDepth 100000 in
theorem code_long.calls (a0 : Int) (r : Bool) (w : World) (h : code_long.f a0 = some r) :
 Calls Tryd.prog 46 #[.int .u8 a0] w fun e w' => e = .returned (.bool r) ∧ Drawn0 w w' := by
 have H : (some ((a0 / 16) == 12)) = some r := h
 clear h
 obtain rfl := Option.some.inj H
 go_enter Tryd.func46, Tryd.ntmps46
 go_wp2
 go_ret
 exact ⟨by first | rfl | (simp; done) | (simp [*]; done), by repeat (first | exact Drawn0.refl _ | apply Drawn0.step)⟩

-- given: code_Info (a text of this session's own)

/-! ### bits_Word: function 37 -/
def bits_Word.f (a0 : Int) (a1 : Int) : Option (Int) := some (Go.bits .or .u16 (IntKind.u16.wrap ((IntKind.u16.wrap (a0)) * 256)) (IntKind.u16.wrap (a1)))
set_option maxHeartbeats 8000000 in
set_option maxRecDepth 100000 in
theorem bits_Word.calls (a0 : Int) (a1 : Int) (r : Int) (w : World) (h : bits_Word.f a0 a1 = some r) :
 Calls Tryd.prog 37 #[.int .u8 a0, .int .u8 a1] w fun e w' => e = .returned (.int .u16 r) ∧ Drawn0 w w' := by
 have H : (some (Go.bits .or .u16 (IntKind.u16.wrap ((IntKind.u16.wrap (a0)) * 256)) (IntKind.u16.wrap (a1)))) = some r := h
 clear h
 obtain rfl := Option.some.inj H
 go_enter Tryd.func37, Tryd.ntmps37
 go_wp2
 go_ret
 exact ⟨by first | rfl | (simp; done) | (simp [*]; done), by repeat (first | exact Drawn0.refl _ | apply Drawn0.step)⟩

end Go.Proofs.YtbffmfeflcdgbaaDoor.POb
