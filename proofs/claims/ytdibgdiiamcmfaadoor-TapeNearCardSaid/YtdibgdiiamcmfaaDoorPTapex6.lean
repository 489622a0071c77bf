/- Written by a program of this session (gprint.py, over the kit's printer): functions of the seat YtdibgdiiamcmfaaDoor and their contracts. No condition but each contract's own. -/
import Derived.Test.YtdibgdiiamcmfaaDoorTapeWriteC
import Derived.Test.YtdibgdiiamcmfaaDoorTapeReadC
import Derived.Test.YtdibgdiiamcmfaaDoorPTapex0
import Derived.Test.YtdibgdiiamcmfaaDoorPTapex3
namespace Go.Proofs.YtdibgdiiamcmfaaDoor.PTape
open Go.RowKit Go.Proofs.YtdibgdiiamcmfaaDoorW.PrintWords Go.Proofs.YtdibgdiiamcmfaaDoorW.PrintLast Go.Proofs.YtdibgdiiamcmfaaDoorW.PrintMore
open Go.Proofs.YtdibgdiiamcmfaaDoor.Reader (GOk)
attribute [local go_sem] max2_int min2_int max_two min_two max_three min_three max_four min_four   -- for this text's walks alone
set_option linter.unusedVariables false
set_option linter.unusedSimpArgs false

/-! ### vesperlaw12_TapeNear: function 6 -/
mutual
def vesperlaw12_TapeNear.j0 : Nat → List Int → List Int → Int → Bool → Option (Bool)
  | 0, _, _, _, _ => none
  | k + 1, x0, x1, x2, x23 => if x23 = true then ((vesperlaw12_awake.f k).bind fun t183 => (some t183)) else ((tape_Write.f x0 3).bind fun bt184 => (if bt184.2 = 0 then (vesperlaw12_TapeNear.j1 k x0 x1 x2 bt184.1 ((bt184.1.length : Int) != (wrap64 ((wrap64 (10 * (x0.length : Int))) + 3)))) else (vesperlaw12_TapeNear.j1 k x0 x1 x2 bt184.1 true)))
def vesperlaw12_TapeNear.j1 : Nat → List Int → List Int → Int → List (S37) → Bool → Option (Bool)
  | 0, _, _, _, _, _ => none
  | k + 1, x0, x1, x2, x7, x40 => if x40 = true then (some false) else (vesperlaw12_TapeNear.l0 k x0 x1 x2 x7 0)
def vesperlaw12_TapeNear.j3 : Nat → List Int → Int → List (S37) → Option (Bool)
  | 0, _, _, _ => none
  | k + 1, x0, x2, x7 => (tape_Read.f x7 (x0.length : Int)).bind fun bt194 => (if bt194.2.1 = 0 then (vesperlaw12_TapeNear.j4 k x0 x2 x7 ((strOfNums bt194.1).toList != (strOfNums x0).toList)) else (vesperlaw12_TapeNear.j4 k x0 x2 x7 true))
def vesperlaw12_TapeNear.j4 : Nat → List Int → Int → List (S37) → Bool → Option (Bool)
  | 0, _, _, _, _ => none
  | k + 1, x0, x2, x7, x100 => if x100 = true then (some false) else (if (wrap64 (9 * (x0.length : Int))) = 0 then (none) else (if 0 ≤ (wrap64 ((wrap64 ((wrap64 (3 + (wrap64 ((wrap64 (Int.tdiv (Int.tmod (Go.bits .and .i64 x2 1048575) (wrap64 (9 * (x0.length : Int)))) 9)) * 10)))) + 1)) + (Int.tmod (Int.tmod (Go.bits .and .i64 x2 1048575) (wrap64 (9 * (x0.length : Int)))) 9))) then (if (wrap64 ((wrap64 ((wrap64 (3 + (wrap64 ((wrap64 (Int.tdiv (Int.tmod (Go.bits .and .i64 x2 1048575) (wrap64 (9 * (x0.length : Int)))) 9)) * 10)))) + 1)) + (Int.tmod (Int.tmod (Go.bits .and .i64 x2 1048575) (wrap64 (9 * (x0.length : Int)))) 9))) < (x7.length : Int) then (if (wrap64 (((rd_T37 x7 (wrap64 ((wrap64 ((wrap64 (3 + (wrap64 ((wrap64 (Int.tdiv (Int.tmod (Go.bits .and .i64 x2 1048575) (wrap64 (9 * (x0.length : Int)))) 9)) * 10)))) + 1)) + (Int.tmod (Int.tmod (Go.bits .and .i64 x2 1048575) (wrap64 (9 * (x0.length : Int)))) 9)))).f0) + ((rd_T37 x7 (wrap64 ((wrap64 ((wrap64 (3 + (wrap64 ((wrap64 (Int.tdiv (Int.tmod (Go.bits .and .i64 x2 1048575) (wrap64 (9 * (x0.length : Int)))) 9)) * 10)))) + 1)) + (Int.tmod (Int.tmod (Go.bits .and .i64 x2 1048575) (wrap64 (9 * (x0.length : Int)))) 9)))).f1))) > 195 then ((tape_Read.f (x7.set ((wrap64 ((wrap64 ((wrap64 (3 + (wrap64 ((wrap64 (Int.tdiv (Int.tmod (Go.bits .and .i64 x2 1048575) (wrap64 (9 * (x0.length : Int)))) 9)) * 10)))) + 1)) + (Int.tmod (Int.tmod (Go.bits .and .i64 x2 1048575) (wrap64 (9 * (x0.length : Int)))) 9))) : Int).toNat (⟨56, 56⟩ : S37)) (x0.length : Int)).bind fun bt202 => (if bt202.2.1 = 121 then (if (bt202.1.length : Int) = 0 then (if bt202.2.2 = (wrap64 ((wrap64 (3 + (wrap64 ((wrap64 (Int.tdiv (Int.tmod (Go.bits .and .i64 x2 1048575) (wrap64 (9 * (x0.length : Int)))) 9)) * 10)))) + 9)) then ((vesperlaw12_awake.f k).bind fun t207 => (some t207)) else (some false)) else (some false)) else (some false))) else ((tape_Read.f (x7.set ((wrap64 ((wrap64 ((wrap64 (3 + (wrap64 ((wrap64 (Int.tdiv (Int.tmod (Go.bits .and .i64 x2 1048575) (wrap64 (9 * (x0.length : Int)))) 9)) * 10)))) + 1)) + (Int.tmod (Int.tmod (Go.bits .and .i64 x2 1048575) (wrap64 (9 * (x0.length : Int)))) 9))) : Int).toNat (⟨140, 140⟩ : S37)) (x0.length : Int)).bind fun bt209 => (if bt209.2.1 = 121 then (if (bt209.1.length : Int) = 0 then (if bt209.2.2 = (wrap64 ((wrap64 (3 + (wrap64 ((wrap64 (Int.tdiv (Int.tmod (Go.bits .and .i64 x2 1048575) (wrap64 (9 * (x0.length : Int)))) 9)) * 10)))) + 9)) then ((vesperlaw12_awake.f k).bind fun t214 => (some t214)) else (some false)) else (some false)) else (some false)))) else (none)) else (none)))
def vesperlaw12_TapeNear.l0 : Nat → List Int → List Int → Int → List (S37) → Int → Option (Bool)
  | 0, _, _, _, _, _ => none
  | k + 1, x0, x1, x2, x7, x9 => if x9 < (x7.length : Int) then (if x9 < (x1.length : Int) then (if 0 ≤ x9 then ((some (x7.set (x9 : Int).toNat (⟨wrap64 ((wrap64 (((rd_T37 x7 x9).f0) + (Go.bits .and .i64 (rd x1 x9) 31))) - 16), (rd_T37 x7 x9).f1⟩ : S37) : List (S37))).bind fun y190 => (vesperlaw12_TapeNear.l0 k x0 x1 x2 (y190.set (x9 : Int).toNat (⟨(rd_T37 y190 x9).f0, wrap64 (((rd_T37 y190 x9).f1) - (Go.bits .and .i64 (rd x1 x9) 15))⟩ : S37)) (wrap64 (x9 + 1)))) else (none)) else (vesperlaw12_TapeNear.j3 k x0 x2 x7)) else (vesperlaw12_TapeNear.j3 k x0 x2 x7)
end
def vesperlaw12_TapeNear.f (k : Nat) (l0 : List Int) (l1 : List Int) (a2 : Int) : Option (Bool) := if (l0.length : Int) > 1000 then (vesperlaw12_TapeNear.j0 k l0 l1 a2 true) else (vesperlaw12_TapeNear.j0 k l0 l1 a2 ((l0.length : Int) == 0))
theorem vesperlaw12_TapeNear.mono_l : ∀ k, (∀ y0 y1 y2 y3, LeO (vesperlaw12_TapeNear.j0 k y0 y1 y2 y3) (vesperlaw12_TapeNear.j0 (k + 1) y0 y1 y2 y3)) ∧ (∀ y0 y1 y2 y3 y4, LeO (vesperlaw12_TapeNear.j1 k y0 y1 y2 y3 y4) (vesperlaw12_TapeNear.j1 (k + 1) y0 y1 y2 y3 y4)) ∧ (∀ y0 y1 y2, LeO (vesperlaw12_TapeNear.j3 k y0 y1 y2) (vesperlaw12_TapeNear.j3 (k + 1) y0 y1 y2)) ∧ (∀ y0 y1 y2 y3, LeO (vesperlaw12_TapeNear.j4 k y0 y1 y2 y3) (vesperlaw12_TapeNear.j4 (k + 1) y0 y1 y2 y3)) ∧ (∀ y0 y1 y2 y3 y4, LeO (vesperlaw12_TapeNear.l0 k y0 y1 y2 y3 y4) (vesperlaw12_TapeNear.l0 (k + 1) y0 y1 y2 y3 y4))
  | 0 => ⟨fun _ _ _ _ r h => by simp [vesperlaw12_TapeNear.j0] at h, fun _ _ _ _ _ r h => by simp [vesperlaw12_TapeNear.j1] at h, fun _ _ _ r h => by simp [vesperlaw12_TapeNear.j3] at h, fun _ _ _ _ r h => by simp [vesperlaw12_TapeNear.j4] at h, fun _ _ _ _ _ r h => by simp [vesperlaw12_TapeNear.l0] at h⟩
  | k + 1 => by
    obtain ⟨ih0, ih1, ih2, ih3, ih4⟩ := vesperlaw12_TapeNear.mono_l k
    refine ⟨?_, ?_, ?_, ?_, ?_⟩
    · intro y0 y1 y2 y3
      unfold vesperlaw12_TapeNear.j0
      repeat' first
      | (with_reducible exact ih0 _ _ _ _)
      | (with_reducible exact ih1 _ _ _ _ _)
      | (with_reducible exact ih2 _ _ _)
      | (with_reducible exact ih3 _ _ _ _)
      | (with_reducible exact ih4 _ _ _ _ _)
      | (with_reducible exact vesperlaw12_awake.mono _)
      | (with_reducible exact LeO.refl _)
      | (with_reducible exact LeO.none _)
      | (with_reducible refine LeO.ite ?_ ?_)
      | (with_reducible refine LeO.bind ?_ (fun _ => ?_))
      | exact ih0 _ _ _ _
      | exact ih1 _ _ _ _ _
      | exact ih2 _ _ _
      | exact ih3 _ _ _ _
      | exact ih4 _ _ _ _ _
      | exact vesperlaw12_awake.mono _
      | exact LeO.none _
      | refine LeO.ite ?_ ?_
      | refine LeO.bind ?_ (fun _ => ?_)
    · intro y0 y1 y2 y3 y4
      unfold vesperlaw12_TapeNear.j1
      repeat' first
      | (with_reducible exact ih0 _ _ _ _)
      | (with_reducible exact ih1 _ _ _ _ _)
      | (with_reducible exact ih2 _ _ _)
      | (with_reducible exact ih3 _ _ _ _)
      | (with_reducible exact ih4 _ _ _ _ _)
      | (with_reducible exact vesperlaw12_awake.mono _)
      | (with_reducible exact LeO.refl _)
      | (with_reducible exact LeO.none _)
      | (with_reducible refine LeO.ite ?_ ?_)
      | (with_reducible refine LeO.bind ?_ (fun _ => ?_))
      | exact ih0 _ _ _ _
      | exact ih1 _ _ _ _ _
      | exact ih2 _ _ _
      | exact ih3 _ _ _ _
      | exact ih4 _ _ _ _ _
      | exact vesperlaw12_awake.mono _
      | exact LeO.none _
      | refine LeO.ite ?_ ?_
      | refine LeO.bind ?_ (fun _ => ?_)
    · intro y0 y1 y2
      unfold vesperlaw12_TapeNear.j3
      repeat' first
      | (with_reducible exact ih0 _ _ _ _)
      | (with_reducible exact ih1 _ _ _ _ _)
      | (with_reducible exact ih2 _ _ _)
      | (with_reducible exact ih3 _ _ _ _)
      | (with_reducible exact ih4 _ _ _ _ _)
      | (with_reducible exact vesperlaw12_awake.mono _)
      | (with_reducible exact LeO.refl _)
      | (with_reducible exact LeO.none _)
      | (with_reducible refine LeO.ite ?_ ?_)
      | (with_reducible refine LeO.bind ?_ (fun _ => ?_))
      | exact ih0 _ _ _ _
      | exact ih1 _ _ _ _ _
      | exact ih2 _ _ _
      | exact ih3 _ _ _ _
      | exact ih4 _ _ _ _ _
      | exact vesperlaw12_awake.mono _
      | exact LeO.none _
      | refine LeO.ite ?_ ?_
      | refine LeO.bind ?_ (fun _ => ?_)
    · intro y0 y1 y2 y3
      unfold vesperlaw12_TapeNear.j4
      repeat' first
      | (with_reducible exact ih0 _ _ _ _)
      | (with_reducible exact ih1 _ _ _ _ _)
      | (with_reducible exact ih2 _ _ _)
      | (with_reducible exact ih3 _ _ _ _)
      | (with_reducible exact ih4 _ _ _ _ _)
      | (with_reducible exact vesperlaw12_awake.mono _)
      | (with_reducible exact LeO.refl _)
      | (with_reducible exact LeO.none _)
      | (with_reducible refine LeO.ite ?_ ?_)
      | (with_reducible refine LeO.bind ?_ (fun _ => ?_))
      | exact ih0 _ _ _ _
      | exact ih1 _ _ _ _ _
      | exact ih2 _ _ _
      | exact ih3 _ _ _ _
      | exact ih4 _ _ _ _ _
      | exact vesperlaw12_awake.mono _
      | exact LeO.none _
      | refine LeO.ite ?_ ?_
      | refine LeO.bind ?_ (fun _ => ?_)
    · intro y0 y1 y2 y3 y4
      unfold vesperlaw12_TapeNear.l0
      repeat' first
      | (with_reducible exact ih0 _ _ _ _)
      | (with_reducible exact ih1 _ _ _ _ _)
      | (with_reducible exact ih2 _ _ _)
      | (with_reducible exact ih3 _ _ _ _)
      | (with_reducible exact ih4 _ _ _ _ _)
      | (with_reducible exact vesperlaw12_awake.mono _)
      | (with_reducible exact LeO.refl _)
      | (with_reducible exact LeO.none _)
      | (with_reducible refine LeO.ite ?_ ?_)
      | (with_reducible refine LeO.bind ?_ (fun _ => ?_))
      | exact ih0 _ _ _ _
      | exact ih1 _ _ _ _ _
      | exact ih2 _ _ _
      | exact ih3 _ _ _ _
      | exact ih4 _ _ _ _ _
      | exact vesperlaw12_awake.mono _
      | exact LeO.none _
      | refine LeO.ite ?_ ?_
      | refine LeO.bind ?_ (fun _ => ?_)
theorem vesperlaw12_TapeNear.mono : ∀ a0 a1 a2 k, LeO (vesperlaw12_TapeNear.f k a0 a1 a2) (vesperlaw12_TapeNear.f (k + 1) a0 a1 a2) := by
  intro a0 a1 a2 k
  obtain ⟨ih0, ih1, ih2, ih3, ih4⟩ := vesperlaw12_TapeNear.mono_l k
  unfold vesperlaw12_TapeNear.f
  repeat' first
      | (with_reducible exact ih0 _ _ _ _)
      | (with_reducible exact ih1 _ _ _ _ _)
      | (with_reducible exact ih2 _ _ _)
      | (with_reducible exact ih3 _ _ _ _)
      | (with_reducible exact ih4 _ _ _ _ _)
      | (with_reducible exact vesperlaw12_awake.mono _)
      | (with_reducible exact LeO.refl _)
      | (with_reducible exact LeO.none _)
      | (with_reducible refine LeO.ite ?_ ?_)
      | (with_reducible refine LeO.bind ?_ (fun _ => ?_))
      | exact ih0 _ _ _ _
      | exact ih1 _ _ _ _ _
      | exact ih2 _ _ _
      | exact ih3 _ _ _ _
      | exact ih4 _ _ _ _ _
      | exact vesperlaw12_awake.mono _
      | exact LeO.none _
      | refine LeO.ite ?_ ?_
      | refine LeO.bind ?_ (fun _ => ?_)
def vesperlaw12_TapeNear.T9 : Bool × List (List Nat × List Nat) := (true, [([], []), ([], []), ([], []), ([], []), ([2, 3], [2, 3]), ([4], [4]), ([5], [5]), ([], []), ([], []), ([7, 8], [7, 8]), ([9], [9]), ([10], [10]), ([6, 11], [6, 11]), ([12], [12]), ([0, 1, 0, 1, 2, 3, 4, 5, 6, 7, 8, 9, 10, 11, 12, 13], [0, 1]), ([14, 0, 1, 2, 3, 4, 5, 6, 7, 8, 9, 10, 11, 12, 13], [14]), ([15, 13, 0, 1, 2, 3, 4, 5, 6, 7, 8, 9, 10, 11, 12, 13], [13, 15])])
def vesperlaw12_TapeNear.B9 : List Nat := [0, 0, 0, 0, 12, 28, 60, 0, 0, 384, 896, 1920, 4092, 8188, 16383, 32767, 65535]
theorem vesperlaw12_TapeNear.tab9 : rtab .any (opsOf Tryd.f6 9) = vesperlaw12_TapeNear.T9 := by kernel_rfl
theorem vesperlaw12_TapeNear.bits9 : waitsOk vesperlaw12_TapeNear.T9.2 vesperlaw12_TapeNear.B9 = true := by kernel_rfl
def vesperlaw12_TapeNear.T10 : Bool × List (List Nat × List Nat) := (true, [([], []), ([], []), ([], []), ([], []), ([2, 3], [2, 3]), ([4], [4]), ([5], [5]), ([], []), ([], []), ([7, 8], [7, 8]), ([9], [9]), ([10], [10]), ([6, 11], [6, 11]), ([0, 1, 0, 1, 2, 3, 4, 5, 6, 7, 8, 9, 10, 11, 12], [0, 1]), ([13, 0, 1, 2, 3, 4, 5, 6, 7, 8, 9, 10, 11, 12], [13]), ([14, 12, 0, 1, 2, 3, 4, 5, 6, 7, 8, 9, 10, 11, 12], [12, 14])])
def vesperlaw12_TapeNear.B10 : List Nat := [0, 0, 0, 0, 12, 28, 60, 0, 0, 384, 896, 1920, 4092, 8191, 16383, 32767]
theorem vesperlaw12_TapeNear.tab10 : rtab .any (opsOf Tryd.f6 10) = vesperlaw12_TapeNear.T10 := by kernel_rfl
theorem vesperlaw12_TapeNear.bits10 : waitsOk vesperlaw12_TapeNear.T10.2 vesperlaw12_TapeNear.B10 = true := by kernel_rfl
def vesperlaw12_TapeNear.T16 : Bool × List (List Nat × List Nat) := (true, [([], []), ([], []), ([0, 1], [0, 1]), ([2], [2]), ([3], [3]), ([], []), ([], []), ([5, 6], [5, 6]), ([7], [7]), ([8], [8]), ([4, 9], [4, 9]), ([10], [10])])
def vesperlaw12_TapeNear.B16 : List Nat := [0, 0, 3, 7, 15, 0, 0, 96, 224, 480, 1023, 2047]
theorem vesperlaw12_TapeNear.tab16 : rtab .any (opsOf Tryd.f6 16) = vesperlaw12_TapeNear.T16 := by kernel_rfl
theorem vesperlaw12_TapeNear.bits16 : waitsOk vesperlaw12_TapeNear.T16.2 vesperlaw12_TapeNear.B16 = true := by kernel_rfl
set_option maxHeartbeats 8000000 in
set_option maxRecDepth 100000 in
theorem vesperlaw12_TapeNear.calls (k : Nat) (A0 : Option Addr) (c0 : Nat) (l0 : List Int) (A1 : Option Addr) (c1 : Nat) (l1 : List Int) (a2 : Int) (r : Bool) (w : World) (hr0 : Kd.C (Kd.int .u8) w A0 l0.length l0) (hc0 : l0.length ≤ c0) (hr1 : Kd.C (Kd.int .i64) w A1 l1.length l1) (hc1 : l1.length ≤ c1) (h : vesperlaw12_TapeNear.f k l0 l1 a2 = some r) (hG : GOk w := by first | exact HG.out | exact GOk.below HG.out HB.out | exact GOk.below HG.out (by repeat (first | (with_reducible first | exact HB.out | apply below_alloc | apply pw_below_drewN | apply below_drew1) | exact HB.out))) :
    Calls Tryd.prog 6 #[.slice A0 l0.length c0, .slice A1 l1.length c1, .int .i64 a2] w fun e w' => e = .returned (.bool r) ∧ Below w.heap.size w w' := by
  have HG := Aside0.mk hG
  clear hG
  have hu37 := Tryd.underlying37
  have HR0 := Aside0.mk hr0
  have HC0 := Aside0.mk hc0
  clear hr0 hc0
  have HR1 := Aside0.mk hr1
  have HC1 := Aside0.mk hc1
  clear hr1 hc1
  have HB := Aside0.mk (Below.refl w.heap.size w)
  have H : (if (l0.length : Int) > 1000 then (vesperlaw12_TapeNear.j0 k l0 l1 a2 true) else (vesperlaw12_TapeNear.j0 k l0 l1 a2 ((l0.length : Int) == 0))) = some r := h
  clear h
  have HC4 := Aside0.mk H
  clear H
  go_enter Tryd.func6, Tryd.ntmps6
  go_upto_region 1 with (fail)
  go_cut [23] (fun v23 wc => ∃ (kq : Nat) (x23_3 : Bool), v23 = .bool x23_3 ∧ Aside0 (vesperlaw12_TapeNear.j0 kq l0 l1 a2 x23_3 = some r) ∧ Aside0 (kq ≤ k) ∧ Aside0 (Below w.heap.size w wc))
  case first =>
    have H := HC4.out
    clear HC4
    by_cases c5 : (l0.length : Int) > 1000
    · rw [if_pos c5] at H
      have c5b0 : decide (1000 < (l0.length : Int)) = true := decide_eq_true c5
      have c5b1 : decide (1000 < l0.length) = true := decide_eq_true (by omega)
      clear c5
      (first | rw [c5b0] | (simp only [i64_w, i32_w]; rw [c5b0]) | skip)
      have H' := Aside0.mk H
      clear H
      go_wp2
      go_meet
      case rel => exact ⟨_, (true), (by first | rfl | (simp; done) | (simp [*]; done)), H', ⟨by first | omega | exact Nat.le_refl _⟩, ⟨by repeat (first | (with_reducible first | exact HB.out | apply below_alloc | apply pw_below_drewN | apply below_drew1) | exact HB.out)⟩⟩
    · rw [if_neg c5] at H
      have c5b0 : decide (1000 < (l0.length : Int)) = false := decide_eq_false c5
      have c5b1 : decide (1000 < l0.length) = false := decide_eq_false (by omega)
      clear c5
      (first | rw [c5b0] | (simp only [i64_w, i32_w]; rw [c5b0]) | skip)
      have H' := Aside0.mk H
      clear H
      go_wp2
      go_meet
      case rel => exact ⟨_, (((l0.length : Int) == 0)), (by first | rfl | (simp; done) | (simp [*]; done)), H', ⟨by first | omega | exact Nat.le_refl _⟩, ⟨by repeat (first | (with_reducible first | exact HB.out | apply below_alloc | apply pw_below_drewN | apply below_drew1) | exact HB.out)⟩⟩
  case rest =>
    clear HC4
    try clear c1
    try clear p2
    try clear c5
    try clear c5b0
    try clear c5b1
    obtain ⟨kq, x23_3, rfl, HA, HJ3, HB⟩ := hcut
    cases kq with
    | zero => exact absurd HA.out (by simp [vesperlaw12_TapeNear.j0])
    | succ kj3 =>
      have H := HA.out
      clear HA
      simp only [vesperlaw12_TapeNear.j0] at H
      by_cases c6 : x23_3 = true
      · subst c6
        have H1 : ((vesperlaw12_awake.f kj3).bind fun t183 => (some t183)) = some r := by rw [if_pos rfl] at H; exact H
        clear H
        have H := H1
        clear H1
        replace H := Option.bind_eq_some_iff.mp H
        obtain ⟨t183, A70, H⟩ := H
        replace H : (some t183) = some r := H
        have A7 := Aside0.mk A70
        clear A70
        obtain rfl := Option.some.inj H
        go_wp2_with (first | ((with_reducible refine gate_callee (f := 10) rfl ?_); refine goesL_ (some 24) rfl rfl Tryd.func10 (by kernel_rfl) rfl #[] rfl (by (try simp only [List.map_toArray, List.map_cons, List.map_nil]); first | done | rfl | (simp only [List.length_drop, List.length_take]; rfl)) ?_; (with_reducible refine (vesperlaw12_awake.calls kj3  t183 _ A7.out).mono ?_); rintro e w8 ⟨rfl, hb⟩; refine ⟨_, rfl, ?_⟩; have n0_ := Aside0.mk (below_step (by repeat (first | (with_reducible first | exact HB.out | apply below_alloc | apply pw_below_drewN | apply below_drew1) | exact HB.out)) hb); clear HB; have HB := n0_; clear n0_; (try clear hb); (try clear hb2); (try clear hk); (try clear hi)))
        go_ret
        exact ⟨by first | rfl | (simp [errW_none, errW_some] <;> rfl) | (simp [*, errW_none, errW_some] <;> rfl), by repeat (first | (with_reducible first | exact HB.out | apply below_alloc | apply pw_below_drewN | apply below_drew1) | exact HB.out)⟩
      · replace c6 := Bool.eq_false_iff.mpr c6
        subst c6
        have H1 : ((tape_Write.f l0 3).bind fun bt184 => (if bt184.2 = 0 then (vesperlaw12_TapeNear.j1 kj3 l0 l1 a2 bt184.1 ((bt184.1.length : Int) != (wrap64 ((wrap64 (10 * (l0.length : Int))) + 3)))) else (vesperlaw12_TapeNear.j1 kj3 l0 l1 a2 bt184.1 true))) = some r := by rw [if_neg (show ¬ (false = true) by decide)] at H; exact H
        clear H
        have H := H1
        clear H1
        replace H := Option.bind_eq_some_iff.mp H
        obtain ⟨⟨t184, t185⟩, A90, H⟩ := H
        replace H : (if t185 = 0 then (vesperlaw12_TapeNear.j1 kj3 l0 l1 a2 t184 ((t184.length : Int) != (wrap64 ((wrap64 (10 * (l0.length : Int))) + 3)))) else (vesperlaw12_TapeNear.j1 kj3 l0 l1 a2 t184 true)) = some r := H
        have A9 := Aside0.mk A90
        clear A90
        have HC10 := Aside0.mk H
        clear H
        go_upto_region 4 with (first | ((with_reducible refine gate_callee (f := 11) rfl ?_); refine goesL_ (some 27) rfl rfl Tryd.func11 (by kernel_rfl) rfl #[.slice A0 l0.length c0, .int .i64 3] rfl (by (try simp only [List.map_toArray, List.map_cons, List.map_nil]); first | done | rfl | (simp only [List.length_drop, List.length_take]; rfl)) ?_; (with_reducible refine (tape_Write.calls _ _ l0 3 t184 t185 _ ?side1 ?side2 A9.out).mono ?_); (case side1 => repeat (first | exact (Kd.C_below HR0.out HB.out) | (with_reducible refine Kd.C_alloc ?_ _) | (with_reducible refine Kd.C_drewN ?_ _) | (with_reducible refine Kd.C_drew ?_))); (case side2 => exact HC0.out); rintro e w11 ⟨v186, rfl, ho0, hb⟩; refine ⟨_, rfl, ?_⟩; have n0_ := Aside0.mk (Kd.R_lower ho0 (below_size (by repeat (first | (with_reducible first | exact HB.out | apply below_alloc | apply pw_below_drewN | apply below_drew1) | exact HB.out)))); have n1_ := Aside0.mk (below_step (by repeat (first | (with_reducible first | exact HB.out | apply below_alloc | apply pw_below_drewN | apply below_drew1) | exact HB.out)) hb); clear HB; have HO187 := n0_; have HB := n1_; clear n0_ n1_; (try clear hb); (try clear hb2); (try clear hk); (try clear hi); (try clear ho0)))
        (try simp only [Act.put, List.setIfInBounds_toArray, List.set_cons_zero, List.set_cons_succ])
        go_cut [40] (fun v40 wc => ∃ (kq : Nat) (x40_9 : Bool), v40 = .bool x40_9 ∧ Aside0 (vesperlaw12_TapeNear.j1 kq l0 l1 a2 t184 x40_9 = some r) ∧ Aside0 (kq ≤ kj3) ∧ Aside0 (Kd.R k37 37 wc w.heap.size (fun _ => True) v186 t184) ∧ Aside0 (Below w.heap.size w wc))
        case first =>
          have H := HC10.out
          clear HC10
          by_cases c12 : t185 = 0
          · rw [if_pos c12] at H
            have c12b0 : (t185 == 0) = true := beq_iff_eq.mpr c12
            have c12b1 : (t185 != 0) = false := bne_eq_false_iff_eq.mpr c12
            clear c12
            (first | rw [c12b0] | (simp only [i64_w, i32_w]; rw [c12b0]) | skip)
            have H' := Aside0.mk H
            clear H
            obtain ⟨Ao13, co13, eo13⟩ := Kd.R_slice HO187.out
            subst eo13
            go_wp2
            go_meet
            case rel => exact ⟨_, (((t184.length : Int) != (wrap64 ((wrap64 (10 * (l0.length : Int))) + 3)))), (by first | rfl | (simp; done) | (simp [*]; done)), H', ⟨by have := HJ3.out; first | omega | exact Nat.le_refl _⟩, ⟨by (with_reducible repeat (first | apply Kd.R_alloc | apply Kd.R_drewN | apply Kd.R_drew)); exact HO187.out⟩, ⟨by repeat (first | (with_reducible first | exact HB.out | apply below_alloc | apply pw_below_drewN | apply below_drew1) | exact HB.out)⟩⟩
          · rw [if_neg c12] at H
            have c12b0 : (t185 == 0) = false := beq_eq_false_iff_ne.mpr c12
            have c12b1 : (t185 != 0) = true := bne_iff_ne.mpr c12
            (first | rw [c12b0] | (simp only [i64_w, i32_w]; rw [c12b0]) | skip)
            have H' := Aside0.mk H
            clear H
            go_wp2
            go_meet
            case rel => exact ⟨_, (true), (by first | rfl | (simp; done) | (simp [*]; done)), H', ⟨by have := HJ3.out; first | omega | exact Nat.le_refl _⟩, ⟨by (with_reducible repeat (first | apply Kd.R_alloc | apply Kd.R_drewN | apply Kd.R_drew)); exact HO187.out⟩, ⟨by repeat (first | (with_reducible first | exact HB.out | apply below_alloc | apply pw_below_drewN | apply below_drew1) | exact HB.out)⟩⟩
        case rest =>
          clear HC10
          try clear c1
          try clear p2
          try clear c5
          try clear c5b0
          try clear c5b1
          try clear c6
          try clear p6
          try clear c10
          try clear c11
          try clear c12
          try clear c12b0
          try clear c12b1
          try clear p2
          obtain ⟨kq, x40_9, rfl, HA, HJ9, HO_7, HB⟩ := hcut
          cases kq with
          | zero => exact absurd HA.out (by simp [vesperlaw12_TapeNear.j1])
          | succ kj9 =>
            have H := HA.out
            clear HA
            simp only [vesperlaw12_TapeNear.j1] at H
            by_cases c14 : x40_9 = true
            · subst c14
              have H1 : (some false) = some r := by rw [if_pos rfl] at H; exact H
              clear H
              have H := H1
              clear H1
              obtain rfl := Option.some.inj H
              go_wp2
              go_ret
              exact ⟨by first | rfl | (simp [errW_none, errW_some] <;> rfl) | (simp [*, errW_none, errW_some] <;> rfl), by repeat (first | (with_reducible first | exact HB.out | apply below_alloc | apply pw_below_drewN | apply below_drew1) | exact HB.out)⟩
            · replace c14 := Bool.eq_false_iff.mpr c14
              subst c14
              have H1 : (vesperlaw12_TapeNear.l0 kj9 l0 l1 a2 t184 0) = some r := by rw [if_neg (show ¬ (false = true) by decide)] at H; exact H
              clear H
              have H := H1
              clear H1
              have HC15 := Aside0.mk H
              clear H
              go_upto_block 0 with (fail)
              go_cut [] (fun wc => ∃ (kq : Nat) (x7_14 : List (S37)), Aside0 (vesperlaw12_TapeNear.j3 kq l0 a2 x7_14 = some r) ∧ Aside0 (kq ≤ kj9) ∧ Aside0 (Kd.R k37 37 wc w.heap.size (fun _ => True) v186 x7_14) ∧ Aside0 (Below w.heap.size w wc))
              case first =>
                have H := HC15.out
                clear HC15
                have H' := Aside0.mk H
                clear H
                go_wp2
                go_loopg [9] kj9 (fun kq v9 w' => ∃ (x7_3 : List (S37)) (x9_3 : Int), v9 = .int .i64 x9_3 ∧ Aside0 (vesperlaw12_TapeNear.l0 kq l0 l1 a2 x7_3 x9_3 = some r) ∧ Aside0 (kq ≤ kj9) ∧ Aside0 (Kd.R k37 37 w' w.heap.size (fun _ => True) v186 x7_3) ∧ Aside0 (Below w.heap.size w w'))
                case atStart => exact ⟨(t184), (0), (by first | rfl | (simp; done) | (simp [*]; done)), H', ⟨Nat.le_refl _⟩, ⟨by (with_reducible repeat (first | apply Kd.R_alloc | apply Kd.R_drewN | apply Kd.R_drew)); exact HO_7.out⟩, ⟨by repeat (first | (with_reducible first | exact HB.out | apply below_alloc | apply pw_below_drewN | apply below_drew1) | exact HB.out)⟩⟩
                case round =>
                  clear H'
                  try clear c1
                  try clear p2
                  try clear c5
                  try clear c5b0
                  try clear c5b1
                  try clear c6
                  try clear p6
                  try clear c10
                  try clear c11
                  try clear c12
                  try clear c12b0
                  try clear c12b1
                  try clear c14
                  try clear p2
                  try clear p6
                  obtain ⟨x7_3, x9_3, rfl, HA, HK3, HO_7, HB⟩ := hrel
                  cases gk with
                  | zero => exact absurd HA.out (by simp [vesperlaw12_TapeNear.l0])
                  | succ k3 =>
                    have H := HA.out
                    clear HA
                    simp only [vesperlaw12_TapeNear.l0] at H
                    by_cases c16 : x9_3 < (x7_3.length : Int)
                    · rw [if_pos c16] at H
                      have c16b0 : decide (x9_3 < (x7_3.length : Int)) = true := decide_eq_true c16
                      clear c16
                      (first | rw [c16b0] | (simp only [i64_w, i32_w]; rw [c16b0]) | skip)
                      by_cases c17 : x9_3 < (l1.length : Int)
                      · rw [if_pos c17] at H
                        have c17b0 : decide (x9_3 < (l1.length : Int)) = true := decide_eq_true c17
                        clear c17
                        by_cases c18 : 0 ≤ x9_3
                        · rw [if_pos c18] at H
                          have c18b0 : decide (0 ≤ x9_3) = true := decide_eq_true c18
                          clear c18
                          obtain ⟨y190, hy190⟩ : ∃ y_ : List (S37), y_ = (x7_3.set (x9_3 : Int).toNat (⟨wrap64 ((wrap64 (((rd_T37 x7_3 x9_3).f0) + (Go.bits .and .i64 (rd l1 x9_3) 31))) - 16), (rd_T37 x7_3 x9_3).f1⟩ : S37)) := ⟨_, rfl⟩
                          replace H : (vesperlaw12_TapeNear.l0 k3 l0 l1 a2 (y190.set (x9_3 : Int).toNat (⟨(rd_T37 y190 x9_3).f0, wrap64 (((rd_T37 y190 x9_3).f1) - (Go.bits .and .i64 (rd l1 x9_3) 15))⟩ : S37)) (wrap64 (x9_3 + 1))) = some r := by first | (rw [hy190]; with_reducible exact H) | (have H2_ := (Option.bind_some _ _).symm.trans H; rw [hy190]; with_reducible exact H2_) | (have H2_ := (Option.bind_some _ _).symm.trans H; with_reducible exact H2_) | with_reducible exact H | (rw [hy190]; exact H) | exact H
                          have Ny190 := Aside0.mk hy190
                          clear hy190
                          obtain ⟨y193, hy193⟩ : ∃ y_ : List (S37), y_ = (y190.set (x9_3 : Int).toNat (⟨(rd_T37 y190 x9_3).f0, wrap64 (((rd_T37 y190 x9_3).f1) - (Go.bits .and .i64 (rd l1 x9_3) 15))⟩ : S37)) := ⟨_, rfl⟩
                          replace H : (vesperlaw12_TapeNear.l0 k3 l0 l1 a2 y193 (wrap64 (x9_3 + 1))) = some r := by first | (rw [hy193]; with_reducible exact H) | (have H2_ := (Option.bind_some _ _).symm.trans H; rw [hy193]; with_reducible exact H2_) | (have H2_ := (Option.bind_some _ _).symm.trans H; with_reducible exact H2_) | with_reducible exact H | (rw [hy193]; exact H) | exact H
                          have Ny193 := Aside0.mk hy193
                          clear hy193
                          have H' := Aside0.mk H
                          clear H
                          obtain ⟨Ao21, co21, eo21⟩ := Kd.R_slice HO_7.out
                          subst eo21
                          try go_wp2
                          have n0_ := Aside0.mk (Kd.R_drew HO_7.out)
                          have n1_ := Aside0.mk (below_drew1 HB.out)
                          clear HO_7
                          clear HB
                          have HO_7 := n0_
                          have HB := n1_
                          clear n0_ n1_
                          have p188 : 0 ≤ (x9_3 : Int) := of_decide_eq_true (by first | (with_reducible assumption) | assumption)
                          have q188 : x9_3 < (x7_3.length : Int) := of_decide_eq_true (by first | (with_reducible assumption) | assumption)
                          obtain ⟨ad188, e188, hx188_0, hx188_1⟩ := at_T37 (Kd.R_reads' HO_7.out).2.2 x9_3 p188 q188
                          cases e188
                          replace p188 := eq_true p188
                          replace q188 := eq_true q188
                          have p189 : 0 ≤ (x9_3 : Int) := of_decide_eq_true (by first | (with_reducible assumption) | assumption)
                          have q189 : x9_3 < (l1.length : Int) := of_decide_eq_true (by first | (with_reducible assumption) | assumption)
                          obtain ⟨ad189, e189, hx189_0⟩ := Kd.at_int HR1.out x9_3 p189 q189
                          have hw189_0 := hx189_0
                          cases e189
                          replace hx189_0 := (HB.out.cell (World.block_lt_of_cell? w _ hx189_0)).trans hx189_0
                          replace p189 := eq_true p189
                          replace q189 := eq_true q189
                          have p19 : 0 ≤ (x9_3 : Int) := of_decide_eq_true (by first | (with_reducible assumption) | assumption)
                          have q19 : (x9_3 : Int) < ((x7_3.length : Int) : Int) := of_decide_eq_true (by first | (with_reducible assumption) | assumption)
                          obtain ⟨go19, co19, eo19, gb19, gl19, cl19, HG19⟩ := Kd.R_form HO_7.out (by omega)
                          (first | cases eo19 | (injection eo19 with ea_ en_ ec_; (first | subst ea_ | (injection ea_ with ea_; subst ea_)); subst ec_; clear en_))
                          have GB19 := Aside0.mk gb19
                          have GG19 := Aside0.mk HG19
                          clear gb19 gl19 HG19
                          (first | simp only [add_plain] at hx188_0 | skip)
                          (first | simp only [add_plain] at hx188_1 | skip)
                          obtain ⟨ce19, hcl19, hM19, hcc19, hfr19⟩ := Kd.R_elem HO_7.out z37 (x9_3 : Int) p19 q19
                          obtain rfl := k37_openM hM19
                          have hx19_0 : World.cell? _ ⟨go19, (x9_3 : Int).toNat * 2, none⟩ = some (.int .i64 ((rd_T37 x7_3 x9_3).f0)) := hcc19 0 _ rfl
                          have hx19_1 : World.cell? _ ⟨go19, (x9_3 : Int).toNat * 2 + 1, none⟩ = some (.int .i64 ((rd_T37 x7_3 x9_3).f1)) := hcc19 1 _ rfl
                          have hf19_0 : World.frozen? _ ⟨go19, (x9_3 : Int).toNat * 2, none⟩ = false := hfr19 0
                          have hf19_1 : World.frozen? _ ⟨go19, (x9_3 : Int).toNat * 2 + 1, none⟩ = false := hfr19 1
                          clear hcl19 hcc19 hfr19 hM19
                          replace p19 := eq_true p19
                          replace q19 := eq_true q19
                          obtain ⟨ce23, hcl23, hM23, hcc23, hfr23⟩ := Kd.R_elem HO_7.out z37 (x9_3 : Int) (of_decide_eq_true (by first | (with_reducible assumption) | assumption)) (by have h_ : (x9_3 : Int) < ((x7_3.length : Int) : Int) := of_decide_eq_true (by first | (with_reducible assumption) | assumption); first | exact h_ | (have e_ := (Kd.R_reads' HO_7.out).1; omega) | simpa using h_)
                          obtain rfl := k37_openM hM23
                          have HP23 := (Kd.R_seg HO_7.out (x9_3 : Int) (of_decide_eq_true (by first | (with_reducible assumption) | assumption)) (by have h_ : (x9_3 : Int) < ((x7_3.length : Int) : Int) := of_decide_eq_true (by first | (with_reducible assumption) | assumption); first | exact h_ | (have e_ := (Kd.R_reads' HO_7.out).1; omega) | simpa using h_) (seg := [.int .i64 (wrap64 ((wrap64 (((rd_T37 x7_3 x9_3).f0) + (Go.bits .and .i64 (rd l1 x9_3) 31))) - 16))]) (j := 0) hcl23 hcc23 (show 1 ≤ 2 from by decide) (x' := (⟨wrap64 ((wrap64 (((rd_T37 x7_3 x9_3).f0) + (Go.bits .and .i64 (rd l1 x9_3) 31))) - 16), (rd_T37 x7_3 x9_3).f1⟩ : S37)) (k37_mkM _ _ _ (⟨wrap64 ((wrap64 (((rd_T37 x7_3 x9_3).f0) + (Go.bits .and .i64 (rd l1 x9_3) 31))) - 16), (rd_T37 x7_3 x9_3).f1⟩ : S37) ) (fun _ hk => hk)).1
                          rw [← Ny190.out] at HP23
                          have HQ23 := Aside0.mk HP23
                          clear hcl23 hcc23 hfr23 hM23 HP23
                          refine start_ (n := 17) (S := fun w' => w'.cell? ⟨go19, ((x9_3).toNat * 2), none⟩ = some (.int .i64 ((rd_T37 x7_3 x9_3).f0)) ∧ w'.cell? ⟨go19, ((x9_3).toNat * 2) + 1, none⟩ = some (.int .i64 ((rd_T37 x7_3 x9_3).f1)) ∧ w'.cell? (ad189.add (x9_3).toNat) = some (.int .i64 (rd l1 x9_3))) (ds := [16]) #[false, false, false, false, false, false, false, false, false, false, false, false, false, false, false, false, false] (by kernel_rfl) rfl rfl ⟨hx188_0, hx188_1, ((HB.out.cell (World.block_lt_of_cell? w _ hw189_0)).trans hw189_0)⟩ (fun hHeld => ?_); refine with_tabW vesperlaw12_TapeNear.tab9 vesperlaw12_TapeNear.bits9 (fun HT_ HW_ => ?_)
                          generalize wr.drew = w22 at HO_7 HB GG19 HQ23 hf19_0 hf19_1 hx188_0 hx188_1 hx189_0 hx19_0 hx19_1 hHeld ⊢
                          refine pure_ (i := 0) (N := some 53) (v := ?_) (a' := ?_) #[true, false, false, false, false, false, false, false, false, false, false, false, false, false, false, false, false] rfl rfl (any_of HT_.out (by kernel_rfl)) (fun _ _ _ h => h) (Or.inl ⟨by rfl, ?_⟩) ?_ ?_
                          rotate_left
                          · intro w'
                            go_simp
                            with_reducible rfl
                          rotate_left
                          · simp only [Act.put, List.setIfInBounds_toArray, List.set_cons_zero, List.set_cons_succ, i64_w, i32_w]
                            rfl
                          refine pure_ (i := 1) (N := some 54) (v := ?_) (a' := ?_) #[true, true, false, false, false, false, false, false, false, false, false, false, false, false, false, false, false] rfl rfl (any_of HT_.out (by kernel_rfl)) (fun _ _ _ h => h) (Or.inl ⟨by rfl, ?_⟩) ?_ ?_
                          rotate_left
                          · intro w'
                            go_simp
                            with_reducible rfl
                          rotate_left
                          · simp only [Act.put, List.setIfInBounds_toArray, List.set_cons_zero, List.set_cons_succ, i64_w, i32_w]
                            rfl
                          refine pure_ (i := 2) (N := some 55) (v := ?_) (a' := ?_) #[true, true, true, false, false, false, false, false, false, false, false, false, false, false, false, false, false] rfl rfl (any_of HT_.out (by kernel_rfl)) (fun _ _ _ h => h) (Or.inl ⟨by rfl, ?_⟩) ?_ ?_
                          rotate_left
                          · intro w'
                            go_simp
                            with_reducible rfl
                          rotate_left
                          · simp only [Act.put, List.setIfInBounds_toArray, List.set_cons_zero, List.set_cons_succ, i64_w, i32_w]
                            rfl
                          refine pure_ (i := 3) (N := some 56) (v := ?_) (a' := ?_) #[true, true, true, true, false, false, false, false, false, false, false, false, false, false, false, false, false] rfl rfl (any_of HT_.out (by kernel_rfl)) (fun _ _ _ h => h) (Or.inl ⟨by rfl, ?_⟩) ?_ ?_
                          rotate_left
                          · intro w'
                            go_simp
                            with_reducible rfl
                          rotate_left
                          · simp only [Act.put, List.setIfInBounds_toArray, List.set_cons_zero, List.set_cons_succ, i64_w, i32_w]
                            rfl
                          refine pure_ (i := 4) (N := some 57) (v := ?_) (a' := ?_) #[true, true, true, true, true, false, false, false, false, false, false, false, false, false, false, false, false] rfl rfl (any_of HT_.out (by kernel_rfl)) (fun _ _ _ h => h) (Or.inl ⟨by rfl, ?_⟩) ?_ ?_
                          rotate_left
                          · intro w'
                            go_simp
                            with_reducible rfl
                          rotate_left
                          · simp only [Act.put, List.setIfInBounds_toArray, List.set_cons_zero, List.set_cons_succ, i64_w, i32_w]
                            rfl
                          refine pure_ (i := 5) (N := some 58) (v := ?_) (a' := ?_) #[true, true, true, true, true, true, false, false, false, false, false, false, false, false, false, false, false] rfl rfl (any_of HT_.out (by kernel_rfl)) (fun _ _ _ h => h) (Or.inl ⟨by rfl, ?_⟩) ?_ ?_
                          rotate_left
                          · intro w'
                            go_simp
                            with_reducible rfl
                          rotate_left
                          · simp only [Act.put, List.setIfInBounds_toArray, List.set_cons_zero, List.set_cons_succ, i64_w, i32_w]
                            rfl
                          refine pure_ (i := 7) (N := some 60) (v := ?_) (a' := ?_) #[true, true, true, true, true, true, false, true, false, false, false, false, false, false, false, false, false] rfl rfl (any_of HT_.out (by kernel_rfl)) (fun _ _ _ h => h) (Or.inl ⟨by rfl, ?_⟩) ?_ ?_
                          rotate_left
                          · intro w'
                            go_simp
                            with_reducible rfl
                          rotate_left
                          · simp only [Act.put, List.setIfInBounds_toArray, List.set_cons_zero, List.set_cons_succ, i64_w, i32_w]
                            rfl
                          refine pure_ (i := 8) (N := some 61) (v := ?_) (a' := ?_) #[true, true, true, true, true, true, false, true, true, false, false, false, false, false, false, false, false] rfl rfl (any_of HT_.out (by kernel_rfl)) (fun _ _ _ h => h) (Or.inl ⟨by rfl, ?_⟩) ?_ ?_
                          rotate_left
                          · intro w'
                            go_simp
                            with_reducible rfl
                          rotate_left
                          · simp only [Act.put, List.setIfInBounds_toArray, List.set_cons_zero, List.set_cons_succ, i64_w, i32_w]
                            rfl
                          refine pure_ (i := 9) (N := some 62) (v := ?_) (a' := ?_) #[true, true, true, true, true, true, false, true, true, true, false, false, false, false, false, false, false] rfl rfl (any_of HT_.out (by kernel_rfl)) (fun _ _ _ h => h) (Or.inl ⟨by rfl, ?_⟩) ?_ ?_
                          rotate_left
                          · intro w'
                            go_simp
                            with_reducible rfl
                          rotate_left
                          · simp only [Act.put, List.setIfInBounds_toArray, List.set_cons_zero, List.set_cons_succ, i64_w, i32_w]
                            rfl
                          refine take_ (i := 6) (N := some 59) (v := ?_) (a' := ?_) #[true, true, true, true, true, true, true, true, true, true, false, false, false, false, false, false, false] rfl rfl (take_ofW HT_.out HW_.out (by kernel_rfl)) (fun _ _ _ h => h) (Or.inl ⟨by rfl, ?_⟩) hHeld ?_ ?_
                          rotate_left
                          · rintro w' ⟨s0, s1, s2⟩
                            go_simp
                            with_reducible rfl
                          rotate_left
                          · simp only [Act.put, List.setIfInBounds_toArray, List.set_cons_zero, List.set_cons_succ, i64_w, i32_w]
                            rfl
                          refine take_ (i := 10) (N := some 63) (v := ?_) (a' := ?_) #[true, true, true, true, true, true, true, true, true, true, true, false, false, false, false, false, false] rfl rfl (take_ofW HT_.out HW_.out (by kernel_rfl)) (fun _ _ _ h => h) (Or.inl ⟨by rfl, ?_⟩) hHeld ?_ ?_
                          rotate_left
                          · rintro w' ⟨s0, s1, s2⟩
                            go_simp
                            with_reducible rfl
                          rotate_left
                          · simp only [Act.put, List.setIfInBounds_toArray, List.set_cons_zero, List.set_cons_succ, i64_w, i32_w]
                            rfl
                          refine pure_ (i := 11) (N := some 64) (v := ?_) (a' := ?_) #[true, true, true, true, true, true, true, true, true, true, true, true, false, false, false, false, false] rfl rfl (any_of HT_.out (by kernel_rfl)) (fun _ _ _ h => h) (Or.inl ⟨by rfl, ?_⟩) ?_ ?_
                          rotate_left
                          · intro w'
                            go_simp
                            with_reducible rfl
                          rotate_left
                          · simp only [Act.put, List.setIfInBounds_toArray, List.set_cons_zero, List.set_cons_succ, i64_w, i32_w]
                            rfl
                          refine pure_ (i := 12) (N := some 65) (v := ?_) (a' := ?_) #[true, true, true, true, true, true, true, true, true, true, true, true, true, false, false, false, false] rfl rfl (any_of HT_.out (by kernel_rfl)) (fun _ _ _ h => h) (Or.inl ⟨by rfl, ?_⟩) ?_ ?_
                          rotate_left
                          · intro w'
                            go_simp
                            with_reducible rfl
                          rotate_left
                          · simp only [Act.put, List.setIfInBounds_toArray, List.set_cons_zero, List.set_cons_succ, i64_w, i32_w]
                            rfl
                          refine pure_ (i := 13) (N := some 66) (v := ?_) (a' := ?_) #[true, true, true, true, true, true, true, true, true, true, true, true, true, true, false, false, false] rfl rfl (any_of HT_.out (by kernel_rfl)) (fun _ _ _ h => h) (Or.inl ⟨by rfl, ?_⟩) ?_ ?_
                          rotate_left
                          · intro w'
                            go_simp
                            with_reducible rfl
                          rotate_left
                          · simp only [Act.put, List.setIfInBounds_toArray, List.set_cons_zero, List.set_cons_succ, i64_w, i32_w]
                            rfl
                          refine pure_ (i := 14) (N := some 67) (v := ?_) (a' := ?_) #[true, true, true, true, true, true, true, true, true, true, true, true, true, true, true, false, false] rfl rfl (any_of HT_.out (by kernel_rfl)) (fun _ _ _ h => h) (Or.inl ⟨by rfl, ?_⟩) ?_ ?_
                          rotate_left
                          · intro w'
                            go_simp
                            with_reducible rfl
                          rotate_left
                          · simp only [Act.put, List.setIfInBounds_toArray, List.set_cons_zero, List.set_cons_succ, i64_w, i32_w]
                            rfl
                          refine pure_ (i := 15) (N := some 68) (v := ?_) (a' := ?_) #[true, true, true, true, true, true, true, true, true, true, true, true, true, true, true, true, false] rfl rfl (any_of HT_.out (by kernel_rfl)) (fun _ _ _ h => h) (Or.inl ⟨by rfl, ?_⟩) ?_ ?_
                          rotate_left
                          · intro w'
                            go_simp
                            with_reducible rfl
                          rotate_left
                          · simp only [Act.put, List.setIfInBounds_toArray, List.set_cons_zero, List.set_cons_succ, i64_w, i32_w]
                            rfl
                          refine last_ (i := 16) (N := none) #[true, true, true, true, true, true, true, true, true, true, true, true, true, true, true, true, true] rfl rfl (one_of HT_.out (by kernel_rfl)) (by decide) (fun K hK => ?_)
                          refine skip_ (w1 := ?_) (by rfl) rfl ?_ ?_
                          rotate_left
                          · go_simp
                            rfl
                          refine hK.out _ _ ?_
                          clear hK K
                          refine done_ (done_of HT_.out (by kernel_rfl)) ?_
                          try go_wp2
                          have n0_ : Aside0 (Kd.R k37 37 (w22.setCell ⟨go19, (x9_3 : Int).toNat * 2, none⟩ (.int .i64 (wrap64 ((wrap64 (((rd_T37 x7_3 x9_3).f0) + (Go.bits .and .i64 (rd l1 x9_3) 31))) - 16)))) w.heap.size (fun _ => True) (.slice (some ⟨go19, 0, none⟩) x7_3.length co21) y190) := ⟨by (with_reducible repeat (first | apply Kd.R_alloc | apply Kd.R_drewN | apply Kd.R_drew)); exact HQ23.out⟩
                          have n1_ : Aside0 (Below w.heap.size w (w22.setCell ⟨go19, (x9_3 : Int).toNat * 2, none⟩ (.int .i64 (wrap64 ((wrap64 (((rd_T37 x7_3 x9_3).f0) + (Go.bits .and .i64 (rd l1 x9_3) 31))) - 16))))) := ⟨by repeat (first | (with_reducible first | exact HB.out | apply below_alloc | apply pw_below_drewN | apply below_drew1 | refine below_set ?_ GB19.out) | exact HB.out)⟩
                          (try clear HO_7)
                          (try clear HB)
                          generalize (w22.setCell ⟨go19, (x9_3 : Int).toNat * 2, none⟩ (.int .i64 (wrap64 ((wrap64 (((rd_T37 x7_3 x9_3).f0) + (Go.bits .and .i64 (rd l1 x9_3) 31))) - 16)))) = w24 at n0_ n1_ ⊢
                          have HO_7 := n0_
                          have HB := n1_
                          clear n0_ n1_
                          have n0_ := Aside0.mk (Kd.R_drew HO_7.out)
                          have n1_ := Aside0.mk (below_drew1 HB.out)
                          clear HO_7
                          clear HB
                          have HO_7 := n0_
                          have HB := n1_
                          clear n0_ n1_
                          have p191 : 0 ≤ (x9_3 : Int) := of_decide_eq_true (by first | (with_reducible assumption) | assumption)
                          have q191 : x9_3 < (y190.length : Int) := (by have h_ : (x9_3 : Int) < ((x7_3.length : Int) : Int) := of_decide_eq_true (by first | (with_reducible assumption) | assumption); first | (have e_ := (Kd.R_reads' HO_7.out).1; omega) | simpa only [Ny190.out, List.length_set] using h_)
                          have ql191 : ((x9_3 : Int) < ((x7_3.length : Int) : Int)) = True := eq_true (of_decide_eq_true (by first | (with_reducible assumption) | assumption))
                          obtain ⟨ad191, e191, hx191_0, hx191_1⟩ := at_T37 (Kd.R_reads' HO_7.out).2.2 x9_3 p191 q191
                          obtain rfl : (⟨go19, 0, none⟩ : Addr) = ad191 := (by injection e191)
                          (first | simp only [add_plain] at hx191_0 | simp only [add_at] at hx191_0 | simp only [Addr.add, Nat.zero_add] at hx191_0 | skip)
                          (first | simp only [add_plain] at hx191_1 | simp only [add_at] at hx191_1 | simp only [Addr.add, Nat.zero_add] at hx191_1 | skip)
                          replace p191 := eq_true p191
                          replace q191 := eq_true q191
                          have p192 : 0 ≤ (x9_3 : Int) := of_decide_eq_true (by first | (with_reducible assumption) | assumption)
                          have q192 : x9_3 < (l1.length : Int) := of_decide_eq_true (by first | (with_reducible assumption) | assumption)
                          obtain ⟨ad192, e192, hx192_0⟩ := Kd.at_int HR1.out x9_3 p192 q192
                          have hw192_0 := hx192_0
                          obtain rfl : ad189 = ad192 := (by injection e192)
                          replace hx192_0 := (HB.out.cell (World.block_lt_of_cell? w _ hx192_0)).trans hx192_0
                          replace p192 := eq_true p192
                          replace q192 := eq_true q192
                          have p20 : 0 ≤ (x9_3 : Int) := of_decide_eq_true (by first | (with_reducible assumption) | assumption)
                          have q20 : (x9_3 : Int) < ((x7_3.length : Int) : Int) := of_decide_eq_true (by first | (with_reducible assumption) | assumption)
                          obtain ⟨ce20, hcl20, hM20, hcc20, hfr20⟩ := Kd.R_elem HO_7.out z37 (x9_3 : Int) p20 q20
                          obtain rfl := k37_openM hM20
                          have hx20_0 : World.cell? _ ⟨go19, (x9_3 : Int).toNat * 2, none⟩ = some (.int .i64 ((rd_T37 y190 x9_3).f0)) := hcc20 0 _ rfl
                          have hx20_1 : World.cell? _ ⟨go19, (x9_3 : Int).toNat * 2 + 1, none⟩ = some (.int .i64 ((rd_T37 y190 x9_3).f1)) := hcc20 1 _ rfl
                          have hf20_0 : World.frozen? _ ⟨go19, (x9_3 : Int).toNat * 2, none⟩ = false := hfr20 0
                          have hf20_1 : World.frozen? _ ⟨go19, (x9_3 : Int).toNat * 2 + 1, none⟩ = false := hfr20 1
                          clear hcl20 hcc20 hfr20 hM20
                          replace p20 := eq_true p20
                          replace q20 := eq_true q20
                          obtain ⟨ce26, hcl26, hM26, hcc26, hfr26⟩ := Kd.R_elem HO_7.out z37 (x9_3 : Int) (of_decide_eq_true (by first | (with_reducible assumption) | assumption)) (by have h_ : (x9_3 : Int) < ((x7_3.length : Int) : Int) := of_decide_eq_true (by first | (with_reducible assumption) | assumption); first | exact h_ | (have e_ := (Kd.R_reads' HO_7.out).1; omega) | simpa using h_)
                          obtain rfl := k37_openM hM26
                          have HP26 := (Kd.R_seg HO_7.out (x9_3 : Int) (of_decide_eq_true (by first | (with_reducible assumption) | assumption)) (by have h_ : (x9_3 : Int) < ((x7_3.length : Int) : Int) := of_decide_eq_true (by first | (with_reducible assumption) | assumption); first | exact h_ | (have e_ := (Kd.R_reads' HO_7.out).1; omega) | simpa using h_) (seg := [.int .i64 (wrap64 (((rd_T37 y190 x9_3).f1) - (Go.bits .and .i64 (rd l1 x9_3) 15)))]) (j := 1) hcl26 hcc26 (show 2 ≤ 2 from by decide) (x' := (⟨(rd_T37 y190 x9_3).f0, wrap64 (((rd_T37 y190 x9_3).f1) - (Go.bits .and .i64 (rd l1 x9_3) 15))⟩ : S37)) (k37_mkM _ _ _ (⟨(rd_T37 y190 x9_3).f0, wrap64 (((rd_T37 y190 x9_3).f1) - (Go.bits .and .i64 (rd l1 x9_3) 15))⟩ : S37) ) (fun _ hk => hk)).1
                          rw [← Ny193.out] at HP26
                          have HQ26 := Aside0.mk HP26
                          clear hcl26 hcc26 hfr26 hM26 HP26
                          refine start_ (n := 16) (S := fun w' => w'.cell? ⟨go19, (x9_3).toNat * 2, none⟩ = some (.int .i64 ((rd_T37 y190 x9_3).f0)) ∧ w'.cell? ⟨go19, (x9_3).toNat * 2 + 1, none⟩ = some (.int .i64 ((rd_T37 y190 x9_3).f1)) ∧ w'.cell? (ad189.add (x9_3).toNat) = some (.int .i64 (rd l1 x9_3))) (ds := [15]) #[false, false, false, false, false, false, false, false, false, false, false, false, false, false, false, false] (by kernel_rfl) rfl rfl ⟨hx191_0, hx191_1, ((HB.out.cell (World.block_lt_of_cell? w _ hw192_0)).trans hw192_0)⟩ (fun hHeld => ?_); refine with_tabW vesperlaw12_TapeNear.tab10 vesperlaw12_TapeNear.bits10 (fun HT_ HW_ => ?_)
                          generalize w24.drew = w25 at HO_7 HB HQ23 HQ26 hf20_0 hf20_1 hx191_0 hx191_1 hx192_0 hx20_0 hx20_1 hHeld ⊢
                          refine pure_ (i := 0) (N := some 69) (v := ?_) (a' := ?_) #[true, false, false, false, false, false, false, false, false, false, false, false, false, false, false, false] rfl rfl (any_of HT_.out (by kernel_rfl)) (fun _ _ _ h => h) (Or.inl ⟨by rfl, ?_⟩) ?_ ?_
                          rotate_left
                          · intro w'
                            go_simp
                            with_reducible rfl
                          rotate_left
                          · simp only [Act.put, List.setIfInBounds_toArray, List.set_cons_zero, List.set_cons_succ, i64_w, i32_w]
                            rfl
                          refine pure_ (i := 1) (N := some 70) (v := ?_) (a' := ?_) #[true, true, false, false, false, false, false, false, false, false, false, false, false, false, false, false] rfl rfl (any_of HT_.out (by kernel_rfl)) (fun _ _ _ h => h) (Or.inl ⟨by rfl, ?_⟩) ?_ ?_
                          rotate_left
                          · intro w'
                            go_simp
                            with_reducible rfl
                          rotate_left
                          · simp only [Act.put, List.setIfInBounds_toArray, List.set_cons_zero, List.set_cons_succ, i64_w, i32_w]
                            rfl
                          refine pure_ (i := 2) (N := some 71) (v := ?_) (a' := ?_) #[true, true, true, false, false, false, false, false, false, false, false, false, false, false, false, false] rfl rfl (any_of HT_.out (by kernel_rfl)) (fun _ _ _ h => h) (Or.inl ⟨by rfl, ?_⟩) ?_ ?_
                          rotate_left
                          · intro w'
                            go_simp
                            with_reducible rfl
                          rotate_left
                          · simp only [Act.put, List.setIfInBounds_toArray, List.set_cons_zero, List.set_cons_succ, i64_w, i32_w]
                            rfl
                          refine pure_ (i := 3) (N := some 72) (v := ?_) (a' := ?_) #[true, true, true, true, false, false, false, false, false, false, false, false, false, false, false, false] rfl rfl (any_of HT_.out (by kernel_rfl)) (fun _ _ _ h => h) (Or.inl ⟨by rfl, ?_⟩) ?_ ?_
                          rotate_left
                          · intro w'
                            go_simp
                            with_reducible rfl
                          rotate_left
                          · simp only [Act.put, List.setIfInBounds_toArray, List.set_cons_zero, List.set_cons_succ, i64_w, i32_w]
                            rfl
                          refine pure_ (i := 4) (N := some 73) (v := ?_) (a' := ?_) #[true, true, true, true, true, false, false, false, false, false, false, false, false, false, false, false] rfl rfl (any_of HT_.out (by kernel_rfl)) (fun _ _ _ h => h) (Or.inl ⟨by rfl, ?_⟩) ?_ ?_
                          rotate_left
                          · intro w'
                            go_simp
                            with_reducible rfl
                          rotate_left
                          · simp only [Act.put, List.setIfInBounds_toArray, List.set_cons_zero, List.set_cons_succ, i64_w, i32_w]
                            rfl
                          refine pure_ (i := 5) (N := some 74) (v := ?_) (a' := ?_) #[true, true, true, true, true, true, false, false, false, false, false, false, false, false, false, false] rfl rfl (any_of HT_.out (by kernel_rfl)) (fun _ _ _ h => h) (Or.inl ⟨by rfl, ?_⟩) ?_ ?_
                          rotate_left
                          · intro w'
                            go_simp
                            with_reducible rfl
                          rotate_left
                          · simp only [Act.put, List.setIfInBounds_toArray, List.set_cons_zero, List.set_cons_succ, i64_w, i32_w]
                            rfl
                          refine pure_ (i := 7) (N := some 76) (v := ?_) (a' := ?_) #[true, true, true, true, true, true, false, true, false, false, false, false, false, false, false, false] rfl rfl (any_of HT_.out (by kernel_rfl)) (fun _ _ _ h => h) (Or.inl ⟨by rfl, ?_⟩) ?_ ?_
                          rotate_left
                          · intro w'
                            go_simp
                            with_reducible rfl
                          rotate_left
                          · simp only [Act.put, List.setIfInBounds_toArray, List.set_cons_zero, List.set_cons_succ, i64_w, i32_w]
                            rfl
                          refine pure_ (i := 8) (N := some 77) (v := ?_) (a' := ?_) #[true, true, true, true, true, true, false, true, true, false, false, false, false, false, false, false] rfl rfl (any_of HT_.out (by kernel_rfl)) (fun _ _ _ h => h) (Or.inl ⟨by rfl, ?_⟩) ?_ ?_
                          rotate_left
                          · intro w'
                            go_simp
                            with_reducible rfl
                          rotate_left
                          · simp only [Act.put, List.setIfInBounds_toArray, List.set_cons_zero, List.set_cons_succ, i64_w, i32_w]
                            rfl
                          refine pure_ (i := 9) (N := some 78) (v := ?_) (a' := ?_) #[true, true, true, true, true, true, false, true, true, true, false, false, false, false, false, false] rfl rfl (any_of HT_.out (by kernel_rfl)) (fun _ _ _ h => h) (Or.inl ⟨by rfl, ?_⟩) ?_ ?_
                          rotate_left
                          · intro w'
                            go_simp
                            with_reducible rfl
                          rotate_left
                          · simp only [Act.put, List.setIfInBounds_toArray, List.set_cons_zero, List.set_cons_succ, i64_w, i32_w]
                            rfl
                          refine take_ (i := 6) (N := some 75) (v := ?_) (a' := ?_) #[true, true, true, true, true, true, true, true, true, true, false, false, false, false, false, false] rfl rfl (take_ofW HT_.out HW_.out (by kernel_rfl)) (fun _ _ _ h => h) (Or.inl ⟨by rfl, ?_⟩) hHeld ?_ ?_
                          rotate_left
                          · rintro w' ⟨s0, s1, s2⟩
                            go_simp
                            with_reducible rfl
                          rotate_left
                          · simp only [Act.put, List.setIfInBounds_toArray, List.set_cons_zero, List.set_cons_succ, i64_w, i32_w]
                            rfl
                          refine take_ (i := 10) (N := some 79) (v := ?_) (a' := ?_) #[true, true, true, true, true, true, true, true, true, true, true, false, false, false, false, false] rfl rfl (take_ofW HT_.out HW_.out (by kernel_rfl)) (fun _ _ _ h => h) (Or.inl ⟨by rfl, ?_⟩) hHeld ?_ ?_
                          rotate_left
                          · rintro w' ⟨s0, s1, s2⟩
                            go_simp
                            with_reducible rfl
                          rotate_left
                          · simp only [Act.put, List.setIfInBounds_toArray, List.set_cons_zero, List.set_cons_succ, i64_w, i32_w]
                            rfl
                          refine pure_ (i := 11) (N := some 80) (v := ?_) (a' := ?_) #[true, true, true, true, true, true, true, true, true, true, true, true, false, false, false, false] rfl rfl (any_of HT_.out (by kernel_rfl)) (fun _ _ _ h => h) (Or.inl ⟨by rfl, ?_⟩) ?_ ?_
                          rotate_left
                          · intro w'
                            go_simp
                            with_reducible rfl
                          rotate_left
                          · simp only [Act.put, List.setIfInBounds_toArray, List.set_cons_zero, List.set_cons_succ, i64_w, i32_w]
                            rfl
                          refine pure_ (i := 12) (N := some 81) (v := ?_) (a' := ?_) #[true, true, true, true, true, true, true, true, true, true, true, true, true, false, false, false] rfl rfl (any_of HT_.out (by kernel_rfl)) (fun _ _ _ h => h) (Or.inl ⟨by rfl, ?_⟩) ?_ ?_
                          rotate_left
                          · intro w'
                            go_simp
                            with_reducible rfl
                          rotate_left
                          · simp only [Act.put, List.setIfInBounds_toArray, List.set_cons_zero, List.set_cons_succ, i64_w, i32_w]
                            rfl
                          refine pure_ (i := 13) (N := some 82) (v := ?_) (a' := ?_) #[true, true, true, true, true, true, true, true, true, true, true, true, true, true, false, false] rfl rfl (any_of HT_.out (by kernel_rfl)) (fun _ _ _ h => h) (Or.inl ⟨by rfl, ?_⟩) ?_ ?_
                          rotate_left
                          · intro w'
                            go_simp
                            with_reducible rfl
                          rotate_left
                          · simp only [Act.put, List.setIfInBounds_toArray, List.set_cons_zero, List.set_cons_succ, i64_w, i32_w]
                            rfl
                          refine pure_ (i := 14) (N := some 83) (v := ?_) (a' := ?_) #[true, true, true, true, true, true, true, true, true, true, true, true, true, true, true, false] rfl rfl (any_of HT_.out (by kernel_rfl)) (fun _ _ _ h => h) (Or.inl ⟨by rfl, ?_⟩) ?_ ?_
                          rotate_left
                          · intro w'
                            go_simp
                            with_reducible rfl
                          rotate_left
                          · simp only [Act.put, List.setIfInBounds_toArray, List.set_cons_zero, List.set_cons_succ, i64_w, i32_w]
                            rfl
                          refine last_ (i := 15) (N := none) #[true, true, true, true, true, true, true, true, true, true, true, true, true, true, true, true] rfl rfl (one_of HT_.out (by kernel_rfl)) (by decide) (fun K hK => ?_)
                          refine skip_ (w1 := ?_) (by rfl) rfl ?_ ?_
                          rotate_left
                          · go_simp
                            rfl
                          refine hK.out _ _ ?_
                          clear hK K
                          refine done_ (done_of HT_.out (by kernel_rfl)) ?_
                          try go_wp2
                          go_roundg k3
                          case measure => have := HJ3.out; have := HJ9.out; have := HK3.out; omega
                          case rel => exact ⟨(y193), (wrap64 (x9_3 + 1)), (by first | rfl | (simp; done) | (simp [*]; done)), H', ⟨by have := HJ3.out; have := HJ9.out; have := HK3.out; omega⟩, ⟨by (with_reducible repeat (first | apply Kd.R_alloc | apply Kd.R_drewN | apply Kd.R_drew)); exact HQ26.out⟩, ⟨by repeat (first | (with_reducible first | exact HB.out | apply below_alloc | apply pw_below_drewN | apply below_drew1 | refine below_set ?_ GB19.out) | exact HB.out)⟩⟩
                        · rw [if_neg c18] at H
                          exact absurd H (by simp)
                      · rw [if_neg c17] at H
                        have c17b0 : decide (x9_3 < (l1.length : Int)) = false := decide_eq_false c17
                        clear c17
                        have H' := Aside0.mk H
                        clear H
                        obtain ⟨Ao27, co27, eo27⟩ := Kd.R_slice HO_7.out
                        subst eo27
                        go_wp2
                        go_meet
                        case rel => exact ⟨_, (x7_3), H', ⟨by have := HJ3.out; have := HJ9.out; have := HK3.out; first | omega | exact Nat.le_refl _⟩, ⟨by (with_reducible repeat (first | apply Kd.R_alloc | apply Kd.R_drewN | apply Kd.R_drew)); exact HO_7.out⟩, ⟨by repeat (first | (with_reducible first | exact HB.out | apply below_alloc | apply pw_below_drewN | apply below_drew1) | exact HB.out)⟩⟩
                    · rw [if_neg c16] at H
                      have c16b0 : decide (x9_3 < (x7_3.length : Int)) = false := decide_eq_false c16
                      clear c16
                      (first | rw [c16b0] | (simp only [i64_w, i32_w]; rw [c16b0]) | skip)
                      have H' := Aside0.mk H
                      clear H
                      obtain ⟨Ao28, co28, eo28⟩ := Kd.R_slice HO_7.out
                      subst eo28
                      go_wp2
                      go_meet
                      case rel => exact ⟨_, (x7_3), H', ⟨by have := HJ3.out; have := HJ9.out; have := HK3.out; first | omega | exact Nat.le_refl _⟩, ⟨by (with_reducible repeat (first | apply Kd.R_alloc | apply Kd.R_drewN | apply Kd.R_drew)); exact HO_7.out⟩, ⟨by repeat (first | (with_reducible first | exact HB.out | apply below_alloc | apply pw_below_drewN | apply below_drew1) | exact HB.out)⟩⟩
              case rest =>
                clear HC15
                try clear c1
                try clear p1
                try clear q1
                try clear hx1
                try clear c2
                try clear p2
                try clear q2
                try clear hx2
                try clear c5
                try clear c5b0
                try clear c5b1
                try clear c6
                try clear p6
                try clear c10
                try clear c11
                try clear c12
                try clear c12b0
                try clear c12b1
                try clear c14
                try clear c16
                try clear c16b0
                try clear c17
                try clear c17b0
                try clear c18
                try clear c18b0
                try clear p18
                try clear q18
                try clear hx18
                try clear c19
                try clear p19
                try clear q19
                try clear hx19
                try clear hf19
                try clear c20
                try clear p20
                try clear q20
                try clear hx20
                try clear hf20
                try clear c23
                try clear c26
                try clear hx188_0
                try clear hx188_1
                try clear hx189_0
                try clear hx191_0
                try clear hx191_1
                try clear hx192_0
                try clear hx19_0
                try clear hx19_1
                try clear hx20_0
                try clear hx20_1
                try clear p188
                try clear p189
                try clear p19
                try clear p191
                try clear p192
                try clear p2
                try clear p20
                try clear p6
                try clear q188
                try clear q189
                try clear q19
                try clear q191
                try clear q192
                try clear q20
                obtain ⟨kq, x7_14, HA, HJ14, HO_7, HB⟩ := hcut
                cases kq with
                | zero => exact absurd HA.out (by simp [vesperlaw12_TapeNear.j3])
                | succ kj14 =>
                  have H := HA.out
                  clear HA
                  simp only [vesperlaw12_TapeNear.j3] at H
                  replace H := Option.bind_eq_some_iff.mp H
                  obtain ⟨⟨t194, t195, t196⟩, A290, H⟩ := H
                  replace H : (if t195 = 0 then (vesperlaw12_TapeNear.j4 kj14 l0 a2 x7_14 ((strOfNums t194).toList != (strOfNums l0).toList)) else (vesperlaw12_TapeNear.j4 kj14 l0 a2 x7_14 true)) = some r := H
                  have A29 := Aside0.mk A290
                  clear A290
                  have HC30 := Aside0.mk H
                  clear H
                  obtain ⟨Ao31, co31, eo31⟩ := Kd.R_slice HO_7.out
                  subst eo31
                  go_upto_region 12 with (first | ((with_reducible refine gate_callee (f := 15) rfl ?_); refine goesL_ (some 88) rfl rfl Tryd.func15 (by kernel_rfl) rfl #[.slice Ao31 x7_14.length co31, .int .i64 (l0.length : Int)] rfl (by (try simp only [List.map_toArray, List.map_cons, List.map_nil]); first | done | rfl | (simp only [List.length_drop, List.length_take]; rfl)) ?_; (with_reducible refine (tape_Read.calls _ _ x7_14 (l0.length : Int) t194 t195 t196 _ ?side1 ?side2 A29.out).mono ?_); (case side1 => repeat (first | exact (Kd.R_reads' HO_7.out).2.2 | (with_reducible refine Kd.C_alloc ?_ _) | (with_reducible refine Kd.C_drewN ?_ _) | (with_reducible refine Kd.C_drew ?_))); (case side2 => exact (Kd.R_reads' HO_7.out).2.1); rintro e w32 ⟨v197, rfl, ho0, hb⟩; refine ⟨_, rfl, ?_⟩; have n0_ := Aside0.mk (Kd.R_below (by (with_reducible repeat (first | apply Kd.R_alloc | apply Kd.R_drewN | apply Kd.R_drew)); exact HO_7.out) hb); have n1_ := Aside0.mk (Kd.R_lower ho0 (below_size (by repeat (first | (with_reducible first | exact HB.out | apply below_alloc | apply pw_below_drewN | apply below_drew1) | exact HB.out)))); have n2_ := Aside0.mk (below_step (by repeat (first | (with_reducible first | exact HB.out | apply below_alloc | apply pw_below_drewN | apply below_drew1) | exact HB.out)) hb); clear HO_7; clear HB; have HO_7 := n0_; have HO198 := n1_; have HB := n2_; clear n0_ n1_ n2_; (try clear hb); (try clear hb2); (try clear hk); (try clear hi); (try clear ho0)))
                  (try simp only [Act.put, List.setIfInBounds_toArray, List.set_cons_zero, List.set_cons_succ])
                  go_cut [100] (fun v100 wc => ∃ (kq : Nat) (x100_29 : Bool), v100 = .bool x100_29 ∧ Aside0 (vesperlaw12_TapeNear.j4 kq l0 a2 x7_14 x100_29 = some r) ∧ Aside0 (kq ≤ kj14) ∧ Aside0 (Kd.R k37 37 wc w.heap.size (fun _ => True) (.slice Ao31 x7_14.length co31) x7_14) ∧ Aside0 (Below w.heap.size w wc))
                  case first =>
                    have H := HC30.out
                    clear HC30
                    by_cases c33 : t195 = 0
                    · rw [if_pos c33] at H
                      have c33b0 : (t195 == 0) = true := beq_iff_eq.mpr c33
                      have c33b1 : (t195 != 0) = false := bne_eq_false_iff_eq.mpr c33
                      clear c33
                      (first | rw [c33b0] | (simp only [i64_w, i32_w]; rw [c33b0]) | skip)
                      have H' := Aside0.mk H
                      clear H
                      have hcv34 := own_string (P := Tryd.prog) Tryd.underlying23 Tryd.underlying5 Tryd.underlying9 (Kd.own_of_R HO198.out)
                      have hcv35 := Kd.C_string (P := Tryd.prog) (A := A0) (c := c0) Tryd.underlying23 Tryd.underlying5 Tryd.underlying9 (Kd.C_below HR0.out HB.out)
                      go_wp2
                      go_meet
                      case rel => exact ⟨_, (((strOfNums t194).toList != (strOfNums l0).toList)), (by first | rfl | (simp; done) | (simp [*]; done)), H', ⟨by have := HJ3.out; have := HJ9.out; have := HJ14.out; first | omega | exact Nat.le_refl _⟩, ⟨by (with_reducible repeat (first | apply Kd.R_alloc | apply Kd.R_drewN | apply Kd.R_drew)); exact HO_7.out⟩, ⟨by repeat (first | (with_reducible first | exact HB.out | apply below_alloc | apply pw_below_drewN | apply below_drew1) | exact HB.out)⟩⟩
                    · rw [if_neg c33] at H
                      have c33b0 : (t195 == 0) = false := beq_eq_false_iff_ne.mpr c33
                      have c33b1 : (t195 != 0) = true := bne_iff_ne.mpr c33
                      (first | rw [c33b0] | (simp only [i64_w, i32_w]; rw [c33b0]) | skip)
                      have H' := Aside0.mk H
                      clear H
                      go_wp2
                      go_meet
                      case rel => exact ⟨_, (true), (by first | rfl | (simp; done) | (simp [*]; done)), H', ⟨by have := HJ3.out; have := HJ9.out; have := HJ14.out; first | omega | exact Nat.le_refl _⟩, ⟨by (with_reducible repeat (first | apply Kd.R_alloc | apply Kd.R_drewN | apply Kd.R_drew)); exact HO_7.out⟩, ⟨by repeat (first | (with_reducible first | exact HB.out | apply below_alloc | apply pw_below_drewN | apply below_drew1) | exact HB.out)⟩⟩
                  case rest =>
                    clear HC30
                    try clear c1
                    try clear p1
                    try clear q1
                    try clear hx1
                    try clear c2
                    try clear p2
                    try clear q2
                    try clear hx2
                    try clear c3
                    try clear hcv3
                    try clear c5
                    try clear c5b0
                    try clear c5b1
                    try clear c6
                    try clear p6
                    try clear c10
                    try clear c11
                    try clear c12
                    try clear c12b0
                    try clear c12b1
                    try clear c14
                    try clear c15
                    try clear c16
                    try clear c16b0
                    try clear c17
                    try clear c17b0
                    try clear c18
                    try clear c18b0
                    try clear p18
                    try clear q18
                    try clear hx18
                    try clear c19
                    try clear p19
                    try clear q19
                    try clear hx19
                    try clear hf19
                    try clear c20
                    try clear p20
                    try clear q20
                    try clear hx20
                    try clear hf20
                    try clear c23
                    try clear c26
                    try clear c33
                    try clear c33b0
                    try clear c33b1
                    try clear hcv34
                    try clear hcv35
                    try clear hx188_0
                    try clear hx188_1
                    try clear hx189_0
                    try clear hx191_0
                    try clear hx191_1
                    try clear hx192_0
                    try clear hx19_0
                    try clear hx19_1
                    try clear hx20_0
                    try clear hx20_1
                    try clear p1
                    try clear p18
                    try clear p188
                    try clear p189
                    try clear p19
                    try clear p191
                    try clear p192
                    try clear p2
                    try clear p20
                    try clear p6
                    try clear q1
                    try clear q18
                    try clear q188
                    try clear q189
                    try clear q19
                    try clear q191
                    try clear q192
                    try clear q2
                    try clear q20
                    obtain ⟨kq, x100_29, rfl, HA, HJ29, HO_7, HB⟩ := hcut
                    cases kq with
                    | zero => exact absurd HA.out (by simp [vesperlaw12_TapeNear.j4])
                    | succ kj29 =>
                      have H := HA.out
                      clear HA
                      simp only [vesperlaw12_TapeNear.j4] at H
                      by_cases c36 : x100_29 = true
                      · subst c36
                        have H1 : (some false) = some r := by rw [if_pos rfl] at H; exact H
                        clear H
                        have H := H1
                        clear H1
                        obtain rfl := Option.some.inj H
                        go_wp2
                        go_ret
                        exact ⟨by first | rfl | (simp [errW_none, errW_some] <;> rfl) | (simp [*, errW_none, errW_some] <;> rfl), by repeat (first | (with_reducible first | exact HB.out | apply below_alloc | apply pw_below_drewN | apply below_drew1) | exact HB.out)⟩
                      · replace c36 := Bool.eq_false_iff.mpr c36
                        subst c36
                        have H1 : (if (wrap64 (9 * (l0.length : Int))) = 0 then (none) else (if 0 ≤ (wrap64 ((wrap64 ((wrap64 (3 + (wrap64 ((wrap64 (Int.tdiv (Int.tmod (Go.bits .and .i64 a2 1048575) (wrap64 (9 * (l0.length : Int)))) 9)) * 10)))) + 1)) + (Int.tmod (Int.tmod (Go.bits .and .i64 a2 1048575) (wrap64 (9 * (l0.length : Int)))) 9))) then (if (wrap64 ((wrap64 ((wrap64 (3 + (wrap64 ((wrap64 (Int.tdiv (Int.tmod (Go.bits .and .i64 a2 1048575) (wrap64 (9 * (l0.length : Int)))) 9)) * 10)))) + 1)) + (Int.tmod (Int.tmod (Go.bits .and .i64 a2 1048575) (wrap64 (9 * (l0.length : Int)))) 9))) < (x7_14.length : Int) then (if (wrap64 (((rd_T37 x7_14 (wrap64 ((wrap64 ((wrap64 (3 + (wrap64 ((wrap64 (Int.tdiv (Int.tmod (Go.bits .and .i64 a2 1048575) (wrap64 (9 * (l0.length : Int)))) 9)) * 10)))) + 1)) + (Int.tmod (Int.tmod (Go.bits .and .i64 a2 1048575) (wrap64 (9 * (l0.length : Int)))) 9)))).f0) + ((rd_T37 x7_14 (wrap64 ((wrap64 ((wrap64 (3 + (wrap64 ((wrap64 (Int.tdiv (Int.tmod (Go.bits .and .i64 a2 1048575) (wrap64 (9 * (l0.length : Int)))) 9)) * 10)))) + 1)) + (Int.tmod (Int.tmod (Go.bits .and .i64 a2 1048575) (wrap64 (9 * (l0.length : Int)))) 9)))).f1))) > 195 then ((tape_Read.f (x7_14.set ((wrap64 ((wrap64 ((wrap64 (3 + (wrap64 ((wrap64 (Int.tdiv (Int.tmod (Go.bits .and .i64 a2 1048575) (wrap64 (9 * (l0.length : Int)))) 9)) * 10)))) + 1)) + (Int.tmod (Int.tmod (Go.bits .and .i64 a2 1048575) (wrap64 (9 * (l0.length : Int)))) 9))) : Int).toNat (⟨56, 56⟩ : S37)) (l0.length : Int)).bind fun bt202 => (if bt202.2.1 = 121 then (if (bt202.1.length : Int) = 0 then (if bt202.2.2 = (wrap64 ((wrap64 (3 + (wrap64 ((wrap64 (Int.tdiv (Int.tmod (Go.bits .and .i64 a2 1048575) (wrap64 (9 * (l0.length : Int)))) 9)) * 10)))) + 9)) then ((vesperlaw12_awake.f kj29).bind fun t207 => (some t207)) else (some false)) else (some false)) else (some false))) else ((tape_Read.f (x7_14.set ((wrap64 ((wrap64 ((wrap64 (3 + (wrap64 ((wrap64 (Int.tdiv (Int.tmod (Go.bits .and .i64 a2 1048575) (wrap64 (9 * (l0.length : Int)))) 9)) * 10)))) + 1)) + (Int.tmod (Int.tmod (Go.bits .and .i64 a2 1048575) (wrap64 (9 * (l0.length : Int)))) 9))) : Int).toNat (⟨140, 140⟩ : S37)) (l0.length : Int)).bind fun bt209 => (if bt209.2.1 = 121 then (if (bt209.1.length : Int) = 0 then (if bt209.2.2 = (wrap64 ((wrap64 (3 + (wrap64 ((wrap64 (Int.tdiv (Int.tmod (Go.bits .and .i64 a2 1048575) (wrap64 (9 * (l0.length : Int)))) 9)) * 10)))) + 9)) then ((vesperlaw12_awake.f kj29).bind fun t214 => (some t214)) else (some false)) else (some false)) else (some false)))) else (none)) else (none))) = some r := by rw [if_neg (show ¬ (false = true) by decide)] at H; exact H
                        clear H
                        have H := H1
                        clear H1
                        by_cases c37 : (wrap64 (9 * (l0.length : Int))) = 0
                        · rw [if_pos c37] at H
                          exact absurd H (by simp)
                        · rw [if_neg c37] at H
                          have c37b0 : ((wrap64 (9 * (l0.length : Int))) == 0) = false := beq_eq_false_iff_ne.mpr c37
                          have c37b1 : ((wrap64 (9 * (l0.length : Int))) != 0) = true := bne_iff_ne.mpr c37
                          obtain ⟨ji38, hji38⟩ : ∃ j_ : Int, (wrap64 ((wrap64 ((wrap64 (3 + (wrap64 ((wrap64 (Int.tdiv (Int.tmod (Go.bits .and .i64 a2 1048575) (wrap64 (9 * (l0.length : Int)))) 9)) * 10)))) + 1)) + (Int.tmod (Int.tmod (Go.bits .and .i64 a2 1048575) (wrap64 (9 * (l0.length : Int)))) 9))) = j_ := ⟨_, rfl⟩
                          replace H : (if 0 ≤ (ji38) then (if (ji38) < (x7_14.length : Int) then (if (wrap64 (((rd_T37 x7_14 (ji38)).f0) + ((rd_T37 x7_14 (ji38)).f1))) > 195 then ((tape_Read.f (x7_14.set ((ji38) : Int).toNat (⟨56, 56⟩ : S37)) (l0.length : Int)).bind fun bt202 => (if bt202.2.1 = 121 then (if (bt202.1.length : Int) = 0 then (if bt202.2.2 = (wrap64 ((wrap64 (3 + (wrap64 ((wrap64 (Int.tdiv (Int.tmod (Go.bits .and .i64 a2 1048575) (wrap64 (9 * (l0.length : Int)))) 9)) * 10)))) + 9)) then ((vesperlaw12_awake.f kj29).bind fun t207 => (some t207)) else (some false)) else (some false)) else (some false))) else ((tape_Read.f (x7_14.set ((ji38) : Int).toNat (⟨140, 140⟩ : S37)) (l0.length : Int)).bind fun bt209 => (if bt209.2.1 = 121 then (if (bt209.1.length : Int) = 0 then (if bt209.2.2 = (wrap64 ((wrap64 (3 + (wrap64 ((wrap64 (Int.tdiv (Int.tmod (Go.bits .and .i64 a2 1048575) (wrap64 (9 * (l0.length : Int)))) 9)) * 10)))) + 9)) then ((vesperlaw12_awake.f kj29).bind fun t214 => (some t214)) else (some false)) else (some false)) else (some false)))) else (none)) else (none)) = some r := by first | (rw [hji38] at H; exact H) | (simp only [hji38] at H ⊢; exact H)
                          have hji38w : (IntKind.i64.wrap ((wrap64 ((wrap64 (3 + (wrap64 ((wrap64 (Int.tdiv (Int.tmod (Go.bits .and .i64 a2 1048575) (wrap64 (9 * (l0.length : Int)))) 9)) * 10)))) + 1)) + (Int.tmod (Int.tmod (Go.bits .and .i64 a2 1048575) (wrap64 (9 * (l0.length : Int)))) 9))) = ji38 := (i64_w _).trans hji38
                          by_cases c39 : 0 ≤ (ji38)
                          · rw [if_pos c39] at H
                            have c39b0 : decide (0 ≤ (ji38)) = true := decide_eq_true c39
                            clear c39
                            by_cases c40 : (ji38) < (x7_14.length : Int)
                            · rw [if_pos c40] at H
                              have c40b0 : decide ((ji38) < (x7_14.length : Int)) = true := decide_eq_true c40
                              clear c40
                              by_cases c41 : (wrap64 (((rd_T37 x7_14 (ji38)).f0) + ((rd_T37 x7_14 (ji38)).f1))) > 195
                              · rw [if_pos c41] at H
                                have c41b0 : decide (195 < (wrap64 (((rd_T37 x7_14 (ji38)).f0) + ((rd_T37 x7_14 (ji38)).f1)))) = true := decide_eq_true c41
                                clear c41
                                obtain ⟨y201, hy201⟩ : ∃ y_ : List (S37), y_ = (x7_14.set ((ji38) : Int).toNat (⟨56, 56⟩ : S37)) := ⟨_, rfl⟩
                                replace H : ((tape_Read.f y201 (l0.length : Int)).bind fun bt202 => (if bt202.2.1 = 121 then (if (bt202.1.length : Int) = 0 then (if bt202.2.2 = (wrap64 ((wrap64 (3 + (wrap64 ((wrap64 (Int.tdiv (Int.tmod (Go.bits .and .i64 a2 1048575) (wrap64 (9 * (l0.length : Int)))) 9)) * 10)))) + 9)) then ((vesperlaw12_awake.f kj29).bind fun t207 => (some t207)) else (some false)) else (some false)) else (some false))) = some r := by first | (rw [hy201]; with_reducible exact H) | (have H2_ := (Option.bind_some _ _).symm.trans H; rw [hy201]; with_reducible exact H2_) | (have H2_ := (Option.bind_some _ _).symm.trans H; with_reducible exact H2_) | with_reducible exact H | (rw [hy201]; exact H) | exact H
                                have Ny201 := Aside0.mk hy201
                                clear hy201
                                replace H := Option.bind_eq_some_iff.mp H
                                obtain ⟨⟨t202, t203, t204⟩, A430, H⟩ := H
                                replace H : (if t203 = 121 then (if (t202.length : Int) = 0 then (if t204 = (wrap64 ((wrap64 (3 + (wrap64 ((wrap64 (Int.tdiv (Int.tmod (Go.bits .and .i64 a2 1048575) (wrap64 (9 * (l0.length : Int)))) 9)) * 10)))) + 9)) then ((vesperlaw12_awake.f kj29).bind fun t207 => (some t207)) else (some false)) else (some false)) else (some false)) = some r := H
                                have A43 := Aside0.mk A430
                                clear A430
                                by_cases c44 : t203 = 121
                                · rw [if_pos c44] at H
                                  have c44b0 : (t203 == 121) = true := beq_iff_eq.mpr c44
                                  have c44b1 : (t203 != 121) = false := bne_eq_false_iff_eq.mpr c44
                                  clear c44
                                  by_cases c45 : (t202.length : Int) = 0
                                  · rw [if_pos c45] at H
                                    have c45b0 : ((t202.length : Int) == 0) = true := beq_iff_eq.mpr c45
                                    have c45b1 : ((t202.length : Int) != 0) = false := bne_eq_false_iff_eq.mpr c45
                                    clear c45
                                    by_cases c46 : t204 = (wrap64 ((wrap64 (3 + (wrap64 ((wrap64 (Int.tdiv (Int.tmod (Go.bits .and .i64 a2 1048575) (wrap64 (9 * (l0.length : Int)))) 9)) * 10)))) + 9))
                                    · rw [if_pos c46] at H
                                      have c46b0 : (t204 == (wrap64 ((wrap64 (3 + (wrap64 ((wrap64 (Int.tdiv (Int.tmod (Go.bits .and .i64 a2 1048575) (wrap64 (9 * (l0.length : Int)))) 9)) * 10)))) + 9))) = true := beq_iff_eq.mpr c46
                                      have c46b1 : (t204 != (wrap64 ((wrap64 (3 + (wrap64 ((wrap64 (Int.tdiv (Int.tmod (Go.bits .and .i64 a2 1048575) (wrap64 (9 * (l0.length : Int)))) 9)) * 10)))) + 9))) = false := bne_eq_false_iff_eq.mpr c46
                                      clear c46
                                      replace H := Option.bind_eq_some_iff.mp H
                                      obtain ⟨t207, A470, H⟩ := H
                                      replace H : (some t207) = some r := H
                                      have A47 := Aside0.mk A470
                                      clear A470
                                      obtain rfl := Option.some.inj H
                                      try go_wp2
                                      have n0_ := Aside0.mk (Kd.R_drew HO_7.out)
                                      have n1_ := Aside0.mk (below_drew1 HB.out)
                                      clear HO_7
                                      clear HB
                                      have HO_7 := n0_
                                      have HB := n1_
                                      clear n0_ n1_
                                      have p199 : 0 ≤ ((ji38) : Int) := of_decide_eq_true (by first | (with_reducible assumption) | assumption)
                                      have q199 : (ji38) < (x7_14.length : Int) := of_decide_eq_true (by first | (with_reducible assumption) | assumption)
                                      obtain ⟨ad199, e199, hx199_0, hx199_1⟩ := at_T37 (Kd.R_reads' HO_7.out).2.2 (ji38) p199 q199
                                      cases e199
                                      replace p199 := eq_true p199
                                      replace q199 := eq_true q199
                                      have p200 : 0 ≤ ((ji38) : Int) := of_decide_eq_true (by first | (with_reducible assumption) | assumption)
                                      have q200 : (ji38) < (x7_14.length : Int) := of_decide_eq_true (by first | (with_reducible assumption) | assumption)
                                      obtain ⟨ad200, e200, hx200_0, hx200_1⟩ := at_T37 (Kd.R_reads' HO_7.out).2.2 (ji38) p200 q200
                                      obtain rfl : ad199 = ad200 := (by injection e200)
                                      replace p200 := eq_true p200
                                      replace q200 := eq_true q200
                                      refine start_ (n := 12) (S := fun w' => w'.cell? (ad199.add (((ji38)).toNat * 2)) = some (.int .i64 ((rd_T37 x7_14 (ji38)).f0)) ∧ w'.cell? ⟨(ad199.add (((ji38)).toNat * 2)).block, (ad199.add (((ji38)).toNat * 2)).off + 1, none⟩ = some (.int .i64 ((rd_T37 x7_14 (ji38)).f1)) ∧ w'.cell? (ad199.add (((ji38)).toNat * 2)) = some (.int .i64 ((rd_T37 x7_14 (ji38)).f0)) ∧ w'.cell? ⟨(ad199.add (((ji38)).toNat * 2)).block, (ad199.add (((ji38)).toNat * 2)).off + 1, none⟩ = some (.int .i64 ((rd_T37 x7_14 (ji38)).f1))) (ds := []) #[false, false, false, false, false, false, false, false, false, false, false, false] (by kernel_rfl) rfl rfl ⟨hx199_0, hx199_1, hx200_0, hx200_1⟩ (fun hHeld => ?_); refine with_tabW vesperlaw12_TapeNear.tab16 vesperlaw12_TapeNear.bits16 (fun HT_ HW_ => ?_)
                                      generalize wc.drew = w48 at HO_7 HB hx199_0 hx199_1 hx200_0 hx200_1 hHeld ⊢
                                      refine pure_ (i := 0) (N := some 115) (v := ?_) (a' := ?_) #[true, false, false, false, false, false, false, false, false, false, false, false] rfl rfl (any_of HT_.out (by kernel_rfl)) (fun _ _ _ h => h) (Or.inl ⟨by rfl, ?_⟩) ?_ ?_
                                      rotate_left
                                      · intro w'
                                        go_simp
                                        with_reducible rfl
                                      rotate_left
                                      · simp only [Act.put, List.setIfInBounds_toArray, List.set_cons_zero, List.set_cons_succ, i64_w, i32_w]
                                        rfl
                                      refine pure_ (i := 1) (N := some 116) (v := ?_) (a' := ?_) #[true, true, false, false, false, false, false, false, false, false, false, false] rfl rfl (any_of HT_.out (by kernel_rfl)) (fun _ _ _ h => h) (Or.inl ⟨by rfl, ?_⟩) ?_ ?_
                                      rotate_left
                                      · intro w'
                                        go_simp
                                        with_reducible rfl
                                      rotate_left
                                      · simp only [Act.put, List.setIfInBounds_toArray, List.set_cons_zero, List.set_cons_succ, i64_w, i32_w]
                                        rfl
                                      refine pure_ (i := 2) (N := some 117) (v := ?_) (a' := ?_) #[true, true, true, false, false, false, false, false, false, false, false, false] rfl rfl (any_of HT_.out (by kernel_rfl)) (fun _ _ _ h => h) (Or.inl ⟨by rfl, ?_⟩) ?_ ?_
                                      rotate_left
                                      · intro w'
                                        go_simp
                                        with_reducible rfl
                                      rotate_left
                                      · simp only [Act.put, List.setIfInBounds_toArray, List.set_cons_zero, List.set_cons_succ, i64_w, i32_w]
                                        rfl
                                      refine pure_ (i := 3) (N := some 118) (v := ?_) (a' := ?_) #[true, true, true, true, false, false, false, false, false, false, false, false] rfl rfl (any_of HT_.out (by kernel_rfl)) (fun _ _ _ h => h) (Or.inl ⟨by rfl, ?_⟩) ?_ ?_
                                      rotate_left
                                      · intro w'
                                        go_simp
                                        with_reducible rfl
                                      rotate_left
                                      · simp only [Act.put, List.setIfInBounds_toArray, List.set_cons_zero, List.set_cons_succ, i64_w, i32_w]
                                        rfl
                                      refine pure_ (i := 5) (N := some 120) (v := ?_) (a' := ?_) #[true, true, true, true, false, true, false, false, false, false, false, false] rfl rfl (any_of HT_.out (by kernel_rfl)) (fun _ _ _ h => h) (Or.inl ⟨by rfl, ?_⟩) ?_ ?_
                                      rotate_left
                                      · intro w'
                                        go_simp
                                        with_reducible rfl
                                      rotate_left
                                      · simp only [Act.put, List.setIfInBounds_toArray, List.set_cons_zero, List.set_cons_succ, i64_w, i32_w]
                                        rfl
                                      refine pure_ (i := 6) (N := some 121) (v := ?_) (a' := ?_) #[true, true, true, true, false, true, true, false, false, false, false, false] rfl rfl (any_of HT_.out (by kernel_rfl)) (fun _ _ _ h => h) (Or.inl ⟨by rfl, ?_⟩) ?_ ?_
                                      rotate_left
                                      · intro w'
                                        go_simp
                                        with_reducible rfl
                                      rotate_left
                                      · simp only [Act.put, List.setIfInBounds_toArray, List.set_cons_zero, List.set_cons_succ, i64_w, i32_w]
                                        rfl
                                      refine pure_ (i := 7) (N := some 122) (v := ?_) (a' := ?_) #[true, true, true, true, false, true, true, true, false, false, false, false] rfl rfl (any_of HT_.out (by kernel_rfl)) (fun _ _ _ h => h) (Or.inl ⟨by rfl, ?_⟩) ?_ ?_
                                      rotate_left
                                      · intro w'
                                        go_simp
                                        with_reducible rfl
                                      rotate_left
                                      · simp only [Act.put, List.setIfInBounds_toArray, List.set_cons_zero, List.set_cons_succ, i64_w, i32_w]
                                        rfl
                                      refine pure_ (i := 8) (N := some 123) (v := ?_) (a' := ?_) #[true, true, true, true, false, true, true, true, true, false, false, false] rfl rfl (any_of HT_.out (by kernel_rfl)) (fun _ _ _ h => h) (Or.inl ⟨by rfl, ?_⟩) ?_ ?_
                                      rotate_left
                                      · intro w'
                                        go_simp
                                        with_reducible rfl
                                      rotate_left
                                      · simp only [Act.put, List.setIfInBounds_toArray, List.set_cons_zero, List.set_cons_succ, i64_w, i32_w]
                                        rfl
                                      refine take_ (i := 4) (N := some 119) (v := ?_) (a' := ?_) #[true, true, true, true, true, true, true, true, true, false, false, false] rfl rfl (take_ofW HT_.out HW_.out (by kernel_rfl)) (fun _ _ _ h => h) (Or.inl ⟨by rfl, ?_⟩) hHeld ?_ ?_
                                      rotate_left
                                      · rintro w' ⟨s0, s1, s2, s3⟩
                                        go_simp
                                        with_reducible rfl
                                      rotate_left
                                      · simp only [Act.put, List.setIfInBounds_toArray, List.set_cons_zero, List.set_cons_succ, i64_w, i32_w]
                                        rfl
                                      refine take_ (i := 9) (N := some 124) (v := ?_) (a' := ?_) #[true, true, true, true, true, true, true, true, true, true, false, false] rfl rfl (take_ofW HT_.out HW_.out (by kernel_rfl)) (fun _ _ _ h => h) (Or.inl ⟨by rfl, ?_⟩) hHeld ?_ ?_
                                      rotate_left
                                      · rintro w' ⟨s0, s1, s2, s3⟩
                                        go_simp
                                        with_reducible rfl
                                      rotate_left
                                      · simp only [Act.put, List.setIfInBounds_toArray, List.set_cons_zero, List.set_cons_succ, i64_w, i32_w]
                                        rfl
                                      refine pure_ (i := 10) (N := some 125) (v := ?_) (a' := ?_) #[true, true, true, true, true, true, true, true, true, true, true, false] rfl rfl (any_of HT_.out (by kernel_rfl)) (fun _ _ _ h => h) (Or.inl ⟨by rfl, ?_⟩) ?_ ?_
                                      rotate_left
                                      · intro w'
                                        go_simp
                                        with_reducible rfl
                                      rotate_left
                                      · simp only [Act.put, List.setIfInBounds_toArray, List.set_cons_zero, List.set_cons_succ, i64_w, i32_w]
                                        rfl
                                      refine pure_ (i := 11) (N := some 126) (v := ?_) (a' := ?_) #[true, true, true, true, true, true, true, true, true, true, true, true] rfl rfl (any_of HT_.out (by kernel_rfl)) (fun _ _ _ h => h) (Or.inl ⟨by rfl, ?_⟩) ?_ ?_
                                      rotate_left
                                      · intro w'
                                        go_simp
                                        with_reducible rfl
                                      rotate_left
                                      · simp only [Act.put, List.setIfInBounds_toArray, List.set_cons_zero, List.set_cons_succ, i64_w, i32_w]
                                        rfl
                                      refine done_ (done_of HT_.out (by kernel_rfl)) ?_
                                      have p42 : 0 ≤ ((ji38) : Int) := of_decide_eq_true (by first | (with_reducible assumption) | assumption)
                                      have q42 : ((ji38) : Int) < ((x7_14.length : Int) : Int) := of_decide_eq_true (by first | (with_reducible assumption) | assumption)
                                      obtain ⟨go42, co42, eo42, gb42, gl42, cl42, HG42⟩ := Kd.R_form HO_7.out (by omega)
                                      (first | cases eo42 | (injection eo42 with ea_ en_ ec_; (first | subst ea_ | (injection ea_ with ea_; subst ea_)); subst ec_; clear en_))
                                      have GB42 := Aside0.mk gb42
                                      have GG42 := Aside0.mk HG42
                                      clear gb42 gl42 HG42
                                      (first | simp only [add_plain] at hx199_0 | skip)
                                      (first | simp only [add_plain] at hx199_1 | skip)
                                      (first | simp only [add_plain] at hx200_0 | skip)
                                      (first | simp only [add_plain] at hx200_1 | skip)
                                      obtain ⟨ce42, hcl42, hM42, hcc42, hfr42⟩ := Kd.R_elem HO_7.out z37 ((ji38) : Int) p42 q42
                                      obtain rfl := k37_openM hM42
                                      have hx42_0 : w48.cell? ⟨go42, ((ji38) : Int).toNat * 2, none⟩ = some (.int .i64 ((rd_T37 x7_14 (ji38)).f0)) := hcc42 0 _ rfl
                                      have hx42_1 : w48.cell? ⟨go42, ((ji38) : Int).toNat * 2 + 1, none⟩ = some (.int .i64 ((rd_T37 x7_14 (ji38)).f1)) := hcc42 1 _ rfl
                                      have hf42_0 : w48.frozen? ⟨go42, ((ji38) : Int).toNat * 2, none⟩ = false := hfr42 0
                                      have hf42_1 : w48.frozen? ⟨go42, ((ji38) : Int).toNat * 2 + 1, none⟩ = false := hfr42 1
                                      clear hcl42 hcc42 hfr42 hM42
                                      replace p42 := eq_true p42
                                      replace q42 := eq_true q42
                                      have HX49 := Aside0.mk (show Kd.R k37 37 w48 w.heap.size (fun _ => True) (.slice (some ⟨go42, 0, none⟩) x7_14.length co31) x7_14 from (by (with_reducible repeat (first | apply Kd.R_alloc | apply Kd.R_drewN | apply Kd.R_drew)); exact HO_7.out))
                                      obtain ⟨ce49, hcl49, hM49, hcc49, hfr49⟩ := Kd.R_elem HX49.out z37 ((ji38) : Int) (of_decide_eq_true (by first | (with_reducible assumption) | assumption)) (by have h_ : ((ji38) : Int) < ((x7_14.length : Int) : Int) := of_decide_eq_true (by first | (with_reducible assumption) | assumption); first | exact h_ | (have e_ := (Kd.R_reads' HO_7.out).1; omega) | simpa using h_)
                                      obtain rfl := k37_openM hM49
                                      have HP49 := Kd.R_seg HX49.out ((ji38) : Int) (of_decide_eq_true (by first | (with_reducible assumption) | assumption)) (by have h_ : ((ji38) : Int) < ((x7_14.length : Int) : Int) := of_decide_eq_true (by first | (with_reducible assumption) | assumption); first | exact h_ | (have e_ := (Kd.R_reads' HO_7.out).1; omega) | simpa using h_) (seg := [.int .i64 56, .int .i64 56]) (j := 0) hcl49 hcc49 (show 2 ≤ 2 from by decide) (x' := (⟨56, 56⟩ : S37)) (k37_mkM _ _ _ (⟨56, 56⟩ : S37) ) (fun _ hk => hk)
                                      have hx49_0 := hcc49 0 _ rfl
                                      (try simp only [show (k37).sz = 2 from rfl, Nat.mul_one, Nat.add_zero] at hx49_0)
                                      have hf49_0 := hfr49 0
                                      (try simp only [show (k37).sz = 2 from rfl, Nat.mul_one, Nat.add_zero] at hf49_0)
                                      have hx49_1 := hcc49 1 _ rfl
                                      (try simp only [show (k37).sz = 2 from rfl, Nat.mul_one, Nat.add_zero] at hx49_1)
                                      have hf49_1 := hfr49 1
                                      (try simp only [show (k37).sz = 2 from rfl, Nat.mul_one, Nat.add_zero] at hf49_1)
                                      clear hcl49 hcc49 hfr49 hM49
                                      try go_wp2_with (first | ((with_reducible refine gate_store (t := 37) (p := 130) rfl ?_); refine store_event (t := 37) (p := 130) (v := ?vo_w50) (w1 := ((w48.setCell ⟨go42, ((ji38) : Int).toNat * 2, none⟩ (.int .i64 56)).setCell ⟨go42, ((ji38) : Int).toNat * 2 + 1, none⟩ (.int .i64 56))) ?hg ?ho ?hn ?hr ?_; (case ho => rfl); (case hg => rfl); (case hn => rfl); (case hr => first | (go_simp; done) | (go_simp; rfl)); intro w50 hw; have hg : w48.grownBy w50 (some go42) := (by rw [hw]; exact HP49.2); have hp_ : Kd.R k37 37 w50 w.heap.size (fun _ => True) (.slice (some ⟨go42, 0, none⟩) x7_14.length co31) y201 := (by rw [hw, Ny201.out]; exact HP49.1); clear HP49; have n0_ := Aside0.mk (hp_); have n1_ := Aside0.mk ((by rw [hw]; exact below_set (below_set (HB.out) GB42.out) GB42.out : Below w.heap.size w w50)); clear HO_7; clear HB; have HO_7 := n0_; have HB := n1_; clear n0_ n1_; clear hg hw hp_) | ((with_reducible refine gate_callee (f := 15) rfl ?_); refine goesL_ (some 139) rfl rfl Tryd.func15 (by kernel_rfl) rfl #[.slice (some ⟨go42, 0, none⟩) y201.length co31, .int .i64 (l0.length : Int)] rfl (by (try simp only [List.map_toArray, List.map_cons, List.map_nil]); first | done | (rw [show y201.length = x7_14.length from (Kd.R_reads' HO_7.out).1.symm] <;> rfl) | rfl | (simp only [List.length_drop, List.length_take]; rfl)) ?_; (with_reducible refine (tape_Read.calls _ _ y201 (l0.length : Int) t202 t203 t204 _ ?side1 ?side2 A43.out).mono ?_); (case side1 => repeat (first | exact (Kd.R_reads' HO_7.out).2.2 | (with_reducible refine Kd.C_alloc ?_ _) | (with_reducible refine Kd.C_drewN ?_ _) | (with_reducible refine Kd.C_drew ?_))); (case side2 => rw [show y201.length = x7_14.length from (Kd.R_reads' HO_7.out).1.symm]; exact (Kd.R_reads' HO_7.out).2.1); rintro e w51 ⟨v205, rfl, ho0, hb⟩; refine ⟨_, rfl, ?_⟩; have n0_ := Aside0.mk (Kd.R_below (by (with_reducible repeat (first | apply Kd.R_alloc | apply Kd.R_drewN | apply Kd.R_drew)); exact HO_7.out) hb); have n1_ := Aside0.mk (Kd.R_lower ho0 (below_size (by repeat (first | (with_reducible first | exact HB.out | apply below_alloc | apply pw_below_drewN | apply below_drew1) | exact HB.out)))); have n2_ := Aside0.mk (below_step (by repeat (first | (with_reducible first | exact HB.out | apply below_alloc | apply pw_below_drewN | apply below_drew1) | exact HB.out)) hb); clear HO_7; clear HB; have HO_7 := n0_; have HO206 := n1_; have HB := n2_; clear n0_ n1_ n2_; (try clear hb); (try clear hb2); (try clear hk); (try clear hi); (try clear ho0); obtain ⟨Ao52, co52, eo52⟩ := Kd.R_slice HO206.out; subst eo52) | (go_at_call 10; (with_reducible refine (vesperlaw12_awake.calls kj29  t207 _ A47.out).mono ?_); rintro e w53 ⟨rfl, hb⟩; have n0_ := Aside0.mk (Kd.R_below (by (with_reducible repeat (first | apply Kd.R_alloc | apply Kd.R_drewN | apply Kd.R_drew)); exact HO_7.out) hb); have n1_ := Aside0.mk (Kd.R_below (by (with_reducible repeat (first | apply Kd.R_alloc | apply Kd.R_drewN | apply Kd.R_drew)); exact HO206.out) hb); have n2_ := Aside0.mk (below_step (by repeat (first | (with_reducible first | exact HB.out | apply below_alloc | apply pw_below_drewN | apply below_drew1) | exact HB.out)) hb); clear HO_7; clear HO206; clear HB; have HO_7 := n0_; have HO206 := n1_; have HB := n2_; clear n0_ n1_ n2_; (try clear hb); (try clear hb2); (try clear hk); (try clear hi)))
                                      go_ret
                                      exact ⟨by first | rfl | (simp [errW_none, errW_some] <;> rfl) | (simp only [← hji38]; first | rfl | (simp [errW_none, errW_some] <;> rfl)) | (simp [*, errW_none, errW_some] <;> rfl), by repeat (first | (with_reducible first | exact HB.out | apply below_alloc | apply pw_below_drewN | apply below_drew1) | exact HB.out)⟩
                                    · rw [if_neg c46] at H
                                      have c46b0 : (t204 == (wrap64 ((wrap64 (3 + (wrap64 ((wrap64 (Int.tdiv (Int.tmod (Go.bits .and .i64 a2 1048575) (wrap64 (9 * (l0.length : Int)))) 9)) * 10)))) + 9))) = false := beq_eq_false_iff_ne.mpr c46
                                      have c46b1 : (t204 != (wrap64 ((wrap64 (3 + (wrap64 ((wrap64 (Int.tdiv (Int.tmod (Go.bits .and .i64 a2 1048575) (wrap64 (9 * (l0.length : Int)))) 9)) * 10)))) + 9))) = true := bne_iff_ne.mpr c46
                                      obtain rfl := Option.some.inj H
                                      try go_wp2
                                      have n0_ := Aside0.mk (Kd.R_drew HO_7.out)
                                      have n1_ := Aside0.mk (below_drew1 HB.out)
                                      clear HO_7
                                      clear HB
                                      have HO_7 := n0_
                                      have HB := n1_
                                      clear n0_ n1_
                                      have p199 : 0 ≤ ((ji38) : Int) := of_decide_eq_true (by first | (with_reducible assumption) | assumption)
                                      have q199 : (ji38) < (x7_14.length : Int) := of_decide_eq_true (by first | (with_reducible assumption) | assumption)
                                      obtain ⟨ad199, e199, hx199_0, hx199_1⟩ := at_T37 (Kd.R_reads' HO_7.out).2.2 (ji38) p199 q199
                                      cases e199
                                      replace p199 := eq_true p199
                                      replace q199 := eq_true q199
                                      have p200 : 0 ≤ ((ji38) : Int) := of_decide_eq_true (by first | (with_reducible assumption) | assumption)
                                      have q200 : (ji38) < (x7_14.length : Int) := of_decide_eq_true (by first | (with_reducible assumption) | assumption)
                                      obtain ⟨ad200, e200, hx200_0, hx200_1⟩ := at_T37 (Kd.R_reads' HO_7.out).2.2 (ji38) p200 q200
                                      obtain rfl : ad199 = ad200 := (by injection e200)
                                      replace p200 := eq_true p200
                                      replace q200 := eq_true q200
                                      refine start_ (n := 12) (S := fun w' => w'.cell? (ad199.add (((ji38)).toNat * 2)) = some (.int .i64 ((rd_T37 x7_14 (ji38)).f0)) ∧ w'.cell? ⟨(ad199.add (((ji38)).toNat * 2)).block, (ad199.add (((ji38)).toNat * 2)).off + 1, none⟩ = some (.int .i64 ((rd_T37 x7_14 (ji38)).f1)) ∧ w'.cell? (ad199.add (((ji38)).toNat * 2)) = some (.int .i64 ((rd_T37 x7_14 (ji38)).f0)) ∧ w'.cell? ⟨(ad199.add (((ji38)).toNat * 2)).block, (ad199.add (((ji38)).toNat * 2)).off + 1, none⟩ = some (.int .i64 ((rd_T37 x7_14 (ji38)).f1))) (ds := []) #[false, false, false, false, false, false, false, false, false, false, false, false] (by kernel_rfl) rfl rfl ⟨hx199_0, hx199_1, hx200_0, hx200_1⟩ (fun hHeld => ?_); refine with_tabW vesperlaw12_TapeNear.tab16 vesperlaw12_TapeNear.bits16 (fun HT_ HW_ => ?_)
                                      generalize wc.drew = w54 at HO_7 HB hx199_0 hx199_1 hx200_0 hx200_1 hHeld ⊢
                                      refine pure_ (i := 0) (N := some 115) (v := ?_) (a' := ?_) #[true, false, false, false, false, false, false, false, false, false, false, false] rfl rfl (any_of HT_.out (by kernel_rfl)) (fun _ _ _ h => h) (Or.inl ⟨by rfl, ?_⟩) ?_ ?_
                                      rotate_left
                                      · intro w'
                                        go_simp
                                        with_reducible rfl
                                      rotate_left
                                      · simp only [Act.put, List.setIfInBounds_toArray, List.set_cons_zero, List.set_cons_succ, i64_w, i32_w]
                                        rfl
                                      refine pure_ (i := 1) (N := some 116) (v := ?_) (a' := ?_) #[true, true, false, false, false, false, false, false, false, false, false, false] rfl rfl (any_of HT_.out (by kernel_rfl)) (fun _ _ _ h => h) (Or.inl ⟨by rfl, ?_⟩) ?_ ?_
                                      rotate_left
                                      · intro w'
                                        go_simp
                                        with_reducible rfl
                                      rotate_left
                                      · simp only [Act.put, List.setIfInBounds_toArray, List.set_cons_zero, List.set_cons_succ, i64_w, i32_w]
                                        rfl
                                      refine pure_ (i := 2) (N := some 117) (v := ?_) (a' := ?_) #[true, true, true, false, false, false, false, false, false, false, false, false] rfl rfl (any_of HT_.out (by kernel_rfl)) (fun _ _ _ h => h) (Or.inl ⟨by rfl, ?_⟩) ?_ ?_
                                      rotate_left
                                      · intro w'
                                        go_simp
                                        with_reducible rfl
                                      rotate_left
                                      · simp only [Act.put, List.setIfInBounds_toArray, List.set_cons_zero, List.set_cons_succ, i64_w, i32_w]
                                        rfl
                                      refine pure_ (i := 3) (N := some 118) (v := ?_) (a' := ?_) #[true, true, true, true, false, false, false, false, false, false, false, false] rfl rfl (any_of HT_.out (by kernel_rfl)) (fun _ _ _ h => h) (Or.inl ⟨by rfl, ?_⟩) ?_ ?_
                                      rotate_left
                                      · intro w'
                                        go_simp
                                        with_reducible rfl
                                      rotate_left
                                      · simp only [Act.put, List.setIfInBounds_toArray, List.set_cons_zero, List.set_cons_succ, i64_w, i32_w]
                                        rfl
                                      refine pure_ (i := 5) (N := some 120) (v := ?_) (a' := ?_) #[true, true, true, true, false, true, false, false, false, false, false, false] rfl rfl (any_of HT_.out (by kernel_rfl)) (fun _ _ _ h => h) (Or.inl ⟨by rfl, ?_⟩) ?_ ?_
                                      rotate_left
                                      · intro w'
                                        go_simp
                                        with_reducible rfl
                                      rotate_left
                                      · simp only [Act.put, List.setIfInBounds_toArray, List.set_cons_zero, List.set_cons_succ, i64_w, i32_w]
                                        rfl
                                      refine pure_ (i := 6) (N := some 121) (v := ?_) (a' := ?_) #[true, true, true, true, false, true, true, false, false, false, false, false] rfl rfl (any_of HT_.out (by kernel_rfl)) (fun _ _ _ h => h) (Or.inl ⟨by rfl, ?_⟩) ?_ ?_
                                      rotate_left
                                      · intro w'
                                        go_simp
                                        with_reducible rfl
                                      rotate_left
                                      · simp only [Act.put, List.setIfInBounds_toArray, List.set_cons_zero, List.set_cons_succ, i64_w, i32_w]
                                        rfl
                                      refine pure_ (i := 7) (N := some 122) (v := ?_) (a' := ?_) #[true, true, true, true, false, true, true, true, false, false, false, false] rfl rfl (any_of HT_.out (by kernel_rfl)) (fun _ _ _ h => h) (Or.inl ⟨by rfl, ?_⟩) ?_ ?_
                                      rotate_left
                                      · intro w'
                                        go_simp
                                        with_reducible rfl
                                      rotate_left
                                      · simp only [Act.put, List.setIfInBounds_toArray, List.set_cons_zero, List.set_cons_succ, i64_w, i32_w]
                                        rfl
                                      refine pure_ (i := 8) (N := some 123) (v := ?_) (a' := ?_) #[true, true, true, true, false, true, true, true, true, false, false, false] rfl rfl (any_of HT_.out (by kernel_rfl)) (fun _ _ _ h => h) (Or.inl ⟨by rfl, ?_⟩) ?_ ?_
                                      rotate_left
                                      · intro w'
                                        go_simp
                                        with_reducible rfl
                                      rotate_left
                                      · simp only [Act.put, List.setIfInBounds_toArray, List.set_cons_zero, List.set_cons_succ, i64_w, i32_w]
                                        rfl
                                      refine take_ (i := 4) (N := some 119) (v := ?_) (a' := ?_) #[true, true, true, true, true, true, true, true, true, false, false, false] rfl rfl (take_ofW HT_.out HW_.out (by kernel_rfl)) (fun _ _ _ h => h) (Or.inl ⟨by rfl, ?_⟩) hHeld ?_ ?_
                                      rotate_left
                                      · rintro w' ⟨s0, s1, s2, s3⟩
                                        go_simp
                                        with_reducible rfl
                                      rotate_left
                                      · simp only [Act.put, List.setIfInBounds_toArray, List.set_cons_zero, List.set_cons_succ, i64_w, i32_w]
                                        rfl
                                      refine take_ (i := 9) (N := some 124) (v := ?_) (a' := ?_) #[true, true, true, true, true, true, true, true, true, true, false, false] rfl rfl (take_ofW HT_.out HW_.out (by kernel_rfl)) (fun _ _ _ h => h) (Or.inl ⟨by rfl, ?_⟩) hHeld ?_ ?_
                                      rotate_left
                                      · rintro w' ⟨s0, s1, s2, s3⟩
                                        go_simp
                                        with_reducible rfl
                                      rotate_left
                                      · simp only [Act.put, List.setIfInBounds_toArray, List.set_cons_zero, List.set_cons_succ, i64_w, i32_w]
                                        rfl
                                      refine pure_ (i := 10) (N := some 125) (v := ?_) (a' := ?_) #[true, true, true, true, true, true, true, true, true, true, true, false] rfl rfl (any_of HT_.out (by kernel_rfl)) (fun _ _ _ h => h) (Or.inl ⟨by rfl, ?_⟩) ?_ ?_
                                      rotate_left
                                      · intro w'
                                        go_simp
                                        with_reducible rfl
                                      rotate_left
                                      · simp only [Act.put, List.setIfInBounds_toArray, List.set_cons_zero, List.set_cons_succ, i64_w, i32_w]
                                        rfl
                                      refine pure_ (i := 11) (N := some 126) (v := ?_) (a' := ?_) #[true, true, true, true, true, true, true, true, true, true, true, true] rfl rfl (any_of HT_.out (by kernel_rfl)) (fun _ _ _ h => h) (Or.inl ⟨by rfl, ?_⟩) ?_ ?_
                                      rotate_left
                                      · intro w'
                                        go_simp
                                        with_reducible rfl
                                      rotate_left
                                      · simp only [Act.put, List.setIfInBounds_toArray, List.set_cons_zero, List.set_cons_succ, i64_w, i32_w]
                                        rfl
                                      refine done_ (done_of HT_.out (by kernel_rfl)) ?_
                                      have p42 : 0 ≤ ((ji38) : Int) := of_decide_eq_true (by first | (with_reducible assumption) | assumption)
                                      have q42 : ((ji38) : Int) < ((x7_14.length : Int) : Int) := of_decide_eq_true (by first | (with_reducible assumption) | assumption)
                                      obtain ⟨go42, co42, eo42, gb42, gl42, cl42, HG42⟩ := Kd.R_form HO_7.out (by omega)
                                      (first | cases eo42 | (injection eo42 with ea_ en_ ec_; (first | subst ea_ | (injection ea_ with ea_; subst ea_)); subst ec_; clear en_))
                                      have GB42 := Aside0.mk gb42
                                      have GG42 := Aside0.mk HG42
                                      clear gb42 gl42 HG42
                                      (first | simp only [add_plain] at hx199_0 | skip)
                                      (first | simp only [add_plain] at hx199_1 | skip)
                                      (first | simp only [add_plain] at hx200_0 | skip)
                                      (first | simp only [add_plain] at hx200_1 | skip)
                                      obtain ⟨ce42, hcl42, hM42, hcc42, hfr42⟩ := Kd.R_elem HO_7.out z37 ((ji38) : Int) p42 q42
                                      obtain rfl := k37_openM hM42
                                      have hx42_0 : w54.cell? ⟨go42, ((ji38) : Int).toNat * 2, none⟩ = some (.int .i64 ((rd_T37 x7_14 (ji38)).f0)) := hcc42 0 _ rfl
                                      have hx42_1 : w54.cell? ⟨go42, ((ji38) : Int).toNat * 2 + 1, none⟩ = some (.int .i64 ((rd_T37 x7_14 (ji38)).f1)) := hcc42 1 _ rfl
                                      have hf42_0 : w54.frozen? ⟨go42, ((ji38) : Int).toNat * 2, none⟩ = false := hfr42 0
                                      have hf42_1 : w54.frozen? ⟨go42, ((ji38) : Int).toNat * 2 + 1, none⟩ = false := hfr42 1
                                      clear hcl42 hcc42 hfr42 hM42
                                      replace p42 := eq_true p42
                                      replace q42 := eq_true q42
                                      have HX55 := Aside0.mk (show Kd.R k37 37 w54 w.heap.size (fun _ => True) (.slice (some ⟨go42, 0, none⟩) x7_14.length co31) x7_14 from (by (with_reducible repeat (first | apply Kd.R_alloc | apply Kd.R_drewN | apply Kd.R_drew)); exact HO_7.out))
                                      obtain ⟨ce55, hcl55, hM55, hcc55, hfr55⟩ := Kd.R_elem HX55.out z37 ((ji38) : Int) (of_decide_eq_true (by first | (with_reducible assumption) | assumption)) (by have h_ : ((ji38) : Int) < ((x7_14.length : Int) : Int) := of_decide_eq_true (by first | (with_reducible assumption) | assumption); first | exact h_ | (have e_ := (Kd.R_reads' HO_7.out).1; omega) | simpa using h_)
                                      obtain rfl := k37_openM hM55
                                      have HP55 := Kd.R_seg HX55.out ((ji38) : Int) (of_decide_eq_true (by first | (with_reducible assumption) | assumption)) (by have h_ : ((ji38) : Int) < ((x7_14.length : Int) : Int) := of_decide_eq_true (by first | (with_reducible assumption) | assumption); first | exact h_ | (have e_ := (Kd.R_reads' HO_7.out).1; omega) | simpa using h_) (seg := [.int .i64 56, .int .i64 56]) (j := 0) hcl55 hcc55 (show 2 ≤ 2 from by decide) (x' := (⟨56, 56⟩ : S37)) (k37_mkM _ _ _ (⟨56, 56⟩ : S37) ) (fun _ hk => hk)
                                      have hx55_0 := hcc55 0 _ rfl
                                      (try simp only [show (k37).sz = 2 from rfl, Nat.mul_one, Nat.add_zero] at hx55_0)
                                      have hf55_0 := hfr55 0
                                      (try simp only [show (k37).sz = 2 from rfl, Nat.mul_one, Nat.add_zero] at hf55_0)
                                      have hx55_1 := hcc55 1 _ rfl
                                      (try simp only [show (k37).sz = 2 from rfl, Nat.mul_one, Nat.add_zero] at hx55_1)
                                      have hf55_1 := hfr55 1
                                      (try simp only [show (k37).sz = 2 from rfl, Nat.mul_one, Nat.add_zero] at hf55_1)
                                      clear hcl55 hcc55 hfr55 hM55
                                      try go_wp2_with (first | ((with_reducible refine gate_store (t := 37) (p := 130) rfl ?_); refine store_event (t := 37) (p := 130) (v := ?vo_w56) (w1 := ((w54.setCell ⟨go42, ((ji38) : Int).toNat * 2, none⟩ (.int .i64 56)).setCell ⟨go42, ((ji38) : Int).toNat * 2 + 1, none⟩ (.int .i64 56))) ?hg ?ho ?hn ?hr ?_; (case ho => rfl); (case hg => rfl); (case hn => rfl); (case hr => first | (go_simp; done) | (go_simp; rfl)); intro w56 hw; have hg : w54.grownBy w56 (some go42) := (by rw [hw]; exact HP55.2); have hp_ : Kd.R k37 37 w56 w.heap.size (fun _ => True) (.slice (some ⟨go42, 0, none⟩) x7_14.length co31) y201 := (by rw [hw, Ny201.out]; exact HP55.1); clear HP55; have n0_ := Aside0.mk (hp_); have n1_ := Aside0.mk ((by rw [hw]; exact below_set (below_set (HB.out) GB42.out) GB42.out : Below w.heap.size w w56)); clear HO_7; clear HB; have HO_7 := n0_; have HB := n1_; clear n0_ n1_; clear hg hw hp_) | ((with_reducible refine gate_callee (f := 15) rfl ?_); refine goesL_ (some 139) rfl rfl Tryd.func15 (by kernel_rfl) rfl #[.slice (some ⟨go42, 0, none⟩) y201.length co31, .int .i64 (l0.length : Int)] rfl (by (try simp only [List.map_toArray, List.map_cons, List.map_nil]); first | done | (rw [show y201.length = x7_14.length from (Kd.R_reads' HO_7.out).1.symm] <;> rfl) | rfl | (simp only [List.length_drop, List.length_take]; rfl)) ?_; (with_reducible refine (tape_Read.calls _ _ y201 (l0.length : Int) t202 t203 t204 _ ?side1 ?side2 A43.out).mono ?_); (case side1 => repeat (first | exact (Kd.R_reads' HO_7.out).2.2 | (with_reducible refine Kd.C_alloc ?_ _) | (with_reducible refine Kd.C_drewN ?_ _) | (with_reducible refine Kd.C_drew ?_))); (case side2 => rw [show y201.length = x7_14.length from (Kd.R_reads' HO_7.out).1.symm]; exact (Kd.R_reads' HO_7.out).2.1); rintro e w57 ⟨v205, rfl, ho0, hb⟩; refine ⟨_, rfl, ?_⟩; have n0_ := Aside0.mk (Kd.R_below (by (with_reducible repeat (first | apply Kd.R_alloc | apply Kd.R_drewN | apply Kd.R_drew)); exact HO_7.out) hb); have n1_ := Aside0.mk (Kd.R_lower ho0 (below_size (by repeat (first | (with_reducible first | exact HB.out | apply below_alloc | apply pw_below_drewN | apply below_drew1) | exact HB.out)))); have n2_ := Aside0.mk (below_step (by repeat (first | (with_reducible first | exact HB.out | apply below_alloc | apply pw_below_drewN | apply below_drew1) | exact HB.out)) hb); clear HO_7; clear HB; have HO_7 := n0_; have HO206 := n1_; have HB := n2_; clear n0_ n1_ n2_; (try clear hb); (try clear hb2); (try clear hk); (try clear hi); (try clear ho0); obtain ⟨Ao58, co58, eo58⟩ := Kd.R_slice HO206.out; subst eo58))
                                      go_ret
                                      exact ⟨by first | rfl | (simp [errW_none, errW_some] <;> rfl) | (simp only [← hji38]; first | rfl | (simp [errW_none, errW_some] <;> rfl)) | (simp [*, errW_none, errW_some] <;> rfl), by repeat (first | (with_reducible first | exact HB.out | apply below_alloc | apply pw_below_drewN | apply below_drew1) | exact HB.out)⟩
                                  · rw [if_neg c45] at H
                                    have c45b0 : ((t202.length : Int) == 0) = false := beq_eq_false_iff_ne.mpr c45
                                    have c45b1 : ((t202.length : Int) != 0) = true := bne_iff_ne.mpr c45
                                    have c45b2 : ¬ (t202 = []) := fun h_ => c45 (by rw [h_]; rfl)
                                    obtain rfl := Option.some.inj H
                                    try go_wp2
                                    have n0_ := Aside0.mk (Kd.R_drew HO_7.out)
                                    have n1_ := Aside0.mk (below_drew1 HB.out)
                                    clear HO_7
                                    clear HB
                                    have HO_7 := n0_
                                    have HB := n1_
                                    clear n0_ n1_
                                    have p199 : 0 ≤ ((ji38) : Int) := of_decide_eq_true (by first | (with_reducible assumption) | assumption)
                                    have q199 : (ji38) < (x7_14.length : Int) := of_decide_eq_true (by first | (with_reducible assumption) | assumption)
                                    obtain ⟨ad199, e199, hx199_0, hx199_1⟩ := at_T37 (Kd.R_reads' HO_7.out).2.2 (ji38) p199 q199
                                    cases e199
                                    replace p199 := eq_true p199
                                    replace q199 := eq_true q199
                                    have p200 : 0 ≤ ((ji38) : Int) := of_decide_eq_true (by first | (with_reducible assumption) | assumption)
                                    have q200 : (ji38) < (x7_14.length : Int) := of_decide_eq_true (by first | (with_reducible assumption) | assumption)
                                    obtain ⟨ad200, e200, hx200_0, hx200_1⟩ := at_T37 (Kd.R_reads' HO_7.out).2.2 (ji38) p200 q200
                                    obtain rfl : ad199 = ad200 := (by injection e200)
                                    replace p200 := eq_true p200
                                    replace q200 := eq_true q200
                                    refine start_ (n := 12) (S := fun w' => w'.cell? (ad199.add (((ji38)).toNat * 2)) = some (.int .i64 ((rd_T37 x7_14 (ji38)).f0)) ∧ w'.cell? ⟨(ad199.add (((ji38)).toNat * 2)).block, (ad199.add (((ji38)).toNat * 2)).off + 1, none⟩ = some (.int .i64 ((rd_T37 x7_14 (ji38)).f1)) ∧ w'.cell? (ad199.add (((ji38)).toNat * 2)) = some (.int .i64 ((rd_T37 x7_14 (ji38)).f0)) ∧ w'.cell? ⟨(ad199.add (((ji38)).toNat * 2)).block, (ad199.add (((ji38)).toNat * 2)).off + 1, none⟩ = some (.int .i64 ((rd_T37 x7_14 (ji38)).f1))) (ds := []) #[false, false, false, false, false, false, false, false, false, false, false, false] (by kernel_rfl) rfl rfl ⟨hx199_0, hx199_1, hx200_0, hx200_1⟩ (fun hHeld => ?_); refine with_tabW vesperlaw12_TapeNear.tab16 vesperlaw12_TapeNear.bits16 (fun HT_ HW_ => ?_)
                                    generalize wc.drew = w59 at HO_7 HB hx199_0 hx199_1 hx200_0 hx200_1 hHeld ⊢
                                    refine pure_ (i := 0) (N := some 115) (v := ?_) (a' := ?_) #[true, false, false, false, false, false, false, false, false, false, false, false] rfl rfl (any_of HT_.out (by kernel_rfl)) (fun _ _ _ h => h) (Or.inl ⟨by rfl, ?_⟩) ?_ ?_
                                    rotate_left
                                    · intro w'
                                      go_simp
                                      with_reducible rfl
                                    rotate_left
                                    · simp only [Act.put, List.setIfInBounds_toArray, List.set_cons_zero, List.set_cons_succ, i64_w, i32_w]
                                      rfl
                                    refine pure_ (i := 1) (N := some 116) (v := ?_) (a' := ?_) #[true, true, false, false, false, false, false, false, false, false, false, false] rfl rfl (any_of HT_.out (by kernel_rfl)) (fun _ _ _ h => h) (Or.inl ⟨by rfl, ?_⟩) ?_ ?_
                                    rotate_left
                                    · intro w'
                                      go_simp
                                      with_reducible rfl
                                    rotate_left
                                    · simp only [Act.put, List.setIfInBounds_toArray, List.set_cons_zero, List.set_cons_succ, i64_w, i32_w]
                                      rfl
                                    refine pure_ (i := 2) (N := some 117) (v := ?_) (a' := ?_) #[true, true, true, false, false, false, false, false, false, false, false, false] rfl rfl (any_of HT_.out (by kernel_rfl)) (fun _ _ _ h => h) (Or.inl ⟨by rfl, ?_⟩) ?_ ?_
                                    rotate_left
                                    · intro w'
                                      go_simp
                                      with_reducible rfl
                                    rotate_left
                                    · simp only [Act.put, List.setIfInBounds_toArray, List.set_cons_zero, List.set_cons_succ, i64_w, i32_w]
                                      rfl
                                    refine pure_ (i := 3) (N := some 118) (v := ?_) (a' := ?_) #[true, true, true, true, false, false, false, false, false, false, false, false] rfl rfl (any_of HT_.out (by kernel_rfl)) (fun _ _ _ h => h) (Or.inl ⟨by rfl, ?_⟩) ?_ ?_
                                    rotate_left
                                    · intro w'
                                      go_simp
                                      with_reducible rfl
                                    rotate_left
                                    · simp only [Act.put, List.setIfInBounds_toArray, List.set_cons_zero, List.set_cons_succ, i64_w, i32_w]
                                      rfl
                                    refine pure_ (i := 5) (N := some 120) (v := ?_) (a' := ?_) #[true, true, true, true, false, true, false, false, false, false, false, false] rfl rfl (any_of HT_.out (by kernel_rfl)) (fun _ _ _ h => h) (Or.inl ⟨by rfl, ?_⟩) ?_ ?_
                                    rotate_left
                                    · intro w'
                                      go_simp
                                      with_reducible rfl
                                    rotate_left
                                    · simp only [Act.put, List.setIfInBounds_toArray, List.set_cons_zero, List.set_cons_succ, i64_w, i32_w]
                                      rfl
                                    refine pure_ (i := 6) (N := some 121) (v := ?_) (a' := ?_) #[true, true, true, true, false, true, true, false, false, false, false, false] rfl rfl (any_of HT_.out (by kernel_rfl)) (fun _ _ _ h => h) (Or.inl ⟨by rfl, ?_⟩) ?_ ?_
                                    rotate_left
                                    · intro w'
                                      go_simp
                                      with_reducible rfl
                                    rotate_left
                                    · simp only [Act.put, List.setIfInBounds_toArray, List.set_cons_zero, List.set_cons_succ, i64_w, i32_w]
                                      rfl
                                    refine pure_ (i := 7) (N := some 122) (v := ?_) (a' := ?_) #[true, true, true, true, false, true, true, true, false, false, false, false] rfl rfl (any_of HT_.out (by kernel_rfl)) (fun _ _ _ h => h) (Or.inl ⟨by rfl, ?_⟩) ?_ ?_
                                    rotate_left
                                    · intro w'
                                      go_simp
                                      with_reducible rfl
                                    rotate_left
                                    · simp only [Act.put, List.setIfInBounds_toArray, List.set_cons_zero, List.set_cons_succ, i64_w, i32_w]
                                      rfl
                                    refine pure_ (i := 8) (N := some 123) (v := ?_) (a' := ?_) #[true, true, true, true, false, true, true, true, true, false, false, false] rfl rfl (any_of HT_.out (by kernel_rfl)) (fun _ _ _ h => h) (Or.inl ⟨by rfl, ?_⟩) ?_ ?_
                                    rotate_left
                                    · intro w'
                                      go_simp
                                      with_reducible rfl
                                    rotate_left
                                    · simp only [Act.put, List.setIfInBounds_toArray, List.set_cons_zero, List.set_cons_succ, i64_w, i32_w]
                                      rfl
                                    refine take_ (i := 4) (N := some 119) (v := ?_) (a' := ?_) #[true, true, true, true, true, true, true, true, true, false, false, false] rfl rfl (take_ofW HT_.out HW_.out (by kernel_rfl)) (fun _ _ _ h => h) (Or.inl ⟨by rfl, ?_⟩) hHeld ?_ ?_
                                    rotate_left
                                    · rintro w' ⟨s0, s1, s2, s3⟩
                                      go_simp
                                      with_reducible rfl
                                    rotate_left
                                    · simp only [Act.put, List.setIfInBounds_toArray, List.set_cons_zero, List.set_cons_succ, i64_w, i32_w]
                                      rfl
                                    refine take_ (i := 9) (N := some 124) (v := ?_) (a' := ?_) #[true, true, true, true, true, true, true, true, true, true, false, false] rfl rfl (take_ofW HT_.out HW_.out (by kernel_rfl)) (fun _ _ _ h => h) (Or.inl ⟨by rfl, ?_⟩) hHeld ?_ ?_
                                    rotate_left
                                    · rintro w' ⟨s0, s1, s2, s3⟩
                                      go_simp
                                      with_reducible rfl
                                    rotate_left
                                    · simp only [Act.put, List.setIfInBounds_toArray, List.set_cons_zero, List.set_cons_succ, i64_w, i32_w]
                                      rfl
                                    refine pure_ (i := 10) (N := some 125) (v := ?_) (a' := ?_) #[true, true, true, true, true, true, true, true, true, true, true, false] rfl rfl (any_of HT_.out (by kernel_rfl)) (fun _ _ _ h => h) (Or.inl ⟨by rfl, ?_⟩) ?_ ?_
                                    rotate_left
                                    · intro w'
                                      go_simp
                                      with_reducible rfl
                                    rotate_left
                                    · simp only [Act.put, List.setIfInBounds_toArray, List.set_cons_zero, List.set_cons_succ, i64_w, i32_w]
                                      rfl
                                    refine pure_ (i := 11) (N := some 126) (v := ?_) (a' := ?_) #[true, true, true, true, true, true, true, true, true, true, true, true] rfl rfl (any_of HT_.out (by kernel_rfl)) (fun _ _ _ h => h) (Or.inl ⟨by rfl, ?_⟩) ?_ ?_
                                    rotate_left
                                    · intro w'
                                      go_simp
                                      with_reducible rfl
                                    rotate_left
                                    · simp only [Act.put, List.setIfInBounds_toArray, List.set_cons_zero, List.set_cons_succ, i64_w, i32_w]
                                      rfl
                                    refine done_ (done_of HT_.out (by kernel_rfl)) ?_
                                    have p42 : 0 ≤ ((ji38) : Int) := of_decide_eq_true (by first | (with_reducible assumption) | assumption)
                                    have q42 : ((ji38) : Int) < ((x7_14.length : Int) : Int) := of_decide_eq_true (by first | (with_reducible assumption) | assumption)
                                    obtain ⟨go42, co42, eo42, gb42, gl42, cl42, HG42⟩ := Kd.R_form HO_7.out (by omega)
                                    (first | cases eo42 | (injection eo42 with ea_ en_ ec_; (first | subst ea_ | (injection ea_ with ea_; subst ea_)); subst ec_; clear en_))
                                    have GB42 := Aside0.mk gb42
                                    have GG42 := Aside0.mk HG42
                                    clear gb42 gl42 HG42
                                    (first | simp only [add_plain] at hx199_0 | skip)
                                    (first | simp only [add_plain] at hx199_1 | skip)
                                    (first | simp only [add_plain] at hx200_0 | skip)
                                    (first | simp only [add_plain] at hx200_1 | skip)
                                    obtain ⟨ce42, hcl42, hM42, hcc42, hfr42⟩ := Kd.R_elem HO_7.out z37 ((ji38) : Int) p42 q42
                                    obtain rfl := k37_openM hM42
                                    have hx42_0 : w59.cell? ⟨go42, ((ji38) : Int).toNat * 2, none⟩ = some (.int .i64 ((rd_T37 x7_14 (ji38)).f0)) := hcc42 0 _ rfl
                                    have hx42_1 : w59.cell? ⟨go42, ((ji38) : Int).toNat * 2 + 1, none⟩ = some (.int .i64 ((rd_T37 x7_14 (ji38)).f1)) := hcc42 1 _ rfl
                                    have hf42_0 : w59.frozen? ⟨go42, ((ji38) : Int).toNat * 2, none⟩ = false := hfr42 0
                                    have hf42_1 : w59.frozen? ⟨go42, ((ji38) : Int).toNat * 2 + 1, none⟩ = false := hfr42 1
                                    clear hcl42 hcc42 hfr42 hM42
                                    replace p42 := eq_true p42
                                    replace q42 := eq_true q42
                                    have HX60 := Aside0.mk (show Kd.R k37 37 w59 w.heap.size (fun _ => True) (.slice (some ⟨go42, 0, none⟩) x7_14.length co31) x7_14 from (by (with_reducible repeat (first | apply Kd.R_alloc | apply Kd.R_drewN | apply Kd.R_drew)); exact HO_7.out))
                                    obtain ⟨ce60, hcl60, hM60, hcc60, hfr60⟩ := Kd.R_elem HX60.out z37 ((ji38) : Int) (of_decide_eq_true (by first | (with_reducible assumption) | assumption)) (by have h_ : ((ji38) : Int) < ((x7_14.length : Int) : Int) := of_decide_eq_true (by first | (with_reducible assumption) | assumption); first | exact h_ | (have e_ := (Kd.R_reads' HO_7.out).1; omega) | simpa using h_)
                                    obtain rfl := k37_openM hM60
                                    have HP60 := Kd.R_seg HX60.out ((ji38) : Int) (of_decide_eq_true (by first | (with_reducible assumption) | assumption)) (by have h_ : ((ji38) : Int) < ((x7_14.length : Int) : Int) := of_decide_eq_true (by first | (with_reducible assumption) | assumption); first | exact h_ | (have e_ := (Kd.R_reads' HO_7.out).1; omega) | simpa using h_) (seg := [.int .i64 56, .int .i64 56]) (j := 0) hcl60 hcc60 (show 2 ≤ 2 from by decide) (x' := (⟨56, 56⟩ : S37)) (k37_mkM _ _ _ (⟨56, 56⟩ : S37) ) (fun _ hk => hk)
                                    have hx60_0 := hcc60 0 _ rfl
                                    (try simp only [show (k37).sz = 2 from rfl, Nat.mul_one, Nat.add_zero] at hx60_0)
                                    have hf60_0 := hfr60 0
                                    (try simp only [show (k37).sz = 2 from rfl, Nat.mul_one, Nat.add_zero] at hf60_0)
                                    have hx60_1 := hcc60 1 _ rfl
                                    (try simp only [show (k37).sz = 2 from rfl, Nat.mul_one, Nat.add_zero] at hx60_1)
                                    have hf60_1 := hfr60 1
                                    (try simp only [show (k37).sz = 2 from rfl, Nat.mul_one, Nat.add_zero] at hf60_1)
                                    clear hcl60 hcc60 hfr60 hM60
                                    try go_wp2_with (first | ((with_reducible refine gate_store (t := 37) (p := 130) rfl ?_); refine store_event (t := 37) (p := 130) (v := ?vo_w61) (w1 := ((w59.setCell ⟨go42, ((ji38) : Int).toNat * 2, none⟩ (.int .i64 56)).setCell ⟨go42, ((ji38) : Int).toNat * 2 + 1, none⟩ (.int .i64 56))) ?hg ?ho ?hn ?hr ?_; (case ho => rfl); (case hg => rfl); (case hn => rfl); (case hr => first | (go_simp; done) | (go_simp; rfl)); intro w61 hw; have hg : w59.grownBy w61 (some go42) := (by rw [hw]; exact HP60.2); have hp_ : Kd.R k37 37 w61 w.heap.size (fun _ => True) (.slice (some ⟨go42, 0, none⟩) x7_14.length co31) y201 := (by rw [hw, Ny201.out]; exact HP60.1); clear HP60; have n0_ := Aside0.mk (hp_); have n1_ := Aside0.mk ((by rw [hw]; exact below_set (below_set (HB.out) GB42.out) GB42.out : Below w.heap.size w w61)); clear HO_7; clear HB; have HO_7 := n0_; have HB := n1_; clear n0_ n1_; clear hg hw hp_) | ((with_reducible refine gate_callee (f := 15) rfl ?_); refine goesL_ (some 139) rfl rfl Tryd.func15 (by kernel_rfl) rfl #[.slice (some ⟨go42, 0, none⟩) y201.length co31, .int .i64 (l0.length : Int)] rfl (by (try simp only [List.map_toArray, List.map_cons, List.map_nil]); first | done | (rw [show y201.length = x7_14.length from (Kd.R_reads' HO_7.out).1.symm] <;> rfl) | rfl | (simp only [List.length_drop, List.length_take]; rfl)) ?_; (with_reducible refine (tape_Read.calls _ _ y201 (l0.length : Int) t202 t203 t204 _ ?side1 ?side2 A43.out).mono ?_); (case side1 => repeat (first | exact (Kd.R_reads' HO_7.out).2.2 | (with_reducible refine Kd.C_alloc ?_ _) | (with_reducible refine Kd.C_drewN ?_ _) | (with_reducible refine Kd.C_drew ?_))); (case side2 => rw [show y201.length = x7_14.length from (Kd.R_reads' HO_7.out).1.symm]; exact (Kd.R_reads' HO_7.out).2.1); rintro e w62 ⟨v205, rfl, ho0, hb⟩; refine ⟨_, rfl, ?_⟩; have n0_ := Aside0.mk (Kd.R_below (by (with_reducible repeat (first | apply Kd.R_alloc | apply Kd.R_drewN | apply Kd.R_drew)); exact HO_7.out) hb); have n1_ := Aside0.mk (Kd.R_lower ho0 (below_size (by repeat (first | (with_reducible first | exact HB.out | apply below_alloc | apply pw_below_drewN | apply below_drew1) | exact HB.out)))); have n2_ := Aside0.mk (below_step (by repeat (first | (with_reducible first | exact HB.out | apply below_alloc | apply pw_below_drewN | apply below_drew1) | exact HB.out)) hb); clear HO_7; clear HB; have HO_7 := n0_; have HO206 := n1_; have HB := n2_; clear n0_ n1_ n2_; (try clear hb); (try clear hb2); (try clear hk); (try clear hi); (try clear ho0); obtain ⟨Ao63, co63, eo63⟩ := Kd.R_slice HO206.out; subst eo63))
                                    go_ret
                                    exact ⟨by first | rfl | (simp [errW_none, errW_some] <;> rfl) | (simp only [← hji38]; first | rfl | (simp [errW_none, errW_some] <;> rfl)) | (simp [*, errW_none, errW_some] <;> rfl), by repeat (first | (with_reducible first | exact HB.out | apply below_alloc | apply pw_below_drewN | apply below_drew1) | exact HB.out)⟩
                                · rw [if_neg c44] at H
                                  have c44b0 : (t203 == 121) = false := beq_eq_false_iff_ne.mpr c44
                                  have c44b1 : (t203 != 121) = true := bne_iff_ne.mpr c44
                                  obtain rfl := Option.some.inj H
                                  try go_wp2
                                  have n0_ := Aside0.mk (Kd.R_drew HO_7.out)
                                  have n1_ := Aside0.mk (below_drew1 HB.out)
                                  clear HO_7
                                  clear HB
                                  have HO_7 := n0_
                                  have HB := n1_
                                  clear n0_ n1_
                                  have p199 : 0 ≤ ((ji38) : Int) := of_decide_eq_true (by first | (with_reducible assumption) | assumption)
                                  have q199 : (ji38) < (x7_14.length : Int) := of_decide_eq_true (by first | (with_reducible assumption) | assumption)
                                  obtain ⟨ad199, e199, hx199_0, hx199_1⟩ := at_T37 (Kd.R_reads' HO_7.out).2.2 (ji38) p199 q199
                                  cases e199
                                  replace p199 := eq_true p199
                                  replace q199 := eq_true q199
                                  have p200 : 0 ≤ ((ji38) : Int) := of_decide_eq_true (by first | (with_reducible assumption) | assumption)
                                  have q200 : (ji38) < (x7_14.length : Int) := of_decide_eq_true (by first | (with_reducible assumption) | assumption)
                                  obtain ⟨ad200, e200, hx200_0, hx200_1⟩ := at_T37 (Kd.R_reads' HO_7.out).2.2 (ji38) p200 q200
                                  obtain rfl : ad199 = ad200 := (by injection e200)
                                  replace p200 := eq_true p200
                                  replace q200 := eq_true q200
                                  refine start_ (n := 12) (S := fun w' => w'.cell? (ad199.add (((ji38)).toNat * 2)) = some (.int .i64 ((rd_T37 x7_14 (ji38)).f0)) ∧ w'.cell? ⟨(ad199.add (((ji38)).toNat * 2)).block, (ad199.add (((ji38)).toNat * 2)).off + 1, none⟩ = some (.int .i64 ((rd_T37 x7_14 (ji38)).f1)) ∧ w'.cell? (ad199.add (((ji38)).toNat * 2)) = some (.int .i64 ((rd_T37 x7_14 (ji38)).f0)) ∧ w'.cell? ⟨(ad199.add (((ji38)).toNat * 2)).block, (ad199.add (((ji38)).toNat * 2)).off + 1, none⟩ = some (.int .i64 ((rd_T37 x7_14 (ji38)).f1))) (ds := []) #[false, false, false, false, false, false, false, false, false, false, false, false] (by kernel_rfl) rfl rfl ⟨hx199_0, hx199_1, hx200_0, hx200_1⟩ (fun hHeld => ?_); refine with_tabW vesperlaw12_TapeNear.tab16 vesperlaw12_TapeNear.bits16 (fun HT_ HW_ => ?_)
                                  generalize wc.drew = w64 at HO_7 HB hx199_0 hx199_1 hx200_0 hx200_1 hHeld ⊢
                                  refine pure_ (i := 0) (N := some 115) (v := ?_) (a' := ?_) #[true, false, false, false, false, false, false, false, false, false, false, false] rfl rfl (any_of HT_.out (by kernel_rfl)) (fun _ _ _ h => h) (Or.inl ⟨by rfl, ?_⟩) ?_ ?_
                                  rotate_left
                                  · intro w'
                                    go_simp
                                    with_reducible rfl
                                  rotate_left
                                  · simp only [Act.put, List.setIfInBounds_toArray, List.set_cons_zero, List.set_cons_succ, i64_w, i32_w]
                                    rfl
                                  refine pure_ (i := 1) (N := some 116) (v := ?_) (a' := ?_) #[true, true, false, false, false, false, false, false, false, false, false, false] rfl rfl (any_of HT_.out (by kernel_rfl)) (fun _ _ _ h => h) (Or.inl ⟨by rfl, ?_⟩) ?_ ?_
                                  rotate_left
                                  · intro w'
                                    go_simp
                                    with_reducible rfl
                                  rotate_left
                                  · simp only [Act.put, List.setIfInBounds_toArray, List.set_cons_zero, List.set_cons_succ, i64_w, i32_w]
                                    rfl
                                  refine pure_ (i := 2) (N := some 117) (v := ?_) (a' := ?_) #[true, true, true, false, false, false, false, false, false, false, false, false] rfl rfl (any_of HT_.out (by kernel_rfl)) (fun _ _ _ h => h) (Or.inl ⟨by rfl, ?_⟩) ?_ ?_
                                  rotate_left
                                  · intro w'
                                    go_simp
                                    with_reducible rfl
                                  rotate_left
                                  · simp only [Act.put, List.setIfInBounds_toArray, List.set_cons_zero, List.set_cons_succ, i64_w, i32_w]
                                    rfl
                                  refine pure_ (i := 3) (N := some 118) (v := ?_) (a' := ?_) #[true, true, true, true, false, false, false, false, false, false, false, false] rfl rfl (any_of HT_.out (by kernel_rfl)) (fun _ _ _ h => h) (Or.inl ⟨by rfl, ?_⟩) ?_ ?_
                                  rotate_left
                                  · intro w'
                                    go_simp
                                    with_reducible rfl
                                  rotate_left
                                  · simp only [Act.put, List.setIfInBounds_toArray, List.set_cons_zero, List.set_cons_succ, i64_w, i32_w]
                                    rfl
                                  refine pure_ (i := 5) (N := some 120) (v := ?_) (a' := ?_) #[true, true, true, true, false, true, false, false, false, false, false, false] rfl rfl (any_of HT_.out (by kernel_rfl)) (fun _ _ _ h => h) (Or.inl ⟨by rfl, ?_⟩) ?_ ?_
                                  rotate_left
                                  · intro w'
                                    go_simp
                                    with_reducible rfl
                                  rotate_left
                                  · simp only [Act.put, List.setIfInBounds_toArray, List.set_cons_zero, List.set_cons_succ, i64_w, i32_w]
                                    rfl
                                  refine pure_ (i := 6) (N := some 121) (v := ?_) (a' := ?_) #[true, true, true, true, false, true, true, false, false, false, false, false] rfl rfl (any_of HT_.out (by kernel_rfl)) (fun _ _ _ h => h) (Or.inl ⟨by rfl, ?_⟩) ?_ ?_
                                  rotate_left
                                  · intro w'
                                    go_simp
                                    with_reducible rfl
                                  rotate_left
                                  · simp only [Act.put, List.setIfInBounds_toArray, List.set_cons_zero, List.set_cons_succ, i64_w, i32_w]
                                    rfl
                                  refine pure_ (i := 7) (N := some 122) (v := ?_) (a' := ?_) #[true, true, true, true, false, true, true, true, false, false, false, false] rfl rfl (any_of HT_.out (by kernel_rfl)) (fun _ _ _ h => h) (Or.inl ⟨by rfl, ?_⟩) ?_ ?_
                                  rotate_left
                                  · intro w'
                                    go_simp
                                    with_reducible rfl
                                  rotate_left
                                  · simp only [Act.put, List.setIfInBounds_toArray, List.set_cons_zero, List.set_cons_succ, i64_w, i32_w]
                                    rfl
                                  refine pure_ (i := 8) (N := some 123) (v := ?_) (a' := ?_) #[true, true, true, true, false, true, true, true, true, false, false, false] rfl rfl (any_of HT_.out (by kernel_rfl)) (fun _ _ _ h => h) (Or.inl ⟨by rfl, ?_⟩) ?_ ?_
                                  rotate_left
                                  · intro w'
                                    go_simp
                                    with_reducible rfl
                                  rotate_left
                                  · simp only [Act.put, List.setIfInBounds_toArray, List.set_cons_zero, List.set_cons_succ, i64_w, i32_w]
                                    rfl
                                  refine take_ (i := 4) (N := some 119) (v := ?_) (a' := ?_) #[true, true, true, true, true, true, true, true, true, false, false, false] rfl rfl (take_ofW HT_.out HW_.out (by kernel_rfl)) (fun _ _ _ h => h) (Or.inl ⟨by rfl, ?_⟩) hHeld ?_ ?_
                                  rotate_left
                                  · rintro w' ⟨s0, s1, s2, s3⟩
                                    go_simp
                                    with_reducible rfl
                                  rotate_left
                                  · simp only [Act.put, List.setIfInBounds_toArray, List.set_cons_zero, List.set_cons_succ, i64_w, i32_w]
                                    rfl
                                  refine take_ (i := 9) (N := some 124) (v := ?_) (a' := ?_) #[true, true, true, true, true, true, true, true, true, true, false, false] rfl rfl (take_ofW HT_.out HW_.out (by kernel_rfl)) (fun _ _ _ h => h) (Or.inl ⟨by rfl, ?_⟩) hHeld ?_ ?_
                                  rotate_left
                                  · rintro w' ⟨s0, s1, s2, s3⟩
                                    go_simp
                                    with_reducible rfl
                                  rotate_left
                                  · simp only [Act.put, List.setIfInBounds_toArray, List.set_cons_zero, List.set_cons_succ, i64_w, i32_w]
                                    rfl
                                  refine pure_ (i := 10) (N := some 125) (v := ?_) (a' := ?_) #[true, true, true, true, true, true, true, true, true, true, true, false] rfl rfl (any_of HT_.out (by kernel_rfl)) (fun _ _ _ h => h) (Or.inl ⟨by rfl, ?_⟩) ?_ ?_
                                  rotate_left
                                  · intro w'
                                    go_simp
                                    with_reducible rfl
                                  rotate_left
                                  · simp only [Act.put, List.setIfInBounds_toArray, List.set_cons_zero, List.set_cons_succ, i64_w, i32_w]
                                    rfl
                                  refine pure_ (i := 11) (N := some 126) (v := ?_) (a' := ?_) #[true, true, true, true, true, true, true, true, true, true, true, true] rfl rfl (any_of HT_.out (by kernel_rfl)) (fun _ _ _ h => h) (Or.inl ⟨by rfl, ?_⟩) ?_ ?_
                                  rotate_left
                                  · intro w'
                                    go_simp
                                    with_reducible rfl
                                  rotate_left
                                  · simp only [Act.put, List.setIfInBounds_toArray, List.set_cons_zero, List.set_cons_succ, i64_w, i32_w]
                                    rfl
                                  refine done_ (done_of HT_.out (by kernel_rfl)) ?_
                                  have p42 : 0 ≤ ((ji38) : Int) := of_decide_eq_true (by first | (with_reducible assumption) | assumption)
                                  have q42 : ((ji38) : Int) < ((x7_14.length : Int) : Int) := of_decide_eq_true (by first | (with_reducible assumption) | assumption)
                                  obtain ⟨go42, co42, eo42, gb42, gl42, cl42, HG42⟩ := Kd.R_form HO_7.out (by omega)
                                  (first | cases eo42 | (injection eo42 with ea_ en_ ec_; (first | subst ea_ | (injection ea_ with ea_; subst ea_)); subst ec_; clear en_))
                                  have GB42 := Aside0.mk gb42
                                  have GG42 := Aside0.mk HG42
                                  clear gb42 gl42 HG42
                                  (first | simp only [add_plain] at hx199_0 | skip)
                                  (first | simp only [add_plain] at hx199_1 | skip)
                                  (first | simp only [add_plain] at hx200_0 | skip)
                                  (first | simp only [add_plain] at hx200_1 | skip)
                                  obtain ⟨ce42, hcl42, hM42, hcc42, hfr42⟩ := Kd.R_elem HO_7.out z37 ((ji38) : Int) p42 q42
                                  obtain rfl := k37_openM hM42
                                  have hx42_0 : w64.cell? ⟨go42, ((ji38) : Int).toNat * 2, none⟩ = some (.int .i64 ((rd_T37 x7_14 (ji38)).f0)) := hcc42 0 _ rfl
                                  have hx42_1 : w64.cell? ⟨go42, ((ji38) : Int).toNat * 2 + 1, none⟩ = some (.int .i64 ((rd_T37 x7_14 (ji38)).f1)) := hcc42 1 _ rfl
                                  have hf42_0 : w64.frozen? ⟨go42, ((ji38) : Int).toNat * 2, none⟩ = false := hfr42 0
                                  have hf42_1 : w64.frozen? ⟨go42, ((ji38) : Int).toNat * 2 + 1, none⟩ = false := hfr42 1
                                  clear hcl42 hcc42 hfr42 hM42
                                  replace p42 := eq_true p42
                                  replace q42 := eq_true q42
                                  have HX65 := Aside0.mk (show Kd.R k37 37 w64 w.heap.size (fun _ => True) (.slice (some ⟨go42, 0, none⟩) x7_14.length co31) x7_14 from (by (with_reducible repeat (first | apply Kd.R_alloc | apply Kd.R_drewN | apply Kd.R_drew)); exact HO_7.out))
                                  obtain ⟨ce65, hcl65, hM65, hcc65, hfr65⟩ := Kd.R_elem HX65.out z37 ((ji38) : Int) (of_decide_eq_true (by first | (with_reducible assumption) | assumption)) (by have h_ : ((ji38) : Int) < ((x7_14.length : Int) : Int) := of_decide_eq_true (by first | (with_reducible assumption) | assumption); first | exact h_ | (have e_ := (Kd.R_reads' HO_7.out).1; omega) | simpa using h_)
                                  obtain rfl := k37_openM hM65
                                  have HP65 := Kd.R_seg HX65.out ((ji38) : Int) (of_decide_eq_true (by first | (with_reducible assumption) | assumption)) (by have h_ : ((ji38) : Int) < ((x7_14.length : Int) : Int) := of_decide_eq_true (by first | (with_reducible assumption) | assumption); first | exact h_ | (have e_ := (Kd.R_reads' HO_7.out).1; omega) | simpa using h_) (seg := [.int .i64 56, .int .i64 56]) (j := 0) hcl65 hcc65 (show 2 ≤ 2 from by decide) (x' := (⟨56, 56⟩ : S37)) (k37_mkM _ _ _ (⟨56, 56⟩ : S37) ) (fun _ hk => hk)
                                  have hx65_0 := hcc65 0 _ rfl
                                  (try simp only [show (k37).sz = 2 from rfl, Nat.mul_one, Nat.add_zero] at hx65_0)
                                  have hf65_0 := hfr65 0
                                  (try simp only [show (k37).sz = 2 from rfl, Nat.mul_one, Nat.add_zero] at hf65_0)
                                  have hx65_1 := hcc65 1 _ rfl
                                  (try simp only [show (k37).sz = 2 from rfl, Nat.mul_one, Nat.add_zero] at hx65_1)
                                  have hf65_1 := hfr65 1
                                  (try simp only [show (k37).sz = 2 from rfl, Nat.mul_one, Nat.add_zero] at hf65_1)
                                  clear hcl65 hcc65 hfr65 hM65
                                  try go_wp2_with (first | ((with_reducible refine gate_store (t := 37) (p := 130) rfl ?_); refine store_event (t := 37) (p := 130) (v := ?vo_w66) (w1 := ((w64.setCell ⟨go42, ((ji38) : Int).toNat * 2, none⟩ (.int .i64 56)).setCell ⟨go42, ((ji38) : Int).toNat * 2 + 1, none⟩ (.int .i64 56))) ?hg ?ho ?hn ?hr ?_; (case ho => rfl); (case hg => rfl); (case hn => rfl); (case hr => first | (go_simp; done) | (go_simp; rfl)); intro w66 hw; have hg : w64.grownBy w66 (some go42) := (by rw [hw]; exact HP65.2); have hp_ : Kd.R k37 37 w66 w.heap.size (fun _ => True) (.slice (some ⟨go42, 0, none⟩) x7_14.length co31) y201 := (by rw [hw, Ny201.out]; exact HP65.1); clear HP65; have n0_ := Aside0.mk (hp_); have n1_ := Aside0.mk ((by rw [hw]; exact below_set (below_set (HB.out) GB42.out) GB42.out : Below w.heap.size w w66)); clear HO_7; clear HB; have HO_7 := n0_; have HB := n1_; clear n0_ n1_; clear hg hw hp_) | ((with_reducible refine gate_callee (f := 15) rfl ?_); refine goesL_ (some 139) rfl rfl Tryd.func15 (by kernel_rfl) rfl #[.slice (some ⟨go42, 0, none⟩) y201.length co31, .int .i64 (l0.length : Int)] rfl (by (try simp only [List.map_toArray, List.map_cons, List.map_nil]); first | done | (rw [show y201.length = x7_14.length from (Kd.R_reads' HO_7.out).1.symm] <;> rfl) | rfl | (simp only [List.length_drop, List.length_take]; rfl)) ?_; (with_reducible refine (tape_Read.calls _ _ y201 (l0.length : Int) t202 t203 t204 _ ?side1 ?side2 A43.out).mono ?_); (case side1 => repeat (first | exact (Kd.R_reads' HO_7.out).2.2 | (with_reducible refine Kd.C_alloc ?_ _) | (with_reducible refine Kd.C_drewN ?_ _) | (with_reducible refine Kd.C_drew ?_))); (case side2 => rw [show y201.length = x7_14.length from (Kd.R_reads' HO_7.out).1.symm]; exact (Kd.R_reads' HO_7.out).2.1); rintro e w67 ⟨v205, rfl, ho0, hb⟩; refine ⟨_, rfl, ?_⟩; have n0_ := Aside0.mk (Kd.R_below (by (with_reducible repeat (first | apply Kd.R_alloc | apply Kd.R_drewN | apply Kd.R_drew)); exact HO_7.out) hb); have n1_ := Aside0.mk (Kd.R_lower ho0 (below_size (by repeat (first | (with_reducible first | exact HB.out | apply below_alloc | apply pw_below_drewN | apply below_drew1) | exact HB.out)))); have n2_ := Aside0.mk (below_step (by repeat (first | (with_reducible first | exact HB.out | apply below_alloc | apply pw_below_drewN | apply below_drew1) | exact HB.out)) hb); clear HO_7; clear HB; have HO_7 := n0_; have HO206 := n1_; have HB := n2_; clear n0_ n1_ n2_; (try clear hb); (try clear hb2); (try clear hk); (try clear hi); (try clear ho0)))
                                  go_ret
                                  exact ⟨by first | rfl | (simp [errW_none, errW_some] <;> rfl) | (simp only [← hji38]; first | rfl | (simp [errW_none, errW_some] <;> rfl)) | (simp [*, errW_none, errW_some] <;> rfl), by repeat (first | (with_reducible first | exact HB.out | apply below_alloc | apply pw_below_drewN | apply below_drew1) | exact HB.out)⟩
                              · rw [if_neg c41] at H
                                have c41b0 : decide (195 < (wrap64 (((rd_T37 x7_14 (ji38)).f0) + ((rd_T37 x7_14 (ji38)).f1)))) = false := decide_eq_false c41
                                clear c41
                                obtain ⟨y208, hy208⟩ : ∃ y_ : List (S37), y_ = (x7_14.set ((ji38) : Int).toNat (⟨140, 140⟩ : S37)) := ⟨_, rfl⟩
                                replace H : ((tape_Read.f y208 (l0.length : Int)).bind fun bt209 => (if bt209.2.1 = 121 then (if (bt209.1.length : Int) = 0 then (if bt209.2.2 = (wrap64 ((wrap64 (3 + (wrap64 ((wrap64 (Int.tdiv (Int.tmod (Go.bits .and .i64 a2 1048575) (wrap64 (9 * (l0.length : Int)))) 9)) * 10)))) + 9)) then ((vesperlaw12_awake.f kj29).bind fun t214 => (some t214)) else (some false)) else (some false)) else (some false))) = some r := by first | (rw [hy208]; with_reducible exact H) | (have H2_ := (Option.bind_some _ _).symm.trans H; rw [hy208]; with_reducible exact H2_) | (have H2_ := (Option.bind_some _ _).symm.trans H; with_reducible exact H2_) | with_reducible exact H | (rw [hy208]; exact H) | exact H
                                have Ny208 := Aside0.mk hy208
                                clear hy208
                                replace H := Option.bind_eq_some_iff.mp H
                                obtain ⟨⟨t209, t210, t211⟩, A690, H⟩ := H
                                replace H : (if t210 = 121 then (if (t209.length : Int) = 0 then (if t211 = (wrap64 ((wrap64 (3 + (wrap64 ((wrap64 (Int.tdiv (Int.tmod (Go.bits .and .i64 a2 1048575) (wrap64 (9 * (l0.length : Int)))) 9)) * 10)))) + 9)) then ((vesperlaw12_awake.f kj29).bind fun t214 => (some t214)) else (some false)) else (some false)) else (some false)) = some r := H
                                have A69 := Aside0.mk A690
                                clear A690
                                by_cases c70 : t210 = 121
                                · rw [if_pos c70] at H
                                  have c70b0 : (t210 == 121) = true := beq_iff_eq.mpr c70
                                  have c70b1 : (t210 != 121) = false := bne_eq_false_iff_eq.mpr c70
                                  clear c70
                                  by_cases c71 : (t209.length : Int) = 0
                                  · rw [if_pos c71] at H
                                    have c71b0 : ((t209.length : Int) == 0) = true := beq_iff_eq.mpr c71
                                    have c71b1 : ((t209.length : Int) != 0) = false := bne_eq_false_iff_eq.mpr c71
                                    clear c71
                                    by_cases c72 : t211 = (wrap64 ((wrap64 (3 + (wrap64 ((wrap64 (Int.tdiv (Int.tmod (Go.bits .and .i64 a2 1048575) (wrap64 (9 * (l0.length : Int)))) 9)) * 10)))) + 9))
                                    · rw [if_pos c72] at H
                                      have c72b0 : (t211 == (wrap64 ((wrap64 (3 + (wrap64 ((wrap64 (Int.tdiv (Int.tmod (Go.bits .and .i64 a2 1048575) (wrap64 (9 * (l0.length : Int)))) 9)) * 10)))) + 9))) = true := beq_iff_eq.mpr c72
                                      have c72b1 : (t211 != (wrap64 ((wrap64 (3 + (wrap64 ((wrap64 (Int.tdiv (Int.tmod (Go.bits .and .i64 a2 1048575) (wrap64 (9 * (l0.length : Int)))) 9)) * 10)))) + 9))) = false := bne_eq_false_iff_eq.mpr c72
                                      clear c72
                                      replace H := Option.bind_eq_some_iff.mp H
                                      obtain ⟨t214, A730, H⟩ := H
                                      replace H : (some t214) = some r := H
                                      have A73 := Aside0.mk A730
                                      clear A730
                                      obtain rfl := Option.some.inj H
                                      try go_wp2
                                      have n0_ := Aside0.mk (Kd.R_drew HO_7.out)
                                      have n1_ := Aside0.mk (below_drew1 HB.out)
                                      clear HO_7
                                      clear HB
                                      have HO_7 := n0_
                                      have HB := n1_
                                      clear n0_ n1_
                                      have p199 : 0 ≤ ((ji38) : Int) := of_decide_eq_true (by first | (with_reducible assumption) | assumption)
                                      have q199 : (ji38) < (x7_14.length : Int) := of_decide_eq_true (by first | (with_reducible assumption) | assumption)
                                      obtain ⟨ad199, e199, hx199_0, hx199_1⟩ := at_T37 (Kd.R_reads' HO_7.out).2.2 (ji38) p199 q199
                                      cases e199
                                      replace p199 := eq_true p199
                                      replace q199 := eq_true q199
                                      have p200 : 0 ≤ ((ji38) : Int) := of_decide_eq_true (by first | (with_reducible assumption) | assumption)
                                      have q200 : (ji38) < (x7_14.length : Int) := of_decide_eq_true (by first | (with_reducible assumption) | assumption)
                                      obtain ⟨ad200, e200, hx200_0, hx200_1⟩ := at_T37 (Kd.R_reads' HO_7.out).2.2 (ji38) p200 q200
                                      obtain rfl : ad199 = ad200 := (by injection e200)
                                      replace p200 := eq_true p200
                                      replace q200 := eq_true q200
                                      refine start_ (n := 12) (S := fun w' => w'.cell? (ad199.add (((ji38)).toNat * 2)) = some (.int .i64 ((rd_T37 x7_14 (ji38)).f0)) ∧ w'.cell? ⟨(ad199.add (((ji38)).toNat * 2)).block, (ad199.add (((ji38)).toNat * 2)).off + 1, none⟩ = some (.int .i64 ((rd_T37 x7_14 (ji38)).f1)) ∧ w'.cell? (ad199.add (((ji38)).toNat * 2)) = some (.int .i64 ((rd_T37 x7_14 (ji38)).f0)) ∧ w'.cell? ⟨(ad199.add (((ji38)).toNat * 2)).block, (ad199.add (((ji38)).toNat * 2)).off + 1, none⟩ = some (.int .i64 ((rd_T37 x7_14 (ji38)).f1))) (ds := []) #[false, false, false, false, false, false, false, false, false, false, false, false] (by kernel_rfl) rfl rfl ⟨hx199_0, hx199_1, hx200_0, hx200_1⟩ (fun hHeld => ?_); refine with_tabW vesperlaw12_TapeNear.tab16 vesperlaw12_TapeNear.bits16 (fun HT_ HW_ => ?_)
                                      generalize wc.drew = w74 at HO_7 HB hx199_0 hx199_1 hx200_0 hx200_1 hHeld ⊢
                                      refine pure_ (i := 0) (N := some 115) (v := ?_) (a' := ?_) #[true, false, false, false, false, false, false, false, false, false, false, false] rfl rfl (any_of HT_.out (by kernel_rfl)) (fun _ _ _ h => h) (Or.inl ⟨by rfl, ?_⟩) ?_ ?_
                                      rotate_left
                                      · intro w'
                                        go_simp
                                        with_reducible rfl
                                      rotate_left
                                      · simp only [Act.put, List.setIfInBounds_toArray, List.set_cons_zero, List.set_cons_succ, i64_w, i32_w]
                                        rfl
                                      refine pure_ (i := 1) (N := some 116) (v := ?_) (a' := ?_) #[true, true, false, false, false, false, false, false, false, false, false, false] rfl rfl (any_of HT_.out (by kernel_rfl)) (fun _ _ _ h => h) (Or.inl ⟨by rfl, ?_⟩) ?_ ?_
                                      rotate_left
                                      · intro w'
                                        go_simp
                                        with_reducible rfl
                                      rotate_left
                                      · simp only [Act.put, List.setIfInBounds_toArray, List.set_cons_zero, List.set_cons_succ, i64_w, i32_w]
                                        rfl
                                      refine pure_ (i := 2) (N := some 117) (v := ?_) (a' := ?_) #[true, true, true, false, false, false, false, false, false, false, false, false] rfl rfl (any_of HT_.out (by kernel_rfl)) (fun _ _ _ h => h) (Or.inl ⟨by rfl, ?_⟩) ?_ ?_
                                      rotate_left
                                      · intro w'
                                        go_simp
                                        with_reducible rfl
                                      rotate_left
                                      · simp only [Act.put, List.setIfInBounds_toArray, List.set_cons_zero, List.set_cons_succ, i64_w, i32_w]
                                        rfl
                                      refine pure_ (i := 3) (N := some 118) (v := ?_) (a' := ?_) #[true, true, true, true, false, false, false, false, false, false, false, false] rfl rfl (any_of HT_.out (by kernel_rfl)) (fun _ _ _ h => h) (Or.inl ⟨by rfl, ?_⟩) ?_ ?_
                                      rotate_left
                                      · intro w'
                                        go_simp
                                        with_reducible rfl
                                      rotate_left
                                      · simp only [Act.put, List.setIfInBounds_toArray, List.set_cons_zero, List.set_cons_succ, i64_w, i32_w]
                                        rfl
                                      refine pure_ (i := 5) (N := some 120) (v := ?_) (a' := ?_) #[true, true, true, true, false, true, false, false, false, false, false, false] rfl rfl (any_of HT_.out (by kernel_rfl)) (fun _ _ _ h => h) (Or.inl ⟨by rfl, ?_⟩) ?_ ?_
                                      rotate_left
                                      · intro w'
                                        go_simp
                                        with_reducible rfl
                                      rotate_left
                                      · simp only [Act.put, List.setIfInBounds_toArray, List.set_cons_zero, List.set_cons_succ, i64_w, i32_w]
                                        rfl
                                      refine pure_ (i := 6) (N := some 121) (v := ?_) (a' := ?_) #[true, true, true, true, false, true, true, false, false, false, false, false] rfl rfl (any_of HT_.out (by kernel_rfl)) (fun _ _ _ h => h) (Or.inl ⟨by rfl, ?_⟩) ?_ ?_
                                      rotate_left
                                      · intro w'
                                        go_simp
                                        with_reducible rfl
                                      rotate_left
                                      · simp only [Act.put, List.setIfInBounds_toArray, List.set_cons_zero, List.set_cons_succ, i64_w, i32_w]
                                        rfl
                                      refine pure_ (i := 7) (N := some 122) (v := ?_) (a' := ?_) #[true, true, true, true, false, true, true, true, false, false, false, false] rfl rfl (any_of HT_.out (by kernel_rfl)) (fun _ _ _ h => h) (Or.inl ⟨by rfl, ?_⟩) ?_ ?_
                                      rotate_left
                                      · intro w'
                                        go_simp
                                        with_reducible rfl
                                      rotate_left
                                      · simp only [Act.put, List.setIfInBounds_toArray, List.set_cons_zero, List.set_cons_succ, i64_w, i32_w]
                                        rfl
                                      refine pure_ (i := 8) (N := some 123) (v := ?_) (a' := ?_) #[true, true, true, true, false, true, true, true, true, false, false, false] rfl rfl (any_of HT_.out (by kernel_rfl)) (fun _ _ _ h => h) (Or.inl ⟨by rfl, ?_⟩) ?_ ?_
                                      rotate_left
                                      · intro w'
                                        go_simp
                                        with_reducible rfl
                                      rotate_left
                                      · simp only [Act.put, List.setIfInBounds_toArray, List.set_cons_zero, List.set_cons_succ, i64_w, i32_w]
                                        rfl
                                      refine take_ (i := 4) (N := some 119) (v := ?_) (a' := ?_) #[true, true, true, true, true, true, true, true, true, false, false, false] rfl rfl (take_ofW HT_.out HW_.out (by kernel_rfl)) (fun _ _ _ h => h) (Or.inl ⟨by rfl, ?_⟩) hHeld ?_ ?_
                                      rotate_left
                                      · rintro w' ⟨s0, s1, s2, s3⟩
                                        go_simp
                                        with_reducible rfl
                                      rotate_left
                                      · simp only [Act.put, List.setIfInBounds_toArray, List.set_cons_zero, List.set_cons_succ, i64_w, i32_w]
                                        rfl
                                      refine take_ (i := 9) (N := some 124) (v := ?_) (a' := ?_) #[true, true, true, true, true, true, true, true, true, true, false, false] rfl rfl (take_ofW HT_.out HW_.out (by kernel_rfl)) (fun _ _ _ h => h) (Or.inl ⟨by rfl, ?_⟩) hHeld ?_ ?_
                                      rotate_left
                                      · rintro w' ⟨s0, s1, s2, s3⟩
                                        go_simp
                                        with_reducible rfl
                                      rotate_left
                                      · simp only [Act.put, List.setIfInBounds_toArray, List.set_cons_zero, List.set_cons_succ, i64_w, i32_w]
                                        rfl
                                      refine pure_ (i := 10) (N := some 125) (v := ?_) (a' := ?_) #[true, true, true, true, true, true, true, true, true, true, true, false] rfl rfl (any_of HT_.out (by kernel_rfl)) (fun _ _ _ h => h) (Or.inl ⟨by rfl, ?_⟩) ?_ ?_
                                      rotate_left
                                      · intro w'
                                        go_simp
                                        with_reducible rfl
                                      rotate_left
                                      · simp only [Act.put, List.setIfInBounds_toArray, List.set_cons_zero, List.set_cons_succ, i64_w, i32_w]
                                        rfl
                                      refine pure_ (i := 11) (N := some 126) (v := ?_) (a' := ?_) #[true, true, true, true, true, true, true, true, true, true, true, true] rfl rfl (any_of HT_.out (by kernel_rfl)) (fun _ _ _ h => h) (Or.inl ⟨by rfl, ?_⟩) ?_ ?_
                                      rotate_left
                                      · intro w'
                                        go_simp
                                        with_reducible rfl
                                      rotate_left
                                      · simp only [Act.put, List.setIfInBounds_toArray, List.set_cons_zero, List.set_cons_succ, i64_w, i32_w]
                                        rfl
                                      refine done_ (done_of HT_.out (by kernel_rfl)) ?_
                                      have p68 : 0 ≤ ((ji38) : Int) := of_decide_eq_true (by first | (with_reducible assumption) | assumption)
                                      have q68 : ((ji38) : Int) < ((x7_14.length : Int) : Int) := of_decide_eq_true (by first | (with_reducible assumption) | assumption)
                                      obtain ⟨go68, co68, eo68, gb68, gl68, cl68, HG68⟩ := Kd.R_form HO_7.out (by omega)
                                      (first | cases eo68 | (injection eo68 with ea_ en_ ec_; (first | subst ea_ | (injection ea_ with ea_; subst ea_)); subst ec_; clear en_))
                                      have GB68 := Aside0.mk gb68
                                      have GG68 := Aside0.mk HG68
                                      clear gb68 gl68 HG68
                                      (first | simp only [add_plain] at hx199_0 | skip)
                                      (first | simp only [add_plain] at hx199_1 | skip)
                                      (first | simp only [add_plain] at hx200_0 | skip)
                                      (first | simp only [add_plain] at hx200_1 | skip)
                                      obtain ⟨ce68, hcl68, hM68, hcc68, hfr68⟩ := Kd.R_elem HO_7.out z37 ((ji38) : Int) p68 q68
                                      obtain rfl := k37_openM hM68
                                      have hx68_0 : w74.cell? ⟨go68, ((ji38) : Int).toNat * 2, none⟩ = some (.int .i64 ((rd_T37 x7_14 (ji38)).f0)) := hcc68 0 _ rfl
                                      have hx68_1 : w74.cell? ⟨go68, ((ji38) : Int).toNat * 2 + 1, none⟩ = some (.int .i64 ((rd_T37 x7_14 (ji38)).f1)) := hcc68 1 _ rfl
                                      have hf68_0 : w74.frozen? ⟨go68, ((ji38) : Int).toNat * 2, none⟩ = false := hfr68 0
                                      have hf68_1 : w74.frozen? ⟨go68, ((ji38) : Int).toNat * 2 + 1, none⟩ = false := hfr68 1
                                      clear hcl68 hcc68 hfr68 hM68
                                      replace p68 := eq_true p68
                                      replace q68 := eq_true q68
                                      have HX75 := Aside0.mk (show Kd.R k37 37 w74 w.heap.size (fun _ => True) (.slice (some ⟨go68, 0, none⟩) x7_14.length co31) x7_14 from (by (with_reducible repeat (first | apply Kd.R_alloc | apply Kd.R_drewN | apply Kd.R_drew)); exact HO_7.out))
                                      obtain ⟨ce75, hcl75, hM75, hcc75, hfr75⟩ := Kd.R_elem HX75.out z37 ((ji38) : Int) (of_decide_eq_true (by first | (with_reducible assumption) | assumption)) (by have h_ : ((ji38) : Int) < ((x7_14.length : Int) : Int) := of_decide_eq_true (by first | (with_reducible assumption) | assumption); first | exact h_ | (have e_ := (Kd.R_reads' HO_7.out).1; omega) | simpa using h_)
                                      obtain rfl := k37_openM hM75
                                      have HP75 := Kd.R_seg HX75.out ((ji38) : Int) (of_decide_eq_true (by first | (with_reducible assumption) | assumption)) (by have h_ : ((ji38) : Int) < ((x7_14.length : Int) : Int) := of_decide_eq_true (by first | (with_reducible assumption) | assumption); first | exact h_ | (have e_ := (Kd.R_reads' HO_7.out).1; omega) | simpa using h_) (seg := [.int .i64 140, .int .i64 140]) (j := 0) hcl75 hcc75 (show 2 ≤ 2 from by decide) (x' := (⟨140, 140⟩ : S37)) (k37_mkM _ _ _ (⟨140, 140⟩ : S37) ) (fun _ hk => hk)
                                      have hx75_0 := hcc75 0 _ rfl
                                      (try simp only [show (k37).sz = 2 from rfl, Nat.mul_one, Nat.add_zero] at hx75_0)
                                      have hf75_0 := hfr75 0
                                      (try simp only [show (k37).sz = 2 from rfl, Nat.mul_one, Nat.add_zero] at hf75_0)
                                      have hx75_1 := hcc75 1 _ rfl
                                      (try simp only [show (k37).sz = 2 from rfl, Nat.mul_one, Nat.add_zero] at hx75_1)
                                      have hf75_1 := hfr75 1
                                      (try simp only [show (k37).sz = 2 from rfl, Nat.mul_one, Nat.add_zero] at hf75_1)
                                      clear hcl75 hcc75 hfr75 hM75
                                      try go_wp2_with (first | ((with_reducible refine gate_store (t := 37) (p := 134) rfl ?_); refine store_event (t := 37) (p := 134) (v := ?vo_w76) (w1 := ((w74.setCell ⟨go68, ((ji38) : Int).toNat * 2, none⟩ (.int .i64 140)).setCell ⟨go68, ((ji38) : Int).toNat * 2 + 1, none⟩ (.int .i64 140))) ?hg ?ho ?hn ?hr ?_; (case ho => rfl); (case hg => rfl); (case hn => rfl); (case hr => first | (go_simp; done) | (go_simp; rfl)); intro w76 hw; have hg : w74.grownBy w76 (some go68) := (by rw [hw]; exact HP75.2); have hp_ : Kd.R k37 37 w76 w.heap.size (fun _ => True) (.slice (some ⟨go68, 0, none⟩) x7_14.length co31) y208 := (by rw [hw, Ny208.out]; exact HP75.1); clear HP75; have n0_ := Aside0.mk (hp_); have n1_ := Aside0.mk ((by rw [hw]; exact below_set (below_set (HB.out) GB68.out) GB68.out : Below w.heap.size w w76)); clear HO_7; clear HB; have HO_7 := n0_; have HB := n1_; clear n0_ n1_; clear hg hw hp_) | ((with_reducible refine gate_callee (f := 15) rfl ?_); refine goesL_ (some 139) rfl rfl Tryd.func15 (by kernel_rfl) rfl #[.slice (some ⟨go68, 0, none⟩) y208.length co31, .int .i64 (l0.length : Int)] rfl (by (try simp only [List.map_toArray, List.map_cons, List.map_nil]); first | done | (rw [show y208.length = x7_14.length from (Kd.R_reads' HO_7.out).1.symm] <;> rfl) | rfl | (simp only [List.length_drop, List.length_take]; rfl)) ?_; (with_reducible refine (tape_Read.calls _ _ y208 (l0.length : Int) t209 t210 t211 _ ?side1 ?side2 A69.out).mono ?_); (case side1 => repeat (first | exact (Kd.R_reads' HO_7.out).2.2 | (with_reducible refine Kd.C_alloc ?_ _) | (with_reducible refine Kd.C_drewN ?_ _) | (with_reducible refine Kd.C_drew ?_))); (case side2 => rw [show y208.length = x7_14.length from (Kd.R_reads' HO_7.out).1.symm]; exact (Kd.R_reads' HO_7.out).2.1); rintro e w77 ⟨v212, rfl, ho0, hb⟩; refine ⟨_, rfl, ?_⟩; have n0_ := Aside0.mk (Kd.R_below (by (with_reducible repeat (first | apply Kd.R_alloc | apply Kd.R_drewN | apply Kd.R_drew)); exact HO_7.out) hb); have n1_ := Aside0.mk (Kd.R_lower ho0 (below_size (by repeat (first | (with_reducible first | exact HB.out | apply below_alloc | apply pw_below_drewN | apply below_drew1) | exact HB.out)))); have n2_ := Aside0.mk (below_step (by repeat (first | (with_reducible first | exact HB.out | apply below_alloc | apply pw_below_drewN | apply below_drew1) | exact HB.out)) hb); clear HO_7; clear HB; have HO_7 := n0_; have HO213 := n1_; have HB := n2_; clear n0_ n1_ n2_; (try clear hb); (try clear hb2); (try clear hk); (try clear hi); (try clear ho0); obtain ⟨Ao78, co78, eo78⟩ := Kd.R_slice HO213.out; subst eo78) | (go_at_call 10; (with_reducible refine (vesperlaw12_awake.calls kj29  t214 _ A73.out).mono ?_); rintro e w79 ⟨rfl, hb⟩; have n0_ := Aside0.mk (Kd.R_below (by (with_reducible repeat (first | apply Kd.R_alloc | apply Kd.R_drewN | apply Kd.R_drew)); exact HO_7.out) hb); have n1_ := Aside0.mk (Kd.R_below (by (with_reducible repeat (first | apply Kd.R_alloc | apply Kd.R_drewN | apply Kd.R_drew)); exact HO213.out) hb); have n2_ := Aside0.mk (below_step (by repeat (first | (with_reducible first | exact HB.out | apply below_alloc | apply pw_below_drewN | apply below_drew1) | exact HB.out)) hb); clear HO_7; clear HO213; clear HB; have HO_7 := n0_; have HO213 := n1_; have HB := n2_; clear n0_ n1_ n2_; (try clear hb); (try clear hb2); (try clear hk); (try clear hi)))
                                      go_ret
                                      exact ⟨by first | rfl | (simp [errW_none, errW_some] <;> rfl) | (simp only [← hji38]; first | rfl | (simp [errW_none, errW_some] <;> rfl)) | (simp [*, errW_none, errW_some] <;> rfl), by repeat (first | (with_reducible first | exact HB.out | apply below_alloc | apply pw_below_drewN | apply below_drew1) | exact HB.out)⟩
                                    · rw [if_neg c72] at H
                                      have c72b0 : (t211 == (wrap64 ((wrap64 (3 + (wrap64 ((wrap64 (Int.tdiv (Int.tmod (Go.bits .and .i64 a2 1048575) (wrap64 (9 * (l0.length : Int)))) 9)) * 10)))) + 9))) = false := beq_eq_false_iff_ne.mpr c72
                                      have c72b1 : (t211 != (wrap64 ((wrap64 (3 + (wrap64 ((wrap64 (Int.tdiv (Int.tmod (Go.bits .and .i64 a2 1048575) (wrap64 (9 * (l0.length : Int)))) 9)) * 10)))) + 9))) = true := bne_iff_ne.mpr c72
                                      obtain rfl := Option.some.inj H
                                      try go_wp2
                                      have n0_ := Aside0.mk (Kd.R_drew HO_7.out)
                                      have n1_ := Aside0.mk (below_drew1 HB.out)
                                      clear HO_7
                                      clear HB
                                      have HO_7 := n0_
                                      have HB := n1_
                                      clear n0_ n1_
                                      have p199 : 0 ≤ ((ji38) : Int) := of_decide_eq_true (by first | (with_reducible assumption) | assumption)
                                      have q199 : (ji38) < (x7_14.length : Int) := of_decide_eq_true (by first | (with_reducible assumption) | assumption)
                                      obtain ⟨ad199, e199, hx199_0, hx199_1⟩ := at_T37 (Kd.R_reads' HO_7.out).2.2 (ji38) p199 q199
                                      cases e199
                                      replace p199 := eq_true p199
                                      replace q199 := eq_true q199
                                      have p200 : 0 ≤ ((ji38) : Int) := of_decide_eq_true (by first | (with_reducible assumption) | assumption)
                                      have q200 : (ji38) < (x7_14.length : Int) := of_decide_eq_true (by first | (with_reducible assumption) | assumption)
                                      obtain ⟨ad200, e200, hx200_0, hx200_1⟩ := at_T37 (Kd.R_reads' HO_7.out).2.2 (ji38) p200 q200
                                      obtain rfl : ad199 = ad200 := (by injection e200)
                                      replace p200 := eq_true p200
                                      replace q200 := eq_true q200
                                      refine start_ (n := 12) (S := fun w' => w'.cell? (ad199.add (((ji38)).toNat * 2)) = some (.int .i64 ((rd_T37 x7_14 (ji38)).f0)) ∧ w'.cell? ⟨(ad199.add (((ji38)).toNat * 2)).block, (ad199.add (((ji38)).toNat * 2)).off + 1, none⟩ = some (.int .i64 ((rd_T37 x7_14 (ji38)).f1)) ∧ w'.cell? (ad199.add (((ji38)).toNat * 2)) = some (.int .i64 ((rd_T37 x7_14 (ji38)).f0)) ∧ w'.cell? ⟨(ad199.add (((ji38)).toNat * 2)).block, (ad199.add (((ji38)).toNat * 2)).off + 1, none⟩ = some (.int .i64 ((rd_T37 x7_14 (ji38)).f1))) (ds := []) #[false, false, false, false, false, false, false, false, false, false, false, false] (by kernel_rfl) rfl rfl ⟨hx199_0, hx199_1, hx200_0, hx200_1⟩ (fun hHeld => ?_); refine with_tabW vesperlaw12_TapeNear.tab16 vesperlaw12_TapeNear.bits16 (fun HT_ HW_ => ?_)
                                      generalize wc.drew = w80 at HO_7 HB hx199_0 hx199_1 hx200_0 hx200_1 hHeld ⊢
                                      refine pure_ (i := 0) (N := some 115) (v := ?_) (a' := ?_) #[true, false, false, false, false, false, false, false, false, false, false, false] rfl rfl (any_of HT_.out (by kernel_rfl)) (fun _ _ _ h => h) (Or.inl ⟨by rfl, ?_⟩) ?_ ?_
                                      rotate_left
                                      · intro w'
                                        go_simp
                                        with_reducible rfl
                                      rotate_left
                                      · simp only [Act.put, List.setIfInBounds_toArray, List.set_cons_zero, List.set_cons_succ, i64_w, i32_w]
                                        rfl
                                      refine pure_ (i := 1) (N := some 116) (v := ?_) (a' := ?_) #[true, true, false, false, false, false, false, false, false, false, false, false] rfl rfl (any_of HT_.out (by kernel_rfl)) (fun _ _ _ h => h) (Or.inl ⟨by rfl, ?_⟩) ?_ ?_
                                      rotate_left
                                      · intro w'
                                        go_simp
                                        with_reducible rfl
                                      rotate_left
                                      · simp only [Act.put, List.setIfInBounds_toArray, List.set_cons_zero, List.set_cons_succ, i64_w, i32_w]
                                        rfl
                                      refine pure_ (i := 2) (N := some 117) (v := ?_) (a' := ?_) #[true, true, true, false, false, false, false, false, false, false, false, false] rfl rfl (any_of HT_.out (by kernel_rfl)) (fun _ _ _ h => h) (Or.inl ⟨by rfl, ?_⟩) ?_ ?_
                                      rotate_left
                                      · intro w'
                                        go_simp
                                        with_reducible rfl
                                      rotate_left
                                      · simp only [Act.put, List.setIfInBounds_toArray, List.set_cons_zero, List.set_cons_succ, i64_w, i32_w]
                                        rfl
                                      refine pure_ (i := 3) (N := some 118) (v := ?_) (a' := ?_) #[true, true, true, true, false, false, false, false, false, false, false, false] rfl rfl (any_of HT_.out (by kernel_rfl)) (fun _ _ _ h => h) (Or.inl ⟨by rfl, ?_⟩) ?_ ?_
                                      rotate_left
                                      · intro w'
                                        go_simp
                                        with_reducible rfl
                                      rotate_left
                                      · simp only [Act.put, List.setIfInBounds_toArray, List.set_cons_zero, List.set_cons_succ, i64_w, i32_w]
                                        rfl
                                      refine pure_ (i := 5) (N := some 120) (v := ?_) (a' := ?_) #[true, true, true, true, false, true, false, false, false, false, false, false] rfl rfl (any_of HT_.out (by kernel_rfl)) (fun _ _ _ h => h) (Or.inl ⟨by rfl, ?_⟩) ?_ ?_
                                      rotate_left
                                      · intro w'
                                        go_simp
                                        with_reducible rfl
                                      rotate_left
                                      · simp only [Act.put, List.setIfInBounds_toArray, List.set_cons_zero, List.set_cons_succ, i64_w, i32_w]
                                        rfl
                                      refine pure_ (i := 6) (N := some 121) (v := ?_) (a' := ?_) #[true, true, true, true, false, true, true, false, false, false, false, false] rfl rfl (any_of HT_.out (by kernel_rfl)) (fun _ _ _ h => h) (Or.inl ⟨by rfl, ?_⟩) ?_ ?_
                                      rotate_left
                                      · intro w'
                                        go_simp
                                        with_reducible rfl
                                      rotate_left
                                      · simp only [Act.put, List.setIfInBounds_toArray, List.set_cons_zero, List.set_cons_succ, i64_w, i32_w]
                                        rfl
                                      refine pure_ (i := 7) (N := some 122) (v := ?_) (a' := ?_) #[true, true, true, true, false, true, true, true, false, false, false, false] rfl rfl (any_of HT_.out (by kernel_rfl)) (fun _ _ _ h => h) (Or.inl ⟨by rfl, ?_⟩) ?_ ?_
                                      rotate_left
                                      · intro w'
                                        go_simp
                                        with_reducible rfl
                                      rotate_left
                                      · simp only [Act.put, List.setIfInBounds_toArray, List.set_cons_zero, List.set_cons_succ, i64_w, i32_w]
                                        rfl
                                      refine pure_ (i := 8) (N := some 123) (v := ?_) (a' := ?_) #[true, true, true, true, false, true, true, true, true, false, false, false] rfl rfl (any_of HT_.out (by kernel_rfl)) (fun _ _ _ h => h) (Or.inl ⟨by rfl, ?_⟩) ?_ ?_
                                      rotate_left
                                      · intro w'
                                        go_simp
                                        with_reducible rfl
                                      rotate_left
                                      · simp only [Act.put, List.setIfInBounds_toArray, List.set_cons_zero, List.set_cons_succ, i64_w, i32_w]
                                        rfl
                                      refine take_ (i := 4) (N := some 119) (v := ?_) (a' := ?_) #[true, true, true, true, true, true, true, true, true, false, false, false] rfl rfl (take_ofW HT_.out HW_.out (by kernel_rfl)) (fun _ _ _ h => h) (Or.inl ⟨by rfl, ?_⟩) hHeld ?_ ?_
                                      rotate_left
                                      · rintro w' ⟨s0, s1, s2, s3⟩
                                        go_simp
                                        with_reducible rfl
                                      rotate_left
                                      · simp only [Act.put, List.setIfInBounds_toArray, List.set_cons_zero, List.set_cons_succ, i64_w, i32_w]
                                        rfl
                                      refine take_ (i := 9) (N := some 124) (v := ?_) (a' := ?_) #[true, true, true, true, true, true, true, true, true, true, false, false] rfl rfl (take_ofW HT_.out HW_.out (by kernel_rfl)) (fun _ _ _ h => h) (Or.inl ⟨by rfl, ?_⟩) hHeld ?_ ?_
                                      rotate_left
                                      · rintro w' ⟨s0, s1, s2, s3⟩
                                        go_simp
                                        with_reducible rfl
                                      rotate_left
                                      · simp only [Act.put, List.setIfInBounds_toArray, List.set_cons_zero, List.set_cons_succ, i64_w, i32_w]
                                        rfl
                                      refine pure_ (i := 10) (N := some 125) (v := ?_) (a' := ?_) #[true, true, true, true, true, true, true, true, true, true, true, false] rfl rfl (any_of HT_.out (by kernel_rfl)) (fun _ _ _ h => h) (Or.inl ⟨by rfl, ?_⟩) ?_ ?_
                                      rotate_left
                                      · intro w'
                                        go_simp
                                        with_reducible rfl
                                      rotate_left
                                      · simp only [Act.put, List.setIfInBounds_toArray, List.set_cons_zero, List.set_cons_succ, i64_w, i32_w]
                                        rfl
                                      refine pure_ (i := 11) (N := some 126) (v := ?_) (a' := ?_) #[true, true, true, true, true, true, true, true, true, true, true, true] rfl rfl (any_of HT_.out (by kernel_rfl)) (fun _ _ _ h => h) (Or.inl ⟨by rfl, ?_⟩) ?_ ?_
                                      rotate_left
                                      · intro w'
                                        go_simp
                                        with_reducible rfl
                                      rotate_left
                                      · simp only [Act.put, List.setIfInBounds_toArray, List.set_cons_zero, List.set_cons_succ, i64_w, i32_w]
                                        rfl
                                      refine done_ (done_of HT_.out (by kernel_rfl)) ?_
                                      have p68 : 0 ≤ ((ji38) : Int) := of_decide_eq_true (by first | (with_reducible assumption) | assumption)
                                      have q68 : ((ji38) : Int) < ((x7_14.length : Int) : Int) := of_decide_eq_true (by first | (with_reducible assumption) | assumption)
                                      obtain ⟨go68, co68, eo68, gb68, gl68, cl68, HG68⟩ := Kd.R_form HO_7.out (by omega)
                                      (first | cases eo68 | (injection eo68 with ea_ en_ ec_; (first | subst ea_ | (injection ea_ with ea_; subst ea_)); subst ec_; clear en_))
                                      have GB68 := Aside0.mk gb68
                                      have GG68 := Aside0.mk HG68
                                      clear gb68 gl68 HG68
                                      (first | simp only [add_plain] at hx199_0 | skip)
                                      (first | simp only [add_plain] at hx199_1 | skip)
                                      (first | simp only [add_plain] at hx200_0 | skip)
                                      (first | simp only [add_plain] at hx200_1 | skip)
                                      obtain ⟨ce68, hcl68, hM68, hcc68, hfr68⟩ := Kd.R_elem HO_7.out z37 ((ji38) : Int) p68 q68
                                      obtain rfl := k37_openM hM68
                                      have hx68_0 : w80.cell? ⟨go68, ((ji38) : Int).toNat * 2, none⟩ = some (.int .i64 ((rd_T37 x7_14 (ji38)).f0)) := hcc68 0 _ rfl
                                      have hx68_1 : w80.cell? ⟨go68, ((ji38) : Int).toNat * 2 + 1, none⟩ = some (.int .i64 ((rd_T37 x7_14 (ji38)).f1)) := hcc68 1 _ rfl
                                      have hf68_0 : w80.frozen? ⟨go68, ((ji38) : Int).toNat * 2, none⟩ = false := hfr68 0
                                      have hf68_1 : w80.frozen? ⟨go68, ((ji38) : Int).toNat * 2 + 1, none⟩ = false := hfr68 1
                                      clear hcl68 hcc68 hfr68 hM68
                                      replace p68 := eq_true p68
                                      replace q68 := eq_true q68
                                      have HX81 := Aside0.mk (show Kd.R k37 37 w80 w.heap.size (fun _ => True) (.slice (some ⟨go68, 0, none⟩) x7_14.length co31) x7_14 from (by (with_reducible repeat (first | apply Kd.R_alloc | apply Kd.R_drewN | apply Kd.R_drew)); exact HO_7.out))
                                      obtain ⟨ce81, hcl81, hM81, hcc81, hfr81⟩ := Kd.R_elem HX81.out z37 ((ji38) : Int) (of_decide_eq_true (by first | (with_reducible assumption) | assumption)) (by have h_ : ((ji38) : Int) < ((x7_14.length : Int) : Int) := of_decide_eq_true (by first | (with_reducible assumption) | assumption); first | exact h_ | (have e_ := (Kd.R_reads' HO_7.out).1; omega) | simpa using h_)
                                      obtain rfl := k37_openM hM81
                                      have HP81 := Kd.R_seg HX81.out ((ji38) : Int) (of_decide_eq_true (by first | (with_reducible assumption) | assumption)) (by have h_ : ((ji38) : Int) < ((x7_14.length : Int) : Int) := of_decide_eq_true (by first | (with_reducible assumption) | assumption); first | exact h_ | (have e_ := (Kd.R_reads' HO_7.out).1; omega) | simpa using h_) (seg := [.int .i64 140, .int .i64 140]) (j := 0) hcl81 hcc81 (show 2 ≤ 2 from by decide) (x' := (⟨140, 140⟩ : S37)) (k37_mkM _ _ _ (⟨140, 140⟩ : S37) ) (fun _ hk => hk)
                                      have hx81_0 := hcc81 0 _ rfl
                                      (try simp only [show (k37).sz = 2 from rfl, Nat.mul_one, Nat.add_zero] at hx81_0)
                                      have hf81_0 := hfr81 0
                                      (try simp only [show (k37).sz = 2 from rfl, Nat.mul_one, Nat.add_zero] at hf81_0)
                                      have hx81_1 := hcc81 1 _ rfl
                                      (try simp only [show (k37).sz = 2 from rfl, Nat.mul_one, Nat.add_zero] at hx81_1)
                                      have hf81_1 := hfr81 1
                                      (try simp only [show (k37).sz = 2 from rfl, Nat.mul_one, Nat.add_zero] at hf81_1)
                                      clear hcl81 hcc81 hfr81 hM81
                                      try go_wp2_with (first | ((with_reducible refine gate_store (t := 37) (p := 134) rfl ?_); refine store_event (t := 37) (p := 134) (v := ?vo_w82) (w1 := ((w80.setCell ⟨go68, ((ji38) : Int).toNat * 2, none⟩ (.int .i64 140)).setCell ⟨go68, ((ji38) : Int).toNat * 2 + 1, none⟩ (.int .i64 140))) ?hg ?ho ?hn ?hr ?_; (case ho => rfl); (case hg => rfl); (case hn => rfl); (case hr => first | (go_simp; done) | (go_simp; rfl)); intro w82 hw; have hg : w80.grownBy w82 (some go68) := (by rw [hw]; exact HP81.2); have hp_ : Kd.R k37 37 w82 w.heap.size (fun _ => True) (.slice (some ⟨go68, 0, none⟩) x7_14.length co31) y208 := (by rw [hw, Ny208.out]; exact HP81.1); clear HP81; have n0_ := Aside0.mk (hp_); have n1_ := Aside0.mk ((by rw [hw]; exact below_set (below_set (HB.out) GB68.out) GB68.out : Below w.heap.size w w82)); clear HO_7; clear HB; have HO_7 := n0_; have HB := n1_; clear n0_ n1_; clear hg hw hp_) | ((with_reducible refine gate_callee (f := 15) rfl ?_); refine goesL_ (some 139) rfl rfl Tryd.func15 (by kernel_rfl) rfl #[.slice (some ⟨go68, 0, none⟩) y208.length co31, .int .i64 (l0.length : Int)] rfl (by (try simp only [List.map_toArray, List.map_cons, List.map_nil]); first | done | (rw [show y208.length = x7_14.length from (Kd.R_reads' HO_7.out).1.symm] <;> rfl) | rfl | (simp only [List.length_drop, List.length_take]; rfl)) ?_; (with_reducible refine (tape_Read.calls _ _ y208 (l0.length : Int) t209 t210 t211 _ ?side1 ?side2 A69.out).mono ?_); (case side1 => repeat (first | exact (Kd.R_reads' HO_7.out).2.2 | (with_reducible refine Kd.C_alloc ?_ _) | (with_reducible refine Kd.C_drewN ?_ _) | (with_reducible refine Kd.C_drew ?_))); (case side2 => rw [show y208.length = x7_14.length from (Kd.R_reads' HO_7.out).1.symm]; exact (Kd.R_reads' HO_7.out).2.1); rintro e w83 ⟨v212, rfl, ho0, hb⟩; refine ⟨_, rfl, ?_⟩; have n0_ := Aside0.mk (Kd.R_below (by (with_reducible repeat (first | apply Kd.R_alloc | apply Kd.R_drewN | apply Kd.R_drew)); exact HO_7.out) hb); have n1_ := Aside0.mk (Kd.R_lower ho0 (below_size (by repeat (first | (with_reducible first | exact HB.out | apply below_alloc | apply pw_below_drewN | apply below_drew1) | exact HB.out)))); have n2_ := Aside0.mk (below_step (by repeat (first | (with_reducible first | exact HB.out | apply below_alloc | apply pw_below_drewN | apply below_drew1) | exact HB.out)) hb); clear HO_7; clear HB; have HO_7 := n0_; have HO213 := n1_; have HB := n2_; clear n0_ n1_ n2_; (try clear hb); (try clear hb2); (try clear hk); (try clear hi); (try clear ho0); obtain ⟨Ao84, co84, eo84⟩ := Kd.R_slice HO213.out; subst eo84))
                                      go_ret
                                      exact ⟨by first | rfl | (simp [errW_none, errW_some] <;> rfl) | (simp only [← hji38]; first | rfl | (simp [errW_none, errW_some] <;> rfl)) | (simp [*, errW_none, errW_some] <;> rfl), by repeat (first | (with_reducible first | exact HB.out | apply below_alloc | apply pw_below_drewN | apply below_drew1) | exact HB.out)⟩
                                  · rw [if_neg c71] at H
                                    have c71b0 : ((t209.length : Int) == 0) = false := beq_eq_false_iff_ne.mpr c71
                                    have c71b1 : ((t209.length : Int) != 0) = true := bne_iff_ne.mpr c71
                                    have c71b2 : ¬ (t209 = []) := fun h_ => c71 (by rw [h_]; rfl)
                                    obtain rfl := Option.some.inj H
                                    try go_wp2
                                    have n0_ := Aside0.mk (Kd.R_drew HO_7.out)
                                    have n1_ := Aside0.mk (below_drew1 HB.out)
                                    clear HO_7
                                    clear HB
                                    have HO_7 := n0_
                                    have HB := n1_
                                    clear n0_ n1_
                                    have p199 : 0 ≤ ((ji38) : Int) := of_decide_eq_true (by first | (with_reducible assumption) | assumption)
                                    have q199 : (ji38) < (x7_14.length : Int) := of_decide_eq_true (by first | (with_reducible assumption) | assumption)
                                    obtain ⟨ad199, e199, hx199_0, hx199_1⟩ := at_T37 (Kd.R_reads' HO_7.out).2.2 (ji38) p199 q199
                                    cases e199
                                    replace p199 := eq_true p199
                                    replace q199 := eq_true q199
                                    have p200 : 0 ≤ ((ji38) : Int) := of_decide_eq_true (by first | (with_reducible assumption) | assumption)
                                    have q200 : (ji38) < (x7_14.length : Int) := of_decide_eq_true (by first | (with_reducible assumption) | assumption)
                                    obtain ⟨ad200, e200, hx200_0, hx200_1⟩ := at_T37 (Kd.R_reads' HO_7.out).2.2 (ji38) p200 q200
                                    obtain rfl : ad199 = ad200 := (by injection e200)
                                    replace p200 := eq_true p200
                                    replace q200 := eq_true q200
                                    refine start_ (n := 12) (S := fun w' => w'.cell? (ad199.add (((ji38)).toNat * 2)) = some (.int .i64 ((rd_T37 x7_14 (ji38)).f0)) ∧ w'.cell? ⟨(ad199.add (((ji38)).toNat * 2)).block, (ad199.add (((ji38)).toNat * 2)).off + 1, none⟩ = some (.int .i64 ((rd_T37 x7_14 (ji38)).f1)) ∧ w'.cell? (ad199.add (((ji38)).toNat * 2)) = some (.int .i64 ((rd_T37 x7_14 (ji38)).f0)) ∧ w'.cell? ⟨(ad199.add (((ji38)).toNat * 2)).block, (ad199.add (((ji38)).toNat * 2)).off + 1, none⟩ = some (.int .i64 ((rd_T37 x7_14 (ji38)).f1))) (ds := []) #[false, false, false, false, false, false, false, false, false, false, false, false] (by kernel_rfl) rfl rfl ⟨hx199_0, hx199_1, hx200_0, hx200_1⟩ (fun hHeld => ?_); refine with_tabW vesperlaw12_TapeNear.tab16 vesperlaw12_TapeNear.bits16 (fun HT_ HW_ => ?_)
                                    generalize wc.drew = w85 at HO_7 HB hx199_0 hx199_1 hx200_0 hx200_1 hHeld ⊢
                                    refine pure_ (i := 0) (N := some 115) (v := ?_) (a' := ?_) #[true, false, false, false, false, false, false, false, false, false, false, false] rfl rfl (any_of HT_.out (by kernel_rfl)) (fun _ _ _ h => h) (Or.inl ⟨by rfl, ?_⟩) ?_ ?_
                                    rotate_left
                                    · intro w'
                                      go_simp
                                      with_reducible rfl
                                    rotate_left
                                    · simp only [Act.put, List.setIfInBounds_toArray, List.set_cons_zero, List.set_cons_succ, i64_w, i32_w]
                                      rfl
                                    refine pure_ (i := 1) (N := some 116) (v := ?_) (a' := ?_) #[true, true, false, false, false, false, false, false, false, false, false, false] rfl rfl (any_of HT_.out (by kernel_rfl)) (fun _ _ _ h => h) (Or.inl ⟨by rfl, ?_⟩) ?_ ?_
                                    rotate_left
                                    · intro w'
                                      go_simp
                                      with_reducible rfl
                                    rotate_left
                                    · simp only [Act.put, List.setIfInBounds_toArray, List.set_cons_zero, List.set_cons_succ, i64_w, i32_w]
                                      rfl
                                    refine pure_ (i := 2) (N := some 117) (v := ?_) (a' := ?_) #[true, true, true, false, false, false, false, false, false, false, false, false] rfl rfl (any_of HT_.out (by kernel_rfl)) (fun _ _ _ h => h) (Or.inl ⟨by rfl, ?_⟩) ?_ ?_
                                    rotate_left
                                    · intro w'
                                      go_simp
                                      with_reducible rfl
                                    rotate_left
                                    · simp only [Act.put, List.setIfInBounds_toArray, List.set_cons_zero, List.set_cons_succ, i64_w, i32_w]
                                      rfl
                                    refine pure_ (i := 3) (N := some 118) (v := ?_) (a' := ?_) #[true, true, true, true, false, false, false, false, false, false, false, false] rfl rfl (any_of HT_.out (by kernel_rfl)) (fun _ _ _ h => h) (Or.inl ⟨by rfl, ?_⟩) ?_ ?_
                                    rotate_left
                                    · intro w'
                                      go_simp
                                      with_reducible rfl
                                    rotate_left
                                    · simp only [Act.put, List.setIfInBounds_toArray, List.set_cons_zero, List.set_cons_succ, i64_w, i32_w]
                                      rfl
                                    refine pure_ (i := 5) (N := some 120) (v := ?_) (a' := ?_) #[true, true, true, true, false, true, false, false, false, false, false, false] rfl rfl (any_of HT_.out (by kernel_rfl)) (fun _ _ _ h => h) (Or.inl ⟨by rfl, ?_⟩) ?_ ?_
                                    rotate_left
                                    · intro w'
                                      go_simp
                                      with_reducible rfl
                                    rotate_left
                                    · simp only [Act.put, List.setIfInBounds_toArray, List.set_cons_zero, List.set_cons_succ, i64_w, i32_w]
                                      rfl
                                    refine pure_ (i := 6) (N := some 121) (v := ?_) (a' := ?_) #[true, true, true, true, false, true, true, false, false, false, false, false] rfl rfl (any_of HT_.out (by kernel_rfl)) (fun _ _ _ h => h) (Or.inl ⟨by rfl, ?_⟩) ?_ ?_
                                    rotate_left
                                    · intro w'
                                      go_simp
                                      with_reducible rfl
                                    rotate_left
                                    · simp only [Act.put, List.setIfInBounds_toArray, List.set_cons_zero, List.set_cons_succ, i64_w, i32_w]
                                      rfl
                                    refine pure_ (i := 7) (N := some 122) (v := ?_) (a' := ?_) #[true, true, true, true, false, true, true, true, false, false, false, false] rfl rfl (any_of HT_.out (by kernel_rfl)) (fun _ _ _ h => h) (Or.inl ⟨by rfl, ?_⟩) ?_ ?_
                                    rotate_left
                                    · intro w'
                                      go_simp
                                      with_reducible rfl
                                    rotate_left
                                    · simp only [Act.put, List.setIfInBounds_toArray, List.set_cons_zero, List.set_cons_succ, i64_w, i32_w]
                                      rfl
                                    refine pure_ (i := 8) (N := some 123) (v := ?_) (a' := ?_) #[true, true, true, true, false, true, true, true, true, false, false, false] rfl rfl (any_of HT_.out (by kernel_rfl)) (fun _ _ _ h => h) (Or.inl ⟨by rfl, ?_⟩) ?_ ?_
                                    rotate_left
                                    · intro w'
                                      go_simp
                                      with_reducible rfl
                                    rotate_left
                                    · simp only [Act.put, List.setIfInBounds_toArray, List.set_cons_zero, List.set_cons_succ, i64_w, i32_w]
                                      rfl
                                    refine take_ (i := 4) (N := some 119) (v := ?_) (a' := ?_) #[true, true, true, true, true, true, true, true, true, false, false, false] rfl rfl (take_ofW HT_.out HW_.out (by kernel_rfl)) (fun _ _ _ h => h) (Or.inl ⟨by rfl, ?_⟩) hHeld ?_ ?_
                                    rotate_left
                                    · rintro w' ⟨s0, s1, s2, s3⟩
                                      go_simp
                                      with_reducible rfl
                                    rotate_left
                                    · simp only [Act.put, List.setIfInBounds_toArray, List.set_cons_zero, List.set_cons_succ, i64_w, i32_w]
                                      rfl
                                    refine take_ (i := 9) (N := some 124) (v := ?_) (a' := ?_) #[true, true, true, true, true, true, true, true, true, true, false, false] rfl rfl (take_ofW HT_.out HW_.out (by kernel_rfl)) (fun _ _ _ h => h) (Or.inl ⟨by rfl, ?_⟩) hHeld ?_ ?_
                                    rotate_left
                                    · rintro w' ⟨s0, s1, s2, s3⟩
                                      go_simp
                                      with_reducible rfl
                                    rotate_left
                                    · simp only [Act.put, List.setIfInBounds_toArray, List.set_cons_zero, List.set_cons_succ, i64_w, i32_w]
                                      rfl
                                    refine pure_ (i := 10) (N := some 125) (v := ?_) (a' := ?_) #[true, true, true, true, true, true, true, true, true, true, true, false] rfl rfl (any_of HT_.out (by kernel_rfl)) (fun _ _ _ h => h) (Or.inl ⟨by rfl, ?_⟩) ?_ ?_
                                    rotate_left
                                    · intro w'
                                      go_simp
                                      with_reducible rfl
                                    rotate_left
                                    · simp only [Act.put, List.setIfInBounds_toArray, List.set_cons_zero, List.set_cons_succ, i64_w, i32_w]
                                      rfl
                                    refine pure_ (i := 11) (N := some 126) (v := ?_) (a' := ?_) #[true, true, true, true, true, true, true, true, true, true, true, true] rfl rfl (any_of HT_.out (by kernel_rfl)) (fun _ _ _ h => h) (Or.inl ⟨by rfl, ?_⟩) ?_ ?_
                                    rotate_left
                                    · intro w'
                                      go_simp
                                      with_reducible rfl
                                    rotate_left
                                    · simp only [Act.put, List.setIfInBounds_toArray, List.set_cons_zero, List.set_cons_succ, i64_w, i32_w]
                                      rfl
                                    refine done_ (done_of HT_.out (by kernel_rfl)) ?_
                                    have p68 : 0 ≤ ((ji38) : Int) := of_decide_eq_true (by first | (with_reducible assumption) | assumption)
                                    have q68 : ((ji38) : Int) < ((x7_14.length : Int) : Int) := of_decide_eq_true (by first | (with_reducible assumption) | assumption)
                                    obtain ⟨go68, co68, eo68, gb68, gl68, cl68, HG68⟩ := Kd.R_form HO_7.out (by omega)
                                    (first | cases eo68 | (injection eo68 with ea_ en_ ec_; (first | subst ea_ | (injection ea_ with ea_; subst ea_)); subst ec_; clear en_))
                                    have GB68 := Aside0.mk gb68
                                    have GG68 := Aside0.mk HG68
                                    clear gb68 gl68 HG68
                                    (first | simp only [add_plain] at hx199_0 | skip)
                                    (first | simp only [add_plain] at hx199_1 | skip)
                                    (first | simp only [add_plain] at hx200_0 | skip)
                                    (first | simp only [add_plain] at hx200_1 | skip)
                                    obtain ⟨ce68, hcl68, hM68, hcc68, hfr68⟩ := Kd.R_elem HO_7.out z37 ((ji38) : Int) p68 q68
                                    obtain rfl := k37_openM hM68
                                    have hx68_0 : w85.cell? ⟨go68, ((ji38) : Int).toNat * 2, none⟩ = some (.int .i64 ((rd_T37 x7_14 (ji38)).f0)) := hcc68 0 _ rfl
                                    have hx68_1 : w85.cell? ⟨go68, ((ji38) : Int).toNat * 2 + 1, none⟩ = some (.int .i64 ((rd_T37 x7_14 (ji38)).f1)) := hcc68 1 _ rfl
                                    have hf68_0 : w85.frozen? ⟨go68, ((ji38) : Int).toNat * 2, none⟩ = false := hfr68 0
                                    have hf68_1 : w85.frozen? ⟨go68, ((ji38) : Int).toNat * 2 + 1, none⟩ = false := hfr68 1
                                    clear hcl68 hcc68 hfr68 hM68
                                    replace p68 := eq_true p68
                                    replace q68 := eq_true q68
                                    have HX86 := Aside0.mk (show Kd.R k37 37 w85 w.heap.size (fun _ => True) (.slice (some ⟨go68, 0, none⟩) x7_14.length co31) x7_14 from (by (with_reducible repeat (first | apply Kd.R_alloc | apply Kd.R_drewN | apply Kd.R_drew)); exact HO_7.out))
                                    obtain ⟨ce86, hcl86, hM86, hcc86, hfr86⟩ := Kd.R_elem HX86.out z37 ((ji38) : Int) (of_decide_eq_true (by first | (with_reducible assumption) | assumption)) (by have h_ : ((ji38) : Int) < ((x7_14.length : Int) : Int) := of_decide_eq_true (by first | (with_reducible assumption) | assumption); first | exact h_ | (have e_ := (Kd.R_reads' HO_7.out).1; omega) | simpa using h_)
                                    obtain rfl := k37_openM hM86
                                    have HP86 := Kd.R_seg HX86.out ((ji38) : Int) (of_decide_eq_true (by first | (with_reducible assumption) | assumption)) (by have h_ : ((ji38) : Int) < ((x7_14.length : Int) : Int) := of_decide_eq_true (by first | (with_reducible assumption) | assumption); first | exact h_ | (have e_ := (Kd.R_reads' HO_7.out).1; omega) | simpa using h_) (seg := [.int .i64 140, .int .i64 140]) (j := 0) hcl86 hcc86 (show 2 ≤ 2 from by decide) (x' := (⟨140, 140⟩ : S37)) (k37_mkM _ _ _ (⟨140, 140⟩ : S37) ) (fun _ hk => hk)
                                    have hx86_0 := hcc86 0 _ rfl
                                    (try simp only [show (k37).sz = 2 from rfl, Nat.mul_one, Nat.add_zero] at hx86_0)
                                    have hf86_0 := hfr86 0
                                    (try simp only [show (k37).sz = 2 from rfl, Nat.mul_one, Nat.add_zero] at hf86_0)
                                    have hx86_1 := hcc86 1 _ rfl
                                    (try simp only [show (k37).sz = 2 from rfl, Nat.mul_one, Nat.add_zero] at hx86_1)
                                    have hf86_1 := hfr86 1
                                    (try simp only [show (k37).sz = 2 from rfl, Nat.mul_one, Nat.add_zero] at hf86_1)
                                    clear hcl86 hcc86 hfr86 hM86
                                    try go_wp2_with (first | ((with_reducible refine gate_store (t := 37) (p := 134) rfl ?_); refine store_event (t := 37) (p := 134) (v := ?vo_w87) (w1 := ((w85.setCell ⟨go68, ((ji38) : Int).toNat * 2, none⟩ (.int .i64 140)).setCell ⟨go68, ((ji38) : Int).toNat * 2 + 1, none⟩ (.int .i64 140))) ?hg ?ho ?hn ?hr ?_; (case ho => rfl); (case hg => rfl); (case hn => rfl); (case hr => first | (go_simp; done) | (go_simp; rfl)); intro w87 hw; have hg : w85.grownBy w87 (some go68) := (by rw [hw]; exact HP86.2); have hp_ : Kd.R k37 37 w87 w.heap.size (fun _ => True) (.slice (some ⟨go68, 0, none⟩) x7_14.length co31) y208 := (by rw [hw, Ny208.out]; exact HP86.1); clear HP86; have n0_ := Aside0.mk (hp_); have n1_ := Aside0.mk ((by rw [hw]; exact below_set (below_set (HB.out) GB68.out) GB68.out : Below w.heap.size w w87)); clear HO_7; clear HB; have HO_7 := n0_; have HB := n1_; clear n0_ n1_; clear hg hw hp_) | ((with_reducible refine gate_callee (f := 15) rfl ?_); refine goesL_ (some 139) rfl rfl Tryd.func15 (by kernel_rfl) rfl #[.slice (some ⟨go68, 0, none⟩) y208.length co31, .int .i64 (l0.length : Int)] rfl (by (try simp only [List.map_toArray, List.map_cons, List.map_nil]); first | done | (rw [show y208.length = x7_14.length from (Kd.R_reads' HO_7.out).1.symm] <;> rfl) | rfl | (simp only [List.length_drop, List.length_take]; rfl)) ?_; (with_reducible refine (tape_Read.calls _ _ y208 (l0.length : Int) t209 t210 t211 _ ?side1 ?side2 A69.out).mono ?_); (case side1 => repeat (first | exact (Kd.R_reads' HO_7.out).2.2 | (with_reducible refine Kd.C_alloc ?_ _) | (with_reducible refine Kd.C_drewN ?_ _) | (with_reducible refine Kd.C_drew ?_))); (case side2 => rw [show y208.length = x7_14.length from (Kd.R_reads' HO_7.out).1.symm]; exact (Kd.R_reads' HO_7.out).2.1); rintro e w88 ⟨v212, rfl, ho0, hb⟩; refine ⟨_, rfl, ?_⟩; have n0_ := Aside0.mk (Kd.R_below (by (with_reducible repeat (first | apply Kd.R_alloc | apply Kd.R_drewN | apply Kd.R_drew)); exact HO_7.out) hb); have n1_ := Aside0.mk (Kd.R_lower ho0 (below_size (by repeat (first | (with_reducible first | exact HB.out | apply below_alloc | apply pw_below_drewN | apply below_drew1) | exact HB.out)))); have n2_ := Aside0.mk (below_step (by repeat (first | (with_reducible first | exact HB.out | apply below_alloc | apply pw_below_drewN | apply below_drew1) | exact HB.out)) hb); clear HO_7; clear HB; have HO_7 := n0_; have HO213 := n1_; have HB := n2_; clear n0_ n1_ n2_; (try clear hb); (try clear hb2); (try clear hk); (try clear hi); (try clear ho0); obtain ⟨Ao89, co89, eo89⟩ := Kd.R_slice HO213.out; subst eo89))
                                    go_ret
                                    exact ⟨by first | rfl | (simp [errW_none, errW_some] <;> rfl) | (simp only [← hji38]; first | rfl | (simp [errW_none, errW_some] <;> rfl)) | (simp [*, errW_none, errW_some] <;> rfl), by repeat (first | (with_reducible first | exact HB.out | apply below_alloc | apply pw_below_drewN | apply below_drew1) | exact HB.out)⟩
                                · rw [if_neg c70] at H
                                  have c70b0 : (t210 == 121) = false := beq_eq_false_iff_ne.mpr c70
                                  have c70b1 : (t210 != 121) = true := bne_iff_ne.mpr c70
                                  obtain rfl := Option.some.inj H
                                  try go_wp2
                                  have n0_ := Aside0.mk (Kd.R_drew HO_7.out)
                                  have n1_ := Aside0.mk (below_drew1 HB.out)
                                  clear HO_7
                                  clear HB
                                  have HO_7 := n0_
                                  have HB := n1_
                                  clear n0_ n1_
                                  have p199 : 0 ≤ ((ji38) : Int) := of_decide_eq_true (by first | (with_reducible assumption) | assumption)
                                  have q199 : (ji38) < (x7_14.length : Int) := of_decide_eq_true (by first | (with_reducible assumption) | assumption)
                                  obtain ⟨ad199, e199, hx199_0, hx199_1⟩ := at_T37 (Kd.R_reads' HO_7.out).2.2 (ji38) p199 q199
                                  cases e199
                                  replace p199 := eq_true p199
                                  replace q199 := eq_true q199
                                  have p200 : 0 ≤ ((ji38) : Int) := of_decide_eq_true (by first | (with_reducible assumption) | assumption)
                                  have q200 : (ji38) < (x7_14.length : Int) := of_decide_eq_true (by first | (with_reducible assumption) | assumption)
                                  obtain ⟨ad200, e200, hx200_0, hx200_1⟩ := at_T37 (Kd.R_reads' HO_7.out).2.2 (ji38) p200 q200
                                  obtain rfl : ad199 = ad200 := (by injection e200)
                                  replace p200 := eq_true p200
                                  replace q200 := eq_true q200
                                  refine start_ (n := 12) (S := fun w' => w'.cell? (ad199.add (((ji38)).toNat * 2)) = some (.int .i64 ((rd_T37 x7_14 (ji38)).f0)) ∧ w'.cell? ⟨(ad199.add (((ji38)).toNat * 2)).block, (ad199.add (((ji38)).toNat * 2)).off + 1, none⟩ = some (.int .i64 ((rd_T37 x7_14 (ji38)).f1)) ∧ w'.cell? (ad199.add (((ji38)).toNat * 2)) = some (.int .i64 ((rd_T37 x7_14 (ji38)).f0)) ∧ w'.cell? ⟨(ad199.add (((ji38)).toNat * 2)).block, (ad199.add (((ji38)).toNat * 2)).off + 1, none⟩ = some (.int .i64 ((rd_T37 x7_14 (ji38)).f1))) (ds := []) #[false, false, false, false, false, false, false, false, false, false, false, false] (by kernel_rfl) rfl rfl ⟨hx199_0, hx199_1, hx200_0, hx200_1⟩ (fun hHeld => ?_); refine with_tabW vesperlaw12_TapeNear.tab16 vesperlaw12_TapeNear.bits16 (fun HT_ HW_ => ?_)
                                  generalize wc.drew = w90 at HO_7 HB hx199_0 hx199_1 hx200_0 hx200_1 hHeld ⊢
                                  refine pure_ (i := 0) (N := some 115) (v := ?_) (a' := ?_) #[true, false, false, false, false, false, false, false, false, false, false, false] rfl rfl (any_of HT_.out (by kernel_rfl)) (fun _ _ _ h => h) (Or.inl ⟨by rfl, ?_⟩) ?_ ?_
                                  rotate_left
                                  · intro w'
                                    go_simp
                                    with_reducible rfl
                                  rotate_left
                                  · simp only [Act.put, List.setIfInBounds_toArray, List.set_cons_zero, List.set_cons_succ, i64_w, i32_w]
                                    rfl
                                  refine pure_ (i := 1) (N := some 116) (v := ?_) (a' := ?_) #[true, true, false, false, false, false, false, false, false, false, false, false] rfl rfl (any_of HT_.out (by kernel_rfl)) (fun _ _ _ h => h) (Or.inl ⟨by rfl, ?_⟩) ?_ ?_
                                  rotate_left
                                  · intro w'
                                    go_simp
                                    with_reducible rfl
                                  rotate_left
                                  · simp only [Act.put, List.setIfInBounds_toArray, List.set_cons_zero, List.set_cons_succ, i64_w, i32_w]
                                    rfl
                                  refine pure_ (i := 2) (N := some 117) (v := ?_) (a' := ?_) #[true, true, true, false, false, false, false, false, false, false, false, false] rfl rfl (any_of HT_.out (by kernel_rfl)) (fun _ _ _ h => h) (Or.inl ⟨by rfl, ?_⟩) ?_ ?_
                                  rotate_left
                                  · intro w'
                                    go_simp
                                    with_reducible rfl
                                  rotate_left
                                  · simp only [Act.put, List.setIfInBounds_toArray, List.set_cons_zero, List.set_cons_succ, i64_w, i32_w]
                                    rfl
                                  refine pure_ (i := 3) (N := some 118) (v := ?_) (a' := ?_) #[true, true, true, true, false, false, false, false, false, false, false, false] rfl rfl (any_of HT_.out (by kernel_rfl)) (fun _ _ _ h => h) (Or.inl ⟨by rfl, ?_⟩) ?_ ?_
                                  rotate_left
                                  · intro w'
                                    go_simp
                                    with_reducible rfl
                                  rotate_left
                                  · simp only [Act.put, List.setIfInBounds_toArray, List.set_cons_zero, List.set_cons_succ, i64_w, i32_w]
                                    rfl
                                  refine pure_ (i := 5) (N := some 120) (v := ?_) (a' := ?_) #[true, true, true, true, false, true, false, false, false, false, false, false] rfl rfl (any_of HT_.out (by kernel_rfl)) (fun _ _ _ h => h) (Or.inl ⟨by rfl, ?_⟩) ?_ ?_
                                  rotate_left
                                  · intro w'
                                    go_simp
                                    with_reducible rfl
                                  rotate_left
                                  · simp only [Act.put, List.setIfInBounds_toArray, List.set_cons_zero, List.set_cons_succ, i64_w, i32_w]
                                    rfl
                                  refine pure_ (i := 6) (N := some 121) (v := ?_) (a' := ?_) #[true, true, true, true, false, true, true, false, false, false, false, false] rfl rfl (any_of HT_.out (by kernel_rfl)) (fun _ _ _ h => h) (Or.inl ⟨by rfl, ?_⟩) ?_ ?_
                                  rotate_left
                                  · intro w'
                                    go_simp
                                    with_reducible rfl
                                  rotate_left
                                  · simp only [Act.put, List.setIfInBounds_toArray, List.set_cons_zero, List.set_cons_succ, i64_w, i32_w]
                                    rfl
                                  refine pure_ (i := 7) (N := some 122) (v := ?_) (a' := ?_) #[true, true, true, true, false, true, true, true, false, false, false, false] rfl rfl (any_of HT_.out (by kernel_rfl)) (fun _ _ _ h => h) (Or.inl ⟨by rfl, ?_⟩) ?_ ?_
                                  rotate_left
                                  · intro w'
                                    go_simp
                                    with_reducible rfl
                                  rotate_left
                                  · simp only [Act.put, List.setIfInBounds_toArray, List.set_cons_zero, List.set_cons_succ, i64_w, i32_w]
                                    rfl
                                  refine pure_ (i := 8) (N := some 123) (v := ?_) (a' := ?_) #[true, true, true, true, false, true, true, true, true, false, false, false] rfl rfl (any_of HT_.out (by kernel_rfl)) (fun _ _ _ h => h) (Or.inl ⟨by rfl, ?_⟩) ?_ ?_
                                  rotate_left
                                  · intro w'
                                    go_simp
                                    with_reducible rfl
                                  rotate_left
                                  · simp only [Act.put, List.setIfInBounds_toArray, List.set_cons_zero, List.set_cons_succ, i64_w, i32_w]
                                    rfl
                                  refine take_ (i := 4) (N := some 119) (v := ?_) (a' := ?_) #[true, true, true, true, true, true, true, true, true, false, false, false] rfl rfl (take_ofW HT_.out HW_.out (by kernel_rfl)) (fun _ _ _ h => h) (Or.inl ⟨by rfl, ?_⟩) hHeld ?_ ?_
                                  rotate_left
                                  · rintro w' ⟨s0, s1, s2, s3⟩
                                    go_simp
                                    with_reducible rfl
                                  rotate_left
                                  · simp only [Act.put, List.setIfInBounds_toArray, List.set_cons_zero, List.set_cons_succ, i64_w, i32_w]
                                    rfl
                                  refine take_ (i := 9) (N := some 124) (v := ?_) (a' := ?_) #[true, true, true, true, true, true, true, true, true, true, false, false] rfl rfl (take_ofW HT_.out HW_.out (by kernel_rfl)) (fun _ _ _ h => h) (Or.inl ⟨by rfl, ?_⟩) hHeld ?_ ?_
                                  rotate_left
                                  · rintro w' ⟨s0, s1, s2, s3⟩
                                    go_simp
                                    with_reducible rfl
                                  rotate_left
                                  · simp only [Act.put, List.setIfInBounds_toArray, List.set_cons_zero, List.set_cons_succ, i64_w, i32_w]
                                    rfl
                                  refine pure_ (i := 10) (N := some 125) (v := ?_) (a' := ?_) #[true, true, true, true, true, true, true, true, true, true, true, false] rfl rfl (any_of HT_.out (by kernel_rfl)) (fun _ _ _ h => h) (Or.inl ⟨by rfl, ?_⟩) ?_ ?_
                                  rotate_left
                                  · intro w'
                                    go_simp
                                    with_reducible rfl
                                  rotate_left
                                  · simp only [Act.put, List.setIfInBounds_toArray, List.set_cons_zero, List.set_cons_succ, i64_w, i32_w]
                                    rfl
                                  refine pure_ (i := 11) (N := some 126) (v := ?_) (a' := ?_) #[true, true, true, true, true, true, true, true, true, true, true, true] rfl rfl (any_of HT_.out (by kernel_rfl)) (fun _ _ _ h => h) (Or.inl ⟨by rfl, ?_⟩) ?_ ?_
                                  rotate_left
                                  · intro w'
                                    go_simp
                                    with_reducible rfl
                                  rotate_left
                                  · simp only [Act.put, List.setIfInBounds_toArray, List.set_cons_zero, List.set_cons_succ, i64_w, i32_w]
                                    rfl
                                  refine done_ (done_of HT_.out (by kernel_rfl)) ?_
                                  have p68 : 0 ≤ ((ji38) : Int) := of_decide_eq_true (by first | (with_reducible assumption) | assumption)
                                  have q68 : ((ji38) : Int) < ((x7_14.length : Int) : Int) := of_decide_eq_true (by first | (with_reducible assumption) | assumption)
                                  obtain ⟨go68, co68, eo68, gb68, gl68, cl68, HG68⟩ := Kd.R_form HO_7.out (by omega)
                                  (first | cases eo68 | (injection eo68 with ea_ en_ ec_; (first | subst ea_ | (injection ea_ with ea_; subst ea_)); subst ec_; clear en_))
                                  have GB68 := Aside0.mk gb68
                                  have GG68 := Aside0.mk HG68
                                  clear gb68 gl68 HG68
                                  (first | simp only [add_plain] at hx199_0 | skip)
                                  (first | simp only [add_plain] at hx199_1 | skip)
                                  (first | simp only [add_plain] at hx200_0 | skip)
                                  (first | simp only [add_plain] at hx200_1 | skip)
                                  obtain ⟨ce68, hcl68, hM68, hcc68, hfr68⟩ := Kd.R_elem HO_7.out z37 ((ji38) : Int) p68 q68
                                  obtain rfl := k37_openM hM68
                                  have hx68_0 : w90.cell? ⟨go68, ((ji38) : Int).toNat * 2, none⟩ = some (.int .i64 ((rd_T37 x7_14 (ji38)).f0)) := hcc68 0 _ rfl
                                  have hx68_1 : w90.cell? ⟨go68, ((ji38) : Int).toNat * 2 + 1, none⟩ = some (.int .i64 ((rd_T37 x7_14 (ji38)).f1)) := hcc68 1 _ rfl
                                  have hf68_0 : w90.frozen? ⟨go68, ((ji38) : Int).toNat * 2, none⟩ = false := hfr68 0
                                  have hf68_1 : w90.frozen? ⟨go68, ((ji38) : Int).toNat * 2 + 1, none⟩ = false := hfr68 1
                                  clear hcl68 hcc68 hfr68 hM68
                                  replace p68 := eq_true p68
                                  replace q68 := eq_true q68
                                  have HX91 := Aside0.mk (show Kd.R k37 37 w90 w.heap.size (fun _ => True) (.slice (some ⟨go68, 0, none⟩) x7_14.length co31) x7_14 from (by (with_reducible repeat (first | apply Kd.R_alloc | apply Kd.R_drewN | apply Kd.R_drew)); exact HO_7.out))
                                  obtain ⟨ce91, hcl91, hM91, hcc91, hfr91⟩ := Kd.R_elem HX91.out z37 ((ji38) : Int) (of_decide_eq_true (by first | (with_reducible assumption) | assumption)) (by have h_ : ((ji38) : Int) < ((x7_14.length : Int) : Int) := of_decide_eq_true (by first | (with_reducible assumption) | assumption); first | exact h_ | (have e_ := (Kd.R_reads' HO_7.out).1; omega) | simpa using h_)
                                  obtain rfl := k37_openM hM91
                                  have HP91 := Kd.R_seg HX91.out ((ji38) : Int) (of_decide_eq_true (by first | (with_reducible assumption) | assumption)) (by have h_ : ((ji38) : Int) < ((x7_14.length : Int) : Int) := of_decide_eq_true (by first | (with_reducible assumption) | assumption); first | exact h_ | (have e_ := (Kd.R_reads' HO_7.out).1; omega) | simpa using h_) (seg := [.int .i64 140, .int .i64 140]) (j := 0) hcl91 hcc91 (show 2 ≤ 2 from by decide) (x' := (⟨140, 140⟩ : S37)) (k37_mkM _ _ _ (⟨140, 140⟩ : S37) ) (fun _ hk => hk)
                                  have hx91_0 := hcc91 0 _ rfl
                                  (try simp only [show (k37).sz = 2 from rfl, Nat.mul_one, Nat.add_zero] at hx91_0)
                                  have hf91_0 := hfr91 0
                                  (try simp only [show (k37).sz = 2 from rfl, Nat.mul_one, Nat.add_zero] at hf91_0)
                                  have hx91_1 := hcc91 1 _ rfl
                                  (try simp only [show (k37).sz = 2 from rfl, Nat.mul_one, Nat.add_zero] at hx91_1)
                                  have hf91_1 := hfr91 1
                                  (try simp only [show (k37).sz = 2 from rfl, Nat.mul_one, Nat.add_zero] at hf91_1)
                                  clear hcl91 hcc91 hfr91 hM91
                                  try go_wp2_with (first | ((with_reducible refine gate_store (t := 37) (p := 134) rfl ?_); refine store_event (t := 37) (p := 134) (v := ?vo_w92) (w1 := ((w90.setCell ⟨go68, ((ji38) : Int).toNat * 2, none⟩ (.int .i64 140)).setCell ⟨go68, ((ji38) : Int).toNat * 2 + 1, none⟩ (.int .i64 140))) ?hg ?ho ?hn ?hr ?_; (case ho => rfl); (case hg => rfl); (case hn => rfl); (case hr => first | (go_simp; done) | (go_simp; rfl)); intro w92 hw; have hg : w90.grownBy w92 (some go68) := (by rw [hw]; exact HP91.2); have hp_ : Kd.R k37 37 w92 w.heap.size (fun _ => True) (.slice (some ⟨go68, 0, none⟩) x7_14.length co31) y208 := (by rw [hw, Ny208.out]; exact HP91.1); clear HP91; have n0_ := Aside0.mk (hp_); have n1_ := Aside0.mk ((by rw [hw]; exact below_set (below_set (HB.out) GB68.out) GB68.out : Below w.heap.size w w92)); clear HO_7; clear HB; have HO_7 := n0_; have HB := n1_; clear n0_ n1_; clear hg hw hp_) | ((with_reducible refine gate_callee (f := 15) rfl ?_); refine goesL_ (some 139) rfl rfl Tryd.func15 (by kernel_rfl) rfl #[.slice (some ⟨go68, 0, none⟩) y208.length co31, .int .i64 (l0.length : Int)] rfl (by (try simp only [List.map_toArray, List.map_cons, List.map_nil]); first | done | (rw [show y208.length = x7_14.length from (Kd.R_reads' HO_7.out).1.symm] <;> rfl) | rfl | (simp only [List.length_drop, List.length_take]; rfl)) ?_; (with_reducible refine (tape_Read.calls _ _ y208 (l0.length : Int) t209 t210 t211 _ ?side1 ?side2 A69.out).mono ?_); (case side1 => repeat (first | exact (Kd.R_reads' HO_7.out).2.2 | (with_reducible refine Kd.C_alloc ?_ _) | (with_reducible refine Kd.C_drewN ?_ _) | (with_reducible refine Kd.C_drew ?_))); (case side2 => rw [show y208.length = x7_14.length from (Kd.R_reads' HO_7.out).1.symm]; exact (Kd.R_reads' HO_7.out).2.1); rintro e w93 ⟨v212, rfl, ho0, hb⟩; refine ⟨_, rfl, ?_⟩; have n0_ := Aside0.mk (Kd.R_below (by (with_reducible repeat (first | apply Kd.R_alloc | apply Kd.R_drewN | apply Kd.R_drew)); exact HO_7.out) hb); have n1_ := Aside0.mk (Kd.R_lower ho0 (below_size (by repeat (first | (with_reducible first | exact HB.out | apply below_alloc | apply pw_below_drewN | apply below_drew1) | exact HB.out)))); have n2_ := Aside0.mk (below_step (by repeat (first | (with_reducible first | exact HB.out | apply below_alloc | apply pw_below_drewN | apply below_drew1) | exact HB.out)) hb); clear HO_7; clear HB; have HO_7 := n0_; have HO213 := n1_; have HB := n2_; clear n0_ n1_ n2_; (try clear hb); (try clear hb2); (try clear hk); (try clear hi); (try clear ho0)))
                                  go_ret
                                  exact ⟨by first | rfl | (simp [errW_none, errW_some] <;> rfl) | (simp only [← hji38]; first | rfl | (simp [errW_none, errW_some] <;> rfl)) | (simp [*, errW_none, errW_some] <;> rfl), by repeat (first | (with_reducible first | exact HB.out | apply below_alloc | apply pw_below_drewN | apply below_drew1) | exact HB.out)⟩
                            · rw [if_neg c40] at H
                              exact absurd H (by simp)
                          · rw [if_neg c39] at H
                            exact absurd H (by simp)

/-- THE ONE PURE STATEMENT of vesperlaw12_TapeNear: yours. -/
def vesperlaw12_TapeNear.Pure : Prop := ∀ (l0 : List Int) (l1 : List Int) (a2 : Int), l0.length ≤ maxLen → l0.length * 1 ≤ 140737488351232 → (∀ x ∈ l0, (Lit.int .u8 x).wf = true) → l1.length ≤ maxLen → l1.length * 8 ≤ 140737488351232 → (∀ x ∈ l1, (Lit.int .i64 x).wf = true) → (Lit.int .i64 a2).wf = true → ∃ k, vesperlaw12_TapeNear.f k l0 l1 a2 = some true
theorem vesperlaw12_TapeNear.walk (P : vesperlaw12_TapeNear.Pure) (a0 : Option Addr) (len0 cap0 : Nat) (z0 : List Int) (a1 : Option Addr) (len1 cap1 : Nat) (z1 : List Int) (a2 : Int) (w : World) (w0 : (a0 = none ∧ len0 = 0 ∧ cap0 = 0 ∧ z0 = []) ∨ ∃ x, a0 = some x ∧ len0 ≤ cap0 ∧ cap0 ≤ maxLen ∧ z0.length = cap0 ∧ (∀ i, i < z0.length → w.cell? (x.add i) = some (.int .u8 (z0.getD i 0))) ∧ ∀ n ∈ z0, (Lit.int .u8 n).wf = true) (y0 : len0 * 1 ≤ 140737488351232) (w1 : (a1 = none ∧ len1 = 0 ∧ cap1 = 0 ∧ z1 = []) ∨ ∃ x, a1 = some x ∧ len1 ≤ cap1 ∧ cap1 ≤ maxLen ∧ z1.length = cap1 ∧ (∀ i, i < z1.length → w.cell? (x.add i) = some (.int .i64 (z1.getD i 0))) ∧ ∀ n ∈ z1, (Lit.int .i64 n).wf = true) (y1 : len1 * 8 ≤ 140737488351232) (w2 : (Lit.int .i64 a2).wf = true) (hG : GOk w := by first | exact HG.out | exact GOk.below HG.out HB.out | exact GOk.below HG.out (by repeat (first | (with_reducible first | exact HB.out | apply below_alloc | apply pw_below_drewN | apply below_drew1) | exact HB.out))) :
    Calls Tryd.prog 6 #[.slice a0 len0 cap0, .slice a1 len1 cap1, .int .i64 a2] w fun e w' => e = .returned (.bool true) ∧ Below w.heap.size w w' := by
  have HG := Aside0.mk hG
  clear hG
  obtain ⟨l0, rfl, hr0, hm0, hw0, hc0⟩ := ReadsInt.ofRowC w0
  obtain ⟨l1, rfl, hr1, hm1, hw1, hc1⟩ := ReadsInt.ofRowC w1
  obtain ⟨k, h⟩ := P l0 l1 a2 hm0 y0 hw0 hm1 y1 hw1 w2
  refine (vesperlaw12_TapeNear.calls k _ _ l0 _ _ l1 a2 true w (Kd.C_of_reads (d := (0 : Int)) (h1 := fun _ => rfl) hr0) hc0 (Kd.C_of_reads (d := (0 : Int)) (h1 := fun _ => rfl) hr1) hc1 h).mono ?_
  rintro e w' ⟨rfl, hd⟩
  exact ⟨rfl, hd⟩

end Go.Proofs.YtdibgdiiamcmfaaDoor.PTape
