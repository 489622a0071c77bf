/- Written by a program of this session (gprint.py, over the kit's printer): functions of the seat YtdibgdiiamcmfaaDoor and their contracts. No condition but each contract's own. -/
import Derived.Test.YtdibgdiiamcmfaaDoorTapeWriteC
import Derived.Test.YtdibgdiiamcmfaaDoorTapeReadC
import Derived.Test.YtdibgdiiamcmfaaDoorPTapex0
namespace Go.Proofs.YtdibgdiiamcmfaaDoor.PTape
open Go.RowKit Go.Proofs.YtdibgdiiamcmfaaDoorW.PrintWords Go.Proofs.YtdibgdiiamcmfaaDoorW.PrintLast Go.Proofs.YtdibgdiiamcmfaaDoorW.PrintMore
open Go.Proofs.YtdibgdiiamcmfaaDoor.Reader (GOk)
attribute [local go_sem] max2_int min2_int max_two min_two max_three min_three max_four min_four   -- for this text's walks alone
set_option linter.unusedVariables false
set_option linter.unusedSimpArgs false

/-! ### vesperref07_Check: function 31 -/
def vesperref07_Check.l0 : Nat → List (S44) → Int → Int → Option (Int)
  | 0, _, _, _ => none
  | k + 1, x0, x3, x4 => if x4 < (x0.length : Int) then (if 0 ≤ x4 then (if ((rd_T44 x0 x4).f0) < 1 then (some 70) else (if ((rd_T44 x0 x4).f0) > 1048576 then (some 70) else (vesperref07_Check.l0 k x0 (wrap64 (x3 + ((rd_T44 x0 x4).f0))) (wrap64 (x4 + 1))))) else (none)) else (if x3 > 4194304 then (some 70) else (some 0))
def vesperref07_Check.f (k : Nat) (l0 : List (S44)) : Option (Int) := if (l0.length : Int) > 4096 then (some 2) else (vesperref07_Check.l0 k l0 0 0)
theorem vesperref07_Check.mono_l : ∀ k, (∀ y0 y1 y2, LeO (vesperref07_Check.l0 k y0 y1 y2) (vesperref07_Check.l0 (k + 1) y0 y1 y2))
  | 0 => fun _ _ _ r h => by simp [vesperref07_Check.l0] at h
  | k + 1 => by
    have ih0 := vesperref07_Check.mono_l k
    · intro y0 y1 y2
      unfold vesperref07_Check.l0
      repeat' first
      | (with_reducible exact ih0 _ _ _)
      | (with_reducible exact LeO.refl _)
      | (with_reducible exact LeO.none _)
      | (with_reducible refine LeO.ite ?_ ?_)
      | (with_reducible refine LeO.bind ?_ (fun _ => ?_))
      | exact ih0 _ _ _
      | exact LeO.none _
      | refine LeO.ite ?_ ?_
      | refine LeO.bind ?_ (fun _ => ?_)
theorem vesperref07_Check.mono : ∀ a0 k, LeO (vesperref07_Check.f k a0) (vesperref07_Check.f (k + 1) a0) := by
  intro a0 k
  have ih0 := vesperref07_Check.mono_l k
  unfold vesperref07_Check.f
  repeat' first
      | (with_reducible exact ih0 _ _ _)
      | (with_reducible exact LeO.refl _)
      | (with_reducible exact LeO.none _)
      | (with_reducible refine LeO.ite ?_ ?_)
      | (with_reducible refine LeO.bind ?_ (fun _ => ?_))
      | exact ih0 _ _ _
      | exact LeO.none _
      | refine LeO.ite ?_ ?_
      | refine LeO.bind ?_ (fun _ => ?_)
set_option maxHeartbeats 8000000 in
set_option maxRecDepth 100000 in
theorem vesperref07_Check.calls (k : Nat) (A0 : Option Addr) (c0 : Nat) (l0 : List (S44)) (r : Int) (w : World) (hr0 : Kd.C k44 w A0 l0.length l0) (hc0 : l0.length ≤ c0) (h : vesperref07_Check.f k l0 = some r) :
    Calls Tryd.prog 31 #[.slice A0 l0.length c0] w fun e w' => e = .returned (.int .i64 r) ∧ Drawn0 w w' := by
  have HR0 := Aside0.mk hr0
  have HC0 := Aside0.mk hc0
  clear hr0 hc0
  have H : (if (l0.length : Int) > 4096 then (some 2) else (vesperref07_Check.l0 k l0 0 0)) = some r := h
  clear h
  by_cases c2 : (l0.length : Int) > 4096
  · rw [if_pos c2] at H
    have c2b0 : decide (4096 < (l0.length : Int)) = true := decide_eq_true c2
    have c2b1 : decide (4096 < l0.length) = true := decide_eq_true (by omega)
    clear c2
    obtain rfl := Option.some.inj H
    go_enter Tryd.func31, Tryd.ntmps31
    go_wp2
    go_ret
    exact ⟨by first | rfl | (simp; done) | (simp [*]; done), by repeat (first | exact Drawn0.refl _ | apply Drawn0.step)⟩
  · rw [if_neg c2] at H
    have c2b0 : decide (4096 < (l0.length : Int)) = false := decide_eq_false c2
    have c2b1 : decide (4096 < l0.length) = false := decide_eq_false (by omega)
    clear c2
    have H' := Aside0.mk H
    clear H
    go_enter Tryd.func31, Tryd.ntmps31
    go_wp2
    go_loopg [3, 4] k (fun kq v3 v4 w' => ∃ (x3_1 : Int) (x4_1 : Int), v3 = .int .i64 x3_1 ∧ v4 = .int .i64 x4_1 ∧ Aside0 (vesperref07_Check.l0 kq l0 x3_1 x4_1 = some r) ∧ Aside0 (kq ≤ k) ∧ Drawn0 w w')
    case atStart => exact ⟨(0), (0), (by first | rfl | (simp; done) | (simp [*]; done)), (by first | rfl | (simp; done) | (simp [*]; done)), H', ⟨Nat.le_refl _⟩, by repeat (first | exact Drawn0.refl _ | apply Drawn0.step)⟩
    case round =>
      clear H'
      try clear c2
      try clear c2b0
      try clear c2b1
      try clear p2
      obtain ⟨x3_1, x4_1, rfl, rfl, HA, HK1, ⟨m1, rfl⟩⟩ := hrel
      cases gk with
      | zero => exact absurd HA.out (by simp [vesperref07_Check.l0])
      | succ k1 =>
        have H := HA.out
        clear HA
        simp only [vesperref07_Check.l0] at H
        by_cases c3 : x4_1 < (l0.length : Int)
        · rw [if_pos c3] at H
          have c3b0 : decide (x4_1 < (l0.length : Int)) = true := decide_eq_true c3
          clear c3
          by_cases c4 : 0 ≤ x4_1
          · rw [if_pos c4] at H
            have c4b0 : decide (0 ≤ x4_1) = true := decide_eq_true c4
            clear c4
            by_cases c5 : ((rd_T44 l0 x4_1).f0) < 1
            · rw [if_pos c5] at H
              have c5b0 : decide (((rd_T44 l0 x4_1).f0) < 1) = true := decide_eq_true c5
              clear c5
              obtain rfl := Option.some.inj H
              have p230 : 0 ≤ (x4_1 : Int) := of_decide_eq_true (by first | (with_reducible assumption) | assumption)
              have q230 : x4_1 < (l0.length : Int) := of_decide_eq_true (by first | (with_reducible assumption) | assumption)
              obtain ⟨ad230, e230, hx230_0, hx230_1, hx230_2, hx230_3, hx230_4, hx230_5, hx230_6, hx230_7, hx230_8, hx230_9⟩ := at_T44 HR0.out x4_1 p230 q230
              cases e230
              replace p230 := eq_true p230
              replace q230 := eq_true q230
              go_wp2
              go_ret
              exact ⟨by first | rfl | (simp; done) | (simp [*]; done), by repeat (first | exact Drawn0.refl _ | apply Drawn0.step)⟩
            · rw [if_neg c5] at H
              have c5b0 : decide (((rd_T44 l0 x4_1).f0) < 1) = false := decide_eq_false c5
              clear c5
              by_cases c6 : ((rd_T44 l0 x4_1).f0) > 1048576
              · rw [if_pos c6] at H
                have c6b0 : decide (1048576 < ((rd_T44 l0 x4_1).f0)) = true := decide_eq_true c6
                clear c6
                obtain rfl := Option.some.inj H
                have p230 : 0 ≤ (x4_1 : Int) := of_decide_eq_true (by first | (with_reducible assumption) | assumption)
                have q230 : x4_1 < (l0.length : Int) := of_decide_eq_true (by first | (with_reducible assumption) | assumption)
                obtain ⟨ad230, e230, hx230_0, hx230_1, hx230_2, hx230_3, hx230_4, hx230_5, hx230_6, hx230_7, hx230_8, hx230_9⟩ := at_T44 HR0.out x4_1 p230 q230
                cases e230
                replace p230 := eq_true p230
                replace q230 := eq_true q230
                have p231 : 0 ≤ (x4_1 : Int) := of_decide_eq_true (by first | (with_reducible assumption) | assumption)
                have q231 : x4_1 < (l0.length : Int) := of_decide_eq_true (by first | (with_reducible assumption) | assumption)
                obtain ⟨ad231, e231, hx231_0, hx231_1, hx231_2, hx231_3, hx231_4, hx231_5, hx231_6, hx231_7, hx231_8, hx231_9⟩ := at_T44 HR0.out x4_1 p231 q231
                obtain rfl : ad230 = ad231 := (by injection e231)
                replace p231 := eq_true p231
                replace q231 := eq_true q231
                go_wp2
                go_ret
                exact ⟨by first | rfl | (simp; done) | (simp [*]; done), by repeat (first | exact Drawn0.refl _ | apply Drawn0.step)⟩
              · rw [if_neg c6] at H
                have c6b0 : decide (1048576 < ((rd_T44 l0 x4_1).f0)) = false := decide_eq_false c6
                clear c6
                have H' := Aside0.mk H
                clear H
                have p230 : 0 ≤ (x4_1 : Int) := of_decide_eq_true (by first | (with_reducible assumption) | assumption)
                have q230 : x4_1 < (l0.length : Int) := of_decide_eq_true (by first | (with_reducible assumption) | assumption)
                obtain ⟨ad230, e230, hx230_0, hx230_1, hx230_2, hx230_3, hx230_4, hx230_5, hx230_6, hx230_7, hx230_8, hx230_9⟩ := at_T44 HR0.out x4_1 p230 q230
                cases e230
                replace p230 := eq_true p230
                replace q230 := eq_true q230
                have p231 : 0 ≤ (x4_1 : Int) := of_decide_eq_true (by first | (with_reducible assumption) | assumption)
                have q231 : x4_1 < (l0.length : Int) := of_decide_eq_true (by first | (with_reducible assumption) | assumption)
                obtain ⟨ad231, e231, hx231_0, hx231_1, hx231_2, hx231_3, hx231_4, hx231_5, hx231_6, hx231_7, hx231_8, hx231_9⟩ := at_T44 HR0.out x4_1 p231 q231
                obtain rfl : ad230 = ad231 := (by injection e231)
                replace p231 := eq_true p231
                replace q231 := eq_true q231
                have p232 : 0 ≤ (x4_1 : Int) := of_decide_eq_true (by first | (with_reducible assumption) | assumption)
                have q232 : x4_1 < (l0.length : Int) := of_decide_eq_true (by first | (with_reducible assumption) | assumption)
                obtain ⟨ad232, e232, hx232_0, hx232_1, hx232_2, hx232_3, hx232_4, hx232_5, hx232_6, hx232_7, hx232_8, hx232_9⟩ := at_T44 HR0.out x4_1 p232 q232
                obtain rfl : ad230 = ad232 := (by injection e232)
                replace p232 := eq_true p232
                replace q232 := eq_true q232
                go_wp2
                go_roundg k1
                case measure => have := HK1.out; omega
                case rel => exact ⟨(wrap64 (x3_1 + ((rd_T44 l0 x4_1).f0))), (wrap64 (x4_1 + 1)), (by first | rfl | (simp; done) | (simp [*]; done)), (by first | rfl | (simp; done) | (simp [*]; done)), H', ⟨by have := HK1.out; omega⟩, by repeat (first | exact Drawn0.refl _ | apply Drawn0.step)⟩
          · rw [if_neg c4] at H
            exact absurd H (by simp)
        · rw [if_neg c3] at H
          have c3b0 : decide (x4_1 < (l0.length : Int)) = false := decide_eq_false c3
          clear c3
          by_cases c7 : x3_1 > 4194304
          · rw [if_pos c7] at H
            have c7b0 : decide (4194304 < x3_1) = true := decide_eq_true c7
            clear c7
            obtain rfl := Option.some.inj H
            go_wp2
            go_ret
            exact ⟨by first | rfl | (simp; done) | (simp [*]; done), by repeat (first | exact Drawn0.refl _ | apply Drawn0.step)⟩
          · rw [if_neg c7] at H
            have c7b0 : decide (4194304 < x3_1) = false := decide_eq_false c7
            clear c7
            obtain rfl := Option.some.inj H
            go_wp2
            go_ret
            exact ⟨by first | rfl | (simp; done) | (simp [*]; done), by repeat (first | exact Drawn0.refl _ | apply Drawn0.step)⟩

end Go.Proofs.YtdibgdiiamcmfaaDoor.PTape
