/- Written by a program of this session (gprint.py, over the kit's printer): functions of the seat YtdjffafcmomalaaDoor and their contracts. No condition but each contract's own. -/
import Derived.Test.YtdjffafcmomalaaDoorPScrx0
import Derived.Test.YtdjffafcmomalaaDoorPScrx1
namespace Go.Proofs.YtdjffafcmomalaaDoor.PScr
open Go.RowKit Go.Proofs.YtdjffafcmomalaaDoorW.PrintWords Go.Proofs.YtdjffafcmomalaaDoorW.PrintLast Go.Proofs.YtdjffafcmomalaaDoorW.PrintMore
attribute [local go_sem] max2_int min2_int max_two min_two max_three min_three max_four min_four   -- for this text's walks alone
set_option linter.unusedVariables false
set_option linter.unusedSimpArgs false

attribute [local go_sem high] eqA34
/-! ### vesperref07_Same: function 26 -/
def vesperref07_Same.l0 : Nat → List (S34) → List (S34) → Int → Option (Bool)
  | 0, _, _, _ => none
  | k + 1, x0, x1, x5 => if x5 < (x0.length : Int) then (if 0 ≤ x5 then (if x5 < (x1.length : Int) then (if (!(((rd_T34 x0 x5).f0) == ((rd_T34 x1 x5).f0)) || (!(((rd_T34 x0 x5).f1) == ((rd_T34 x1 x5).f1)) || (!(((rd_T34 x0 x5).f2) == ((rd_T34 x1 x5).f2)) || (!(((rd_T34 x0 x5).f3) == ((rd_T34 x1 x5).f3)) || (!(((rd_T34 x0 x5).f4) == ((rd_T34 x1 x5).f4)) || (!(((rd_T34 x0 x5).f5) == ((rd_T34 x1 x5).f5)) || (!(((rd_T34 x0 x5).f6) == ((rd_T34 x1 x5).f6)) || (!(((rd_T34 x0 x5).f7) == ((rd_T34 x1 x5).f7)) || (!(((rd_T34 x0 x5).f8) == ((rd_T34 x1 x5).f8)) || (!(((rd_T34 x0 x5).f9) == ((rd_T34 x1 x5).f9)))))))))))) = true then (some false) else (vesperref07_Same.l0 k x0 x1 (wrap64 (x5 + 1)))) else (none)) else (none)) else (some true)
def vesperref07_Same.f (k : Nat) (l0 : List (S34)) (l1 : List (S34)) : Option (Bool) := if (l0.length : Int) = (l1.length : Int) then (vesperref07_Same.l0 k l0 l1 0) else (some false)
theorem vesperref07_Same.mono_l : ∀ k, (∀ y0 y1 y2, LeO (vesperref07_Same.l0 k y0 y1 y2) (vesperref07_Same.l0 (k + 1) y0 y1 y2))
  | 0 => fun _ _ _ r h => by simp [vesperref07_Same.l0] at h
  | k + 1 => by
    have ih0 := vesperref07_Same.mono_l k
    · intro y0 y1 y2
      unfold vesperref07_Same.l0
      repeat' first
      | (with_reducible exact ih0 _ _ _)
      | (with_reducible exact LeO.refl _)
      | (with_reducible exact LeO.none _)
      | (with_reducible refine LeO.ite ?_ ?_)
      | (with_reducible refine LeO.bind ?_ (fun _ => ?_))
      | exact ih0 _ _ _
      | exact LeO.none _
      | refine LeO.ite ?_ ?_
      | refine LeO.bind ?_ (fun _ => ?_)
theorem vesperref07_Same.mono : ∀ a0 a1 k, LeO (vesperref07_Same.f k a0 a1) (vesperref07_Same.f (k + 1) a0 a1) := by
  intro a0 a1 k
  have ih0 := vesperref07_Same.mono_l k
  unfold vesperref07_Same.f
  repeat' first
      | (with_reducible exact ih0 _ _ _)
      | (with_reducible exact LeO.refl _)
      | (with_reducible exact LeO.none _)
      | (with_reducible refine LeO.ite ?_ ?_)
      | (with_reducible refine LeO.bind ?_ (fun _ => ?_))
      | exact ih0 _ _ _
      | exact LeO.none _
      | refine LeO.ite ?_ ?_
      | refine LeO.bind ?_ (fun _ => ?_)
set_option maxHeartbeats 8000000 in
set_option maxRecDepth 100000 in
theorem vesperref07_Same.calls (k : Nat) (A0 : Option Addr) (c0 : Nat) (l0 : List (S34)) (A1 : Option Addr) (c1 : Nat) (l1 : List (S34)) (r : Bool) (w : World) (hr0 : Kd.C k34 w A0 l0.length l0) (hc0 : l0.length ≤ c0) (hr1 : Kd.C k34 w A1 l1.length l1) (hc1 : l1.length ≤ c1) (h : vesperref07_Same.f k l0 l1 = some r) :
    Calls Tryd.prog 26 #[.slice A0 l0.length c0, .slice A1 l1.length c1] w fun e w' => e = .returned (.bool r) ∧ Drawn0 w w' := by
  have hu34 := Tryd.underlying34
  have HR0 := Aside0.mk hr0
  have HC0 := Aside0.mk hc0
  clear hr0 hc0
  have HR1 := Aside0.mk hr1
  have HC1 := Aside0.mk hc1
  clear hr1 hc1
  have H : (if (l0.length : Int) = (l1.length : Int) then (vesperref07_Same.l0 k l0 l1 0) else (some false)) = some r := h
  clear h
  by_cases c3 : (l0.length : Int) = (l1.length : Int)
  · rw [if_pos c3] at H
    have c3b0 : ((l0.length : Int) == (l1.length : Int)) = true := beq_iff_eq.mpr c3
    have c3b1 : ((l0.length : Int) != (l1.length : Int)) = false := bne_eq_false_iff_eq.mpr c3
    have c3b2 : (l0.length == l1.length) = true := by first | simpa using c3 | (simp at c3 ⊢; omega)
    clear c3
    have H' := Aside0.mk H
    clear H
    go_enter Tryd.func26, Tryd.ntmps26
    go_wp2
    repeat (go_quiet (fail); try go_wp2)
    go_loopg [5] k (fun kq v5 w' => ∃ (x5_1 : Int), v5 = .int .i64 x5_1 ∧ Aside0 (vesperref07_Same.l0 kq l0 l1 x5_1 = some r) ∧ Aside0 (kq ≤ k) ∧ Drawn0 w w')
    case atStart => exact ⟨(0), (by first | rfl | (simp; done) | (simp [*]; done)), H', ⟨Nat.le_refl _⟩, by repeat (first | exact Drawn0.refl _ | apply Drawn0.step)⟩
    case round =>
      clear H'
      try clear c1
      try clear c2
      try clear p2
      try clear c3
      try clear c3b0
      try clear c3b1
      try clear c3b2
      obtain ⟨x5_1, rfl, HA, HK1, ⟨m1, rfl⟩⟩ := hrel
      cases gk with
      | zero => exact absurd HA.out (by simp [vesperref07_Same.l0])
      | succ k1 =>
        have H := HA.out
        clear HA
        simp only [vesperref07_Same.l0] at H
        by_cases c4 : x5_1 < (l0.length : Int)
        · rw [if_pos c4] at H
          have c4b0 : decide (x5_1 < (l0.length : Int)) = true := decide_eq_true c4
          clear c4
          by_cases c5 : 0 ≤ x5_1
          · rw [if_pos c5] at H
            have c5b0 : decide (0 ≤ x5_1) = true := decide_eq_true c5
            clear c5
            by_cases c6 : x5_1 < (l1.length : Int)
            · rw [if_pos c6] at H
              have c6b0 : decide (x5_1 < (l1.length : Int)) = true := decide_eq_true c6
              clear c6
              by_cases c7 : (!(((rd_T34 l0 x5_1).f0) == ((rd_T34 l1 x5_1).f0)) || (!(((rd_T34 l0 x5_1).f1) == ((rd_T34 l1 x5_1).f1)) || (!(((rd_T34 l0 x5_1).f2) == ((rd_T34 l1 x5_1).f2)) || (!(((rd_T34 l0 x5_1).f3) == ((rd_T34 l1 x5_1).f3)) || (!(((rd_T34 l0 x5_1).f4) == ((rd_T34 l1 x5_1).f4)) || (!(((rd_T34 l0 x5_1).f5) == ((rd_T34 l1 x5_1).f5)) || (!(((rd_T34 l0 x5_1).f6) == ((rd_T34 l1 x5_1).f6)) || (!(((rd_T34 l0 x5_1).f7) == ((rd_T34 l1 x5_1).f7)) || (!(((rd_T34 l0 x5_1).f8) == ((rd_T34 l1 x5_1).f8)) || (!(((rd_T34 l0 x5_1).f9) == ((rd_T34 l1 x5_1).f9)))))))))))) = true
              · rw [if_pos c7] at H
                have c7b0 : (!(((rd_T34 l0 x5_1).f0) == ((rd_T34 l1 x5_1).f0)) || (!(((rd_T34 l0 x5_1).f1) == ((rd_T34 l1 x5_1).f1)) || (!(((rd_T34 l0 x5_1).f2) == ((rd_T34 l1 x5_1).f2)) || (!(((rd_T34 l0 x5_1).f3) == ((rd_T34 l1 x5_1).f3)) || (!(((rd_T34 l0 x5_1).f4) == ((rd_T34 l1 x5_1).f4)) || (!(((rd_T34 l0 x5_1).f5) == ((rd_T34 l1 x5_1).f5)) || (!(((rd_T34 l0 x5_1).f6) == ((rd_T34 l1 x5_1).f6)) || (!(((rd_T34 l0 x5_1).f7) == ((rd_T34 l1 x5_1).f7)) || (!(((rd_T34 l0 x5_1).f8) == ((rd_T34 l1 x5_1).f8)) || (!(((rd_T34 l0 x5_1).f9) == ((rd_T34 l1 x5_1).f9)))))))))))) = true := c7
                clear c7
                obtain rfl := Option.some.inj H
                have p127 : 0 ≤ (x5_1 : Int) := of_decide_eq_true (by first | (with_reducible assumption) | assumption)
                have q127 : x5_1 < (l0.length : Int) := of_decide_eq_true (by first | (with_reducible assumption) | assumption)
                obtain ⟨ad127, e127, hx127_0, hx127_1, hx127_2, hx127_3, hx127_4, hx127_5, hx127_6, hx127_7, hx127_8, hx127_9⟩ := at_T34 HR0.out x5_1 p127 q127
                cases e127
                replace p127 := eq_true p127
                replace q127 := eq_true q127
                have p128 : 0 ≤ (x5_1 : Int) := of_decide_eq_true (by first | (with_reducible assumption) | assumption)
                have q128 : x5_1 < (l1.length : Int) := of_decide_eq_true (by first | (with_reducible assumption) | assumption)
                obtain ⟨ad128, e128, hx128_0, hx128_1, hx128_2, hx128_3, hx128_4, hx128_5, hx128_6, hx128_7, hx128_8, hx128_9⟩ := at_T34 HR1.out x5_1 p128 q128
                cases e128
                replace p128 := eq_true p128
                replace q128 := eq_true q128
                go_wp2
                repeat (go_quiet (fail); try go_wp2)
                go_ret
                exact ⟨by first | rfl | (simp; done) | (simp [*]; done), by repeat (first | exact Drawn0.refl _ | apply Drawn0.step)⟩
              · rw [if_neg c7] at H
                have c7b0 : (!(((rd_T34 l0 x5_1).f0) == ((rd_T34 l1 x5_1).f0)) || (!(((rd_T34 l0 x5_1).f1) == ((rd_T34 l1 x5_1).f1)) || (!(((rd_T34 l0 x5_1).f2) == ((rd_T34 l1 x5_1).f2)) || (!(((rd_T34 l0 x5_1).f3) == ((rd_T34 l1 x5_1).f3)) || (!(((rd_T34 l0 x5_1).f4) == ((rd_T34 l1 x5_1).f4)) || (!(((rd_T34 l0 x5_1).f5) == ((rd_T34 l1 x5_1).f5)) || (!(((rd_T34 l0 x5_1).f6) == ((rd_T34 l1 x5_1).f6)) || (!(((rd_T34 l0 x5_1).f7) == ((rd_T34 l1 x5_1).f7)) || (!(((rd_T34 l0 x5_1).f8) == ((rd_T34 l1 x5_1).f8)) || (!(((rd_T34 l0 x5_1).f9) == ((rd_T34 l1 x5_1).f9)))))))))))) = false := by simpa using c7
                clear c7
                have H' := Aside0.mk H
                clear H
                have p127 : 0 ≤ (x5_1 : Int) := of_decide_eq_true (by first | (with_reducible assumption) | assumption)
                have q127 : x5_1 < (l0.length : Int) := of_decide_eq_true (by first | (with_reducible assumption) | assumption)
                obtain ⟨ad127, e127, hx127_0, hx127_1, hx127_2, hx127_3, hx127_4, hx127_5, hx127_6, hx127_7, hx127_8, hx127_9⟩ := at_T34 HR0.out x5_1 p127 q127
                cases e127
                replace p127 := eq_true p127
                replace q127 := eq_true q127
                have p128 : 0 ≤ (x5_1 : Int) := of_decide_eq_true (by first | (with_reducible assumption) | assumption)
                have q128 : x5_1 < (l1.length : Int) := of_decide_eq_true (by first | (with_reducible assumption) | assumption)
                obtain ⟨ad128, e128, hx128_0, hx128_1, hx128_2, hx128_3, hx128_4, hx128_5, hx128_6, hx128_7, hx128_8, hx128_9⟩ := at_T34 HR1.out x5_1 p128 q128
                cases e128
                replace p128 := eq_true p128
                replace q128 := eq_true q128
                go_wp2
                repeat (go_quiet (fail); try go_wp2)
                go_roundg k1
                case measure => have := HK1.out; omega
                case rel => exact ⟨(wrap64 (x5_1 + 1)), (by first | rfl | (simp; done) | (simp [*]; done)), H', ⟨by have := HK1.out; omega⟩, by repeat (first | exact Drawn0.refl _ | apply Drawn0.step)⟩
            · rw [if_neg c6] at H
              exact absurd H (by simp)
          · rw [if_neg c5] at H
            exact absurd H (by simp)
        · rw [if_neg c4] at H
          have c4b0 : decide (x5_1 < (l0.length : Int)) = false := decide_eq_false c4
          clear c4
          obtain rfl := Option.some.inj H
          go_wp2
          repeat (go_quiet (fail); try go_wp2)
          go_ret
          exact ⟨by first | rfl | (simp; done) | (simp [*]; done), by repeat (first | exact Drawn0.refl _ | apply Drawn0.step)⟩
  · rw [if_neg c3] at H
    have c3b0 : ((l0.length : Int) == (l1.length : Int)) = false := beq_eq_false_iff_ne.mpr c3
    have c3b1 : ((l0.length : Int) != (l1.length : Int)) = true := bne_iff_ne.mpr c3
    have c3b2 : (l0.length == l1.length) = false := by first | simpa using c3 | (simp at c3 ⊢; omega)
    obtain rfl := Option.some.inj H
    go_enter Tryd.func26, Tryd.ntmps26
    go_wp2
    repeat (go_quiet (fail); try go_wp2)
    go_ret
    exact ⟨by first | rfl | (simp; done) | (simp [*]; done), by repeat (first | exact Drawn0.refl _ | apply Drawn0.step)⟩

-- NOT PRINTED: function 16 (vesperlaw07_back)

/-! ### vesperref07_Check: function 17 -/
def vesperref07_Check.l0 : Nat → List (S34) → Int → Int → Option (Int)
  | 0, _, _, _ => none
  | k + 1, x0, x3, x4 => if x4 < (x0.length : Int) then (if 0 ≤ x4 then (if ((rd_T34 x0 x4).f0) < 1 then (some 70) else (if ((rd_T34 x0 x4).f0) > 1048576 then (some 70) else (vesperref07_Check.l0 k x0 (wrap64 (x3 + ((rd_T34 x0 x4).f0))) (wrap64 (x4 + 1))))) else (none)) else (if x3 > 4194304 then (some 70) else (some 0))
def vesperref07_Check.f (k : Nat) (l0 : List (S34)) : Option (Int) := if (l0.length : Int) > 4096 then (some 2) else (vesperref07_Check.l0 k l0 0 0)
theorem vesperref07_Check.mono_l : ∀ k, (∀ y0 y1 y2, LeO (vesperref07_Check.l0 k y0 y1 y2) (vesperref07_Check.l0 (k + 1) y0 y1 y2))
  | 0 => fun _ _ _ r h => by simp [vesperref07_Check.l0] at h
  | k + 1 => by
    have ih0 := vesperref07_Check.mono_l k
    · intro y0 y1 y2
      unfold vesperref07_Check.l0
      repeat' first
      | (with_reducible exact ih0 _ _ _)
      | (with_reducible exact LeO.refl _)
      | (with_reducible exact LeO.none _)
      | (with_reducible refine LeO.ite ?_ ?_)
      | (with_reducible refine LeO.bind ?_ (fun _ => ?_))
      | exact ih0 _ _ _
      | exact LeO.none _
      | refine LeO.ite ?_ ?_
      | refine LeO.bind ?_ (fun _ => ?_)
theorem vesperref07_Check.mono : ∀ a0 k, LeO (vesperref07_Check.f k a0) (vesperref07_Check.f (k + 1) a0) := by
  intro a0 k
  have ih0 := vesperref07_Check.mono_l k
  unfold vesperref07_Check.f
  repeat' first
      | (with_reducible exact ih0 _ _ _)
      | (with_reducible exact LeO.refl _)
      | (with_reducible exact LeO.none _)
      | (with_reducible refine LeO.ite ?_ ?_)
      | (with_reducible refine LeO.bind ?_ (fun _ => ?_))
      | exact ih0 _ _ _
      | exact LeO.none _
      | refine LeO.ite ?_ ?_
      | refine LeO.bind ?_ (fun _ => ?_)
set_option maxHeartbeats 8000000 in
set_option maxRecDepth 100000 in
theorem vesperref07_Check.calls (k : Nat) (A0 : Option Addr) (c0 : Nat) (l0 : List (S34)) (r : Int) (w : World) (hr0 : Kd.C k34 w A0 l0.length l0) (hc0 : l0.length ≤ c0) (h : vesperref07_Check.f k l0 = some r) :
    Calls Tryd.prog 17 #[.slice A0 l0.length c0] w fun e w' => e = .returned (.int .i64 r) ∧ Drawn0 w w' := by
  have HR0 := Aside0.mk hr0
  have HC0 := Aside0.mk hc0
  clear hr0 hc0
  have H : (if (l0.length : Int) > 4096 then (some 2) else (vesperref07_Check.l0 k l0 0 0)) = some r := h
  clear h
  by_cases c2 : (l0.length : Int) > 4096
  · rw [if_pos c2] at H
    have c2b0 : decide (4096 < (l0.length : Int)) = true := decide_eq_true c2
    have c2b1 : decide (4096 < l0.length) = true := decide_eq_true (by omega)
    clear c2
    obtain rfl := Option.some.inj H
    go_enter Tryd.func17, Tryd.ntmps17
    go_wp2
    go_ret
    exact ⟨by first | rfl | (simp; done) | (simp [*]; done), by repeat (first | exact Drawn0.refl _ | apply Drawn0.step)⟩
  · rw [if_neg c2] at H
    have c2b0 : decide (4096 < (l0.length : Int)) = false := decide_eq_false c2
    have c2b1 : decide (4096 < l0.length) = false := decide_eq_false (by omega)
    clear c2
    have H' := Aside0.mk H
    clear H
    go_enter Tryd.func17, Tryd.ntmps17
    go_wp2
    go_loopg [3, 4] k (fun kq v3 v4 w' => ∃ (x3_1 : Int) (x4_1 : Int), v3 = .int .i64 x3_1 ∧ v4 = .int .i64 x4_1 ∧ Aside0 (vesperref07_Check.l0 kq l0 x3_1 x4_1 = some r) ∧ Aside0 (kq ≤ k) ∧ Drawn0 w w')
    case atStart => exact ⟨(0), (0), (by first | rfl | (simp; done) | (simp [*]; done)), (by first | rfl | (simp; done) | (simp [*]; done)), H', ⟨Nat.le_refl _⟩, by repeat (first | exact Drawn0.refl _ | apply Drawn0.step)⟩
    case round =>
      clear H'
      try clear c1
      try clear c2
      try clear c2b0
      try clear c2b1
      try clear p2
      obtain ⟨x3_1, x4_1, rfl, rfl, HA, HK1, ⟨m1, rfl⟩⟩ := hrel
      cases gk with
      | zero => exact absurd HA.out (by simp [vesperref07_Check.l0])
      | succ k1 =>
        have H := HA.out
        clear HA
        simp only [vesperref07_Check.l0] at H
        by_cases c3 : x4_1 < (l0.length : Int)
        · rw [if_pos c3] at H
          have c3b0 : decide (x4_1 < (l0.length : Int)) = true := decide_eq_true c3
          clear c3
          by_cases c4 : 0 ≤ x4_1
          · rw [if_pos c4] at H
            have c4b0 : decide (0 ≤ x4_1) = true := decide_eq_true c4
            clear c4
            by_cases c5 : ((rd_T34 l0 x4_1).f0) < 1
            · rw [if_pos c5] at H
              have c5b0 : decide (((rd_T34 l0 x4_1).f0) < 1) = true := decide_eq_true c5
              clear c5
              obtain rfl := Option.some.inj H
              have p135 : 0 ≤ (x4_1 : Int) := of_decide_eq_true (by first | (with_reducible assumption) | assumption)
              have q135 : x4_1 < (l0.length : Int) := of_decide_eq_true (by first | (with_reducible assumption) | assumption)
              obtain ⟨ad135, e135, hx135_0, hx135_1, hx135_2, hx135_3, hx135_4, hx135_5, hx135_6, hx135_7, hx135_8, hx135_9⟩ := at_T34 HR0.out x4_1 p135 q135
              cases e135
              replace p135 := eq_true p135
              replace q135 := eq_true q135
              go_wp2
              go_ret
              exact ⟨by first | rfl | (simp; done) | (simp [*]; done), by repeat (first | exact Drawn0.refl _ | apply Drawn0.step)⟩
            · rw [if_neg c5] at H
              have c5b0 : decide (((rd_T34 l0 x4_1).f0) < 1) = false := decide_eq_false c5
              clear c5
              by_cases c6 : ((rd_T34 l0 x4_1).f0) > 1048576
              · rw [if_pos c6] at H
                have c6b0 : decide (1048576 < ((rd_T34 l0 x4_1).f0)) = true := decide_eq_true c6
                clear c6
                obtain rfl := Option.some.inj H
                have p135 : 0 ≤ (x4_1 : Int) := of_decide_eq_true (by first | (with_reducible assumption) | assumption)
                have q135 : x4_1 < (l0.length : Int) := of_decide_eq_true (by first | (with_reducible assumption) | assumption)
                obtain ⟨ad135, e135, hx135_0, hx135_1, hx135_2, hx135_3, hx135_4, hx135_5, hx135_6, hx135_7, hx135_8, hx135_9⟩ := at_T34 HR0.out x4_1 p135 q135
                cases e135
                replace p135 := eq_true p135
                replace q135 := eq_true q135
                have p136 : 0 ≤ (x4_1 : Int) := of_decide_eq_true (by first | (with_reducible assumption) | assumption)
                have q136 : x4_1 < (l0.length : Int) := of_decide_eq_true (by first | (with_reducible assumption) | assumption)
                obtain ⟨ad136, e136, hx136_0, hx136_1, hx136_2, hx136_3, hx136_4, hx136_5, hx136_6, hx136_7, hx136_8, hx136_9⟩ := at_T34 HR0.out x4_1 p136 q136
                obtain rfl : ad135 = ad136 := (by injection e136)
                replace p136 := eq_true p136
                replace q136 := eq_true q136
                go_wp2
                go_ret
                exact ⟨by first | rfl | (simp; done) | (simp [*]; done), by repeat (first | exact Drawn0.refl _ | apply Drawn0.step)⟩
              · rw [if_neg c6] at H
                have c6b0 : decide (1048576 < ((rd_T34 l0 x4_1).f0)) = false := decide_eq_false c6
                clear c6
                have H' := Aside0.mk H
                clear H
                have p135 : 0 ≤ (x4_1 : Int) := of_decide_eq_true (by first | (with_reducible assumption) | assumption)
                have q135 : x4_1 < (l0.length : Int) := of_decide_eq_true (by first | (with_reducible assumption) | assumption)
                obtain ⟨ad135, e135, hx135_0, hx135_1, hx135_2, hx135_3, hx135_4, hx135_5, hx135_6, hx135_7, hx135_8, hx135_9⟩ := at_T34 HR0.out x4_1 p135 q135
                cases e135
                replace p135 := eq_true p135
                replace q135 := eq_true q135
                have p136 : 0 ≤ (x4_1 : Int) := of_decide_eq_true (by first | (with_reducible assumption) | assumption)
                have q136 : x4_1 < (l0.length : Int) := of_decide_eq_true (by first | (with_reducible assumption) | assumption)
                obtain ⟨ad136, e136, hx136_0, hx136_1, hx136_2, hx136_3, hx136_4, hx136_5, hx136_6, hx136_7, hx136_8, hx136_9⟩ := at_T34 HR0.out x4_1 p136 q136
                obtain rfl : ad135 = ad136 := (by injection e136)
                replace p136 := eq_true p136
                replace q136 := eq_true q136
                have p137 : 0 ≤ (x4_1 : Int) := of_decide_eq_true (by first | (with_reducible assumption) | assumption)
                have q137 : x4_1 < (l0.length : Int) := of_decide_eq_true (by first | (with_reducible assumption) | assumption)
                obtain ⟨ad137, e137, hx137_0, hx137_1, hx137_2, hx137_3, hx137_4, hx137_5, hx137_6, hx137_7, hx137_8, hx137_9⟩ := at_T34 HR0.out x4_1 p137 q137
                obtain rfl : ad135 = ad137 := (by injection e137)
                replace p137 := eq_true p137
                replace q137 := eq_true q137
                go_wp2
                go_roundg k1
                case measure => have := HK1.out; omega
                case rel => exact ⟨(wrap64 (x3_1 + ((rd_T34 l0 x4_1).f0))), (wrap64 (x4_1 + 1)), (by first | rfl | (simp; done) | (simp [*]; done)), (by first | rfl | (simp; done) | (simp [*]; done)), H', ⟨by have := HK1.out; omega⟩, by repeat (first | exact Drawn0.refl _ | apply Drawn0.step)⟩
          · rw [if_neg c4] at H
            exact absurd H (by simp)
        · rw [if_neg c3] at H
          have c3b0 : decide (x4_1 < (l0.length : Int)) = false := decide_eq_false c3
          clear c3
          by_cases c7 : x3_1 > 4194304
          · rw [if_pos c7] at H
            have c7b0 : decide (4194304 < x3_1) = true := decide_eq_true c7
            clear c7
            obtain rfl := Option.some.inj H
            go_wp2
            go_ret
            exact ⟨by first | rfl | (simp; done) | (simp [*]; done), by repeat (first | exact Drawn0.refl _ | apply Drawn0.step)⟩
          · rw [if_neg c7] at H
            have c7b0 : decide (4194304 < x3_1) = false := decide_eq_false c7
            clear c7
            obtain rfl := Option.some.inj H
            go_wp2
            go_ret
            exact ⟨by first | rfl | (simp; done) | (simp [*]; done), by repeat (first | exact Drawn0.refl _ | apply Drawn0.step)⟩

/-! ### vesperref07_Cycles: function 18 -/
def vesperref07_Cycles.l0 : Nat → List (S34) → Int → Int → Option (Int × Int)
  | 0, _, _, _ => none
  | k + 1, x0, x5, x6 => if x6 < (x0.length : Int) then (if 0 ≤ x6 then (vesperref07_Cycles.l0 k x0 (wrap64 (x5 + ((rd_T34 x0 x6).f0))) (wrap64 (x6 + 1))) else (none)) else (some (x5, 0))
def vesperref07_Cycles.f (k : Nat) (l0 : List (S34)) : Option (Int × Int) := (vesperref07_Check.f k l0).bind fun t138 => (if t138 = 0 then (vesperref07_Cycles.l0 k l0 0 0) else (some (0, t138)))
theorem vesperref07_Cycles.mono_l : ∀ k, (∀ y0 y1 y2, LeO (vesperref07_Cycles.l0 k y0 y1 y2) (vesperref07_Cycles.l0 (k + 1) y0 y1 y2))
  | 0 => fun _ _ _ r h => by simp [vesperref07_Cycles.l0] at h
  | k + 1 => by
    have ih0 := vesperref07_Cycles.mono_l k
    · intro y0 y1 y2
      unfold vesperref07_Cycles.l0
      repeat' first
      | (with_reducible exact ih0 _ _ _)
      | (with_reducible exact vesperref07_Check.mono _ _)
      | (with_reducible exact LeO.refl _)
      | (with_reducible exact LeO.none _)
      | (with_reducible refine LeO.ite ?_ ?_)
      | (with_reducible refine LeO.bind ?_ (fun _ => ?_))
      | exact ih0 _ _ _
      | exact vesperref07_Check.mono _ _
      | exact LeO.none _
      | refine LeO.ite ?_ ?_
      | refine LeO.bind ?_ (fun _ => ?_)
theorem vesperref07_Cycles.mono : ∀ a0 k, LeO (vesperref07_Cycles.f k a0) (vesperref07_Cycles.f (k + 1) a0) := by
  intro a0 k
  have ih0 := vesperref07_Cycles.mono_l k
  unfold vesperref07_Cycles.f
  repeat' first
      | (with_reducible exact ih0 _ _ _)
      | (with_reducible exact vesperref07_Check.mono _ _)
      | (with_reducible exact LeO.refl _)
      | (with_reducible exact LeO.none _)
      | (with_reducible refine LeO.ite ?_ ?_)
      | (with_reducible refine LeO.bind ?_ (fun _ => ?_))
      | exact ih0 _ _ _
      | exact vesperref07_Check.mono _ _
      | exact LeO.none _
      | refine LeO.ite ?_ ?_
      | refine LeO.bind ?_ (fun _ => ?_)
set_option maxHeartbeats 8000000 in
set_option maxRecDepth 100000 in
theorem vesperref07_Cycles.calls (k : Nat) (A0 : Option Addr) (c0 : Nat) (l0 : List (S34)) (r1 : Int) (r2 : Int) (w : World) (hr0 : Kd.C k34 w A0 l0.length l0) (hc0 : l0.length ≤ c0) (h : vesperref07_Cycles.f k l0 = some (r1, r2)) :
    Calls Tryd.prog 18 #[.slice A0 l0.length c0] w fun e w' => e = .returned (.tuple #[.int .i64 r1, .int .i64 r2]) ∧ Drawn0 w w' := by
  have HR0 := Aside0.mk hr0
  have HC0 := Aside0.mk hc0
  clear hr0 hc0
  have H : ((vesperref07_Check.f k l0).bind fun t138 => (if t138 = 0 then (vesperref07_Cycles.l0 k l0 0 0) else (some (0, t138)))) = some (r1, r2) := h
  clear h
  replace H := Option.bind_eq_some_iff.mp H
  obtain ⟨t138, A20, H⟩ := H
  replace H : (if t138 = 0 then (vesperref07_Cycles.l0 k l0 0 0) else (some (0, t138))) = some (r1, r2) := H
  have A2 := Aside0.mk A20
  clear A20
  by_cases c3 : t138 = 0
  · rw [if_pos c3] at H
    have c3b0 : (t138 == 0) = true := beq_iff_eq.mpr c3
    have c3b1 : (t138 != 0) = false := bne_eq_false_iff_eq.mpr c3
    clear c3
    have H' := Aside0.mk H
    clear H
    go_enter Tryd.func18, Tryd.ntmps18
    go_wp2_with (first | ((with_reducible refine gate_callee (f := 17) rfl ?_); refine goesL_ (some 8) rfl rfl Tryd.func17 (by kernel_rfl) rfl #[.slice A0 l0.length c0] rfl (by (try simp only [List.map_toArray, List.map_cons, List.map_nil]); first | done | rfl | (simp only [List.length_drop, List.length_take]; rfl)) ?_; (with_reducible refine (vesperref07_Check.calls k _ _ l0 t138 _ ?side1 ?side2 A2.out).mono ?_); (case side1 => repeat (first | exact HR0.out | (with_reducible refine Kd.C_alloc ?_ _) | (with_reducible refine Kd.C_drewN ?_ _) | (with_reducible refine Kd.C_drew ?_))); (case side2 => exact HC0.out); rintro e w' ⟨rfl, ⟨nd, rfl⟩⟩; refine ⟨_, rfl, ?_⟩))
    go_loopg [5, 6] k (fun kq v5 v6 w' => ∃ (x5_1 : Int) (x6_1 : Int), v5 = .int .i64 x5_1 ∧ v6 = .int .i64 x6_1 ∧ Aside0 (vesperref07_Cycles.l0 kq l0 x5_1 x6_1 = some (r1, r2)) ∧ Aside0 (kq ≤ k) ∧ Drawn0 w w')
    case atStart => exact ⟨(0), (0), (by first | rfl | (simp; done) | (simp [*]; done)), (by first | rfl | (simp; done) | (simp [*]; done)), H', ⟨Nat.le_refl _⟩, by repeat (first | exact Drawn0.refl _ | apply Drawn0.step)⟩
    case round =>
      clear H'
      try clear c1
      try clear p2
      try clear c3
      try clear c3b0
      try clear c3b1
      obtain ⟨x5_1, x6_1, rfl, rfl, HA, HK1, ⟨m1, rfl⟩⟩ := hrel
      cases gk with
      | zero => exact absurd HA.out (by simp [vesperref07_Cycles.l0])
      | succ k1 =>
        have H := HA.out
        clear HA
        simp only [vesperref07_Cycles.l0] at H
        by_cases c4 : x6_1 < (l0.length : Int)
        · rw [if_pos c4] at H
          have c4b0 : decide (x6_1 < (l0.length : Int)) = true := decide_eq_true c4
          clear c4
          by_cases c5 : 0 ≤ x6_1
          · rw [if_pos c5] at H
            have c5b0 : decide (0 ≤ x6_1) = true := decide_eq_true c5
            clear c5
            have H' := Aside0.mk H
            clear H
            have p139 : 0 ≤ (x6_1 : Int) := of_decide_eq_true (by first | (with_reducible assumption) | assumption)
            have q139 : x6_1 < (l0.length : Int) := of_decide_eq_true (by first | (with_reducible assumption) | assumption)
            obtain ⟨ad139, e139, hx139_0, hx139_1, hx139_2, hx139_3, hx139_4, hx139_5, hx139_6, hx139_7, hx139_8, hx139_9⟩ := at_T34 HR0.out x6_1 p139 q139
            cases e139
            replace p139 := eq_true p139
            replace q139 := eq_true q139
            go_wp2
            go_roundg k1
            case measure => have := HK1.out; omega
            case rel => exact ⟨(wrap64 (x5_1 + ((rd_T34 l0 x6_1).f0))), (wrap64 (x6_1 + 1)), (by first | rfl | (simp; done) | (simp [*]; done)), (by first | rfl | (simp; done) | (simp [*]; done)), H', ⟨by have := HK1.out; omega⟩, by repeat (first | exact Drawn0.refl _ | apply Drawn0.step)⟩
          · rw [if_neg c5] at H
            exact absurd H (by simp)
        · rw [if_neg c4] at H
          have c4b0 : decide (x6_1 < (l0.length : Int)) = false := decide_eq_false c4
          clear c4
          simp only [Option.some.injEq, Prod.mk.injEq] at H
          obtain ⟨rfl, rfl⟩ := H
          go_wp2
          go_ret2
          exact ⟨by first | rfl | (simp; done) | (simp [*]; done), by repeat (first | exact Drawn0.refl _ | apply Drawn0.step)⟩
  · rw [if_neg c3] at H
    have c3b0 : (t138 == 0) = false := beq_eq_false_iff_ne.mpr c3
    have c3b1 : (t138 != 0) = true := bne_iff_ne.mpr c3
    simp only [Option.some.injEq, Prod.mk.injEq] at H
    obtain ⟨rfl, rfl⟩ := H
    go_enter Tryd.func18, Tryd.ntmps18
    go_wp2_with (first | ((with_reducible refine gate_callee (f := 17) rfl ?_); refine goesL_ (some 8) rfl rfl Tryd.func17 (by kernel_rfl) rfl #[.slice A0 l0.length c0] rfl (by (try simp only [List.map_toArray, List.map_cons, List.map_nil]); first | done | rfl | (simp only [List.length_drop, List.length_take]; rfl)) ?_; (with_reducible refine (vesperref07_Check.calls k _ _ l0 t138 _ ?side1 ?side2 A2.out).mono ?_); (case side1 => repeat (first | exact HR0.out | (with_reducible refine Kd.C_alloc ?_ _) | (with_reducible refine Kd.C_drewN ?_ _) | (with_reducible refine Kd.C_drew ?_))); (case side2 => exact HC0.out); rintro e w' ⟨rfl, ⟨nd, rfl⟩⟩; refine ⟨_, rfl, ?_⟩))
    go_ret2
    exact ⟨by first | rfl | (simp; done) | (simp [*]; done), by repeat (first | exact Drawn0.refl _ | apply Drawn0.step)⟩

/-! ### vesperref07_Mode: function 20 -/
def vesperref07_Mode.j0 : Nat → Bool → Int → Int → Bool → Bool → Bool → Bool → Bool → Bool → Bool → Int → Option (Int)
  | 0, _, _, _, _, _, _, _, _, _, _, _ => none
  | k + 1, x3, x141000, x141001, x141002, x141003, x141004, x141005, x141006, x141007, x141008, x141009 => if x3 = true then (some 3) else (if x141007 = true then (some 2) else (if x141008 = true then (some 1) else (some 0)))
def vesperref07_Mode.f (k : Nat) (a0_0 : Int) (a0_1 : Int) (a0_2 : Bool) (a0_3 : Bool) (a0_4 : Bool) (a0_5 : Bool) (a0_6 : Bool) (a0_7 : Bool) (a0_8 : Bool) (a0_9 : Int) : Option (Int) := if a0_7 = true then (vesperref07_Mode.j0 k a0_8 a0_0 a0_1 a0_2 a0_3 a0_4 a0_5 a0_6 a0_7 a0_8 a0_9) else (vesperref07_Mode.j0 k false a0_0 a0_1 a0_2 a0_3 a0_4 a0_5 a0_6 a0_7 a0_8 a0_9)
theorem vesperref07_Mode.mono_l : ∀ k, (∀ y0 y1 y2 y3 y4 y5 y6 y7 y8 y9 y10, LeO (vesperref07_Mode.j0 k y0 y1 y2 y3 y4 y5 y6 y7 y8 y9 y10) (vesperref07_Mode.j0 (k + 1) y0 y1 y2 y3 y4 y5 y6 y7 y8 y9 y10))
  | 0 => fun _ _ _ _ _ _ _ _ _ _ _ r h => by simp [vesperref07_Mode.j0] at h
  | k + 1 => by
    have ih0 := vesperref07_Mode.mono_l k
    · intro y0 y1 y2 y3 y4 y5 y6 y7 y8 y9 y10
      unfold vesperref07_Mode.j0
      repeat' first
      | (with_reducible exact ih0 _ _ _ _ _ _ _ _ _ _ _)
      | (with_reducible exact LeO.refl _)
      | (with_reducible exact LeO.none _)
      | (with_reducible refine LeO.ite ?_ ?_)
      | (with_reducible refine LeO.bind ?_ (fun _ => ?_))
      | exact ih0 _ _ _ _ _ _ _ _ _ _ _
      | exact LeO.none _
      | refine LeO.ite ?_ ?_
      | refine LeO.bind ?_ (fun _ => ?_)
theorem vesperref07_Mode.mono : ∀ a0 a1 a2 a3 a4 a5 a6 a7 a8 a9 k, LeO (vesperref07_Mode.f k a0 a1 a2 a3 a4 a5 a6 a7 a8 a9) (vesperref07_Mode.f (k + 1) a0 a1 a2 a3 a4 a5 a6 a7 a8 a9) := by
  intro a0 a1 a2 a3 a4 a5 a6 a7 a8 a9 k
  have ih0 := vesperref07_Mode.mono_l k
  unfold vesperref07_Mode.f
  repeat' first
      | (with_reducible exact ih0 _ _ _ _ _ _ _ _ _ _ _)
      | (with_reducible exact LeO.refl _)
      | (with_reducible exact LeO.none _)
      | (with_reducible refine LeO.ite ?_ ?_)
      | (with_reducible refine LeO.bind ?_ (fun _ => ?_))
      | exact ih0 _ _ _ _ _ _ _ _ _ _ _
      | exact LeO.none _
      | refine LeO.ite ?_ ?_
      | refine LeO.bind ?_ (fun _ => ?_)
set_option maxHeartbeats 8000000 in
set_option maxRecDepth 100000 in
theorem vesperref07_Mode.calls (k : Nat) (a0_0 : Int) (a0_1 : Int) (a0_2 : Bool) (a0_3 : Bool) (a0_4 : Bool) (a0_5 : Bool) (a0_6 : Bool) (a0_7 : Bool) (a0_8 : Bool) (a0_9 : Int) (r : Int) (w : World) (h : vesperref07_Mode.f k a0_0 a0_1 a0_2 a0_3 a0_4 a0_5 a0_6 a0_7 a0_8 a0_9 = some r) :
    Calls Tryd.prog 20 #[.agg #[.int .i64 a0_0, .int .u16 a0_1, .bool a0_2, .bool a0_3, .bool a0_4, .bool a0_5, .bool a0_6, .bool a0_7, .bool a0_8, .int .u8 a0_9]] w fun e w' => e = .returned (.int .u8 r) ∧ Below w.heap.size w w' := by
  have hu34 := Tryd.underlying34
  have HB := Aside0.mk (Below.refl w.heap.size w)
  have H : (if a0_7 = true then (vesperref07_Mode.j0 k a0_8 a0_0 a0_1 a0_2 a0_3 a0_4 a0_5 a0_6 a0_7 a0_8 a0_9) else (vesperref07_Mode.j0 k false a0_0 a0_1 a0_2 a0_3 a0_4 a0_5 a0_6 a0_7 a0_8 a0_9)) = some r := h
  clear h
  have HC2 := Aside0.mk H
  clear H
  go_enter Tryd.func20, Tryd.ntmps20
  go_upto_region 1 with (first | ((with_reducible refine gate_dst (N := 1) rfl ?_); refine box_event ?hg (N := 1) ?hd (cs := #[.int .i64 a0_0, .int .u16 a0_1, .bool a0_2, .bool a0_3, .bool a0_4, .bool a0_5, .bool a0_6, .bool a0_7, .bool a0_8, .int .u8 a0_9]) (t := 34) ?hr ?_; (case hd => rfl); (case hg => rfl); (case hr => first | (go_simp; done) | (go_simp; rfl)); intro gb140 hg w3 hbox hb; have n0_ := Aside0.mk (below_step (by repeat (first | (with_reducible first | exact HB.out | apply below_alloc | apply pw_below_drewN | apply below_drew1) | exact HB.out)) hb); have n1_ := Aside0.mk (hbox); have n2_ := Aside0.mk ((by rw [hg]; exact (below_size (by repeat (first | (with_reducible first | exact HB.out | apply below_alloc | apply pw_below_drewN | apply below_drew1) | exact HB.out))) : w.heap.size ≤ gb140)); have n3_ := Aside0.mk ((by rw [hg]; exact (below_size (by repeat (first | (with_reducible first | exact HB.out | apply below_alloc | apply pw_below_drewN | apply below_drew1) | exact HB.out))) : w.heap.size ≤ gb140)); clear HB; have HB := n0_; have BK140 := n1_; have GW140 := n2_; have GE140 := n3_; clear n0_ n1_ n2_ n3_; clear hb hbox hg))
  (try simp only [Act.put, List.setIfInBounds_toArray, List.set_cons_zero, List.set_cons_succ])
  go_cut [3] (fun v3 wc => ∃ (kq : Nat) (x3_1 : Bool), v3 = .bool x3_1 ∧ Aside0 (vesperref07_Mode.j0 kq x3_1 a0_0 a0_1 a0_2 a0_3 a0_4 a0_5 a0_6 a0_7 a0_8 a0_9 = some r) ∧ Aside0 (kq ≤ k) ∧ Aside0 (wc.heap[gb140]? = some (.cells #[.int .i64 a0_0, .int .u16 a0_1, .bool a0_2, .bool a0_3, .bool a0_4, .bool a0_5, .bool a0_6, .bool a0_7, .bool a0_8, .int .u8 a0_9] 34 (0, 0))) ∧ Aside0 (Below w.heap.size w wc))
  case first =>
    have H := HC2.out
    clear HC2
    by_cases c4 : a0_7 = true
    · subst c4
      have H1 : (vesperref07_Mode.j0 k a0_8 a0_0 a0_1 a0_2 a0_3 a0_4 a0_5 a0_6 true a0_8 a0_9) = some r := by rw [if_pos rfl] at H; exact H
      clear H
      have H := H1
      clear H1
      have H' := Aside0.mk H
      clear H
      have hcz5_0 : w3.cell? ⟨gb140, 0, none⟩ = some (.int .i64 a0_0) := (blk_cell BK140.out 0).trans rfl
      have hcz5_1 : w3.cell? ⟨gb140, 1, none⟩ = some (.int .u16 a0_1) := (blk_cell BK140.out 1).trans rfl
      have hcz5_2 : w3.cell? ⟨gb140, 2, none⟩ = some (.bool a0_2) := (blk_cell BK140.out 2).trans rfl
      have hcz5_3 : w3.cell? ⟨gb140, 3, none⟩ = some (.bool a0_3) := (blk_cell BK140.out 3).trans rfl
      have hcz5_4 : w3.cell? ⟨gb140, 4, none⟩ = some (.bool a0_4) := (blk_cell BK140.out 4).trans rfl
      have hcz5_5 : w3.cell? ⟨gb140, 5, none⟩ = some (.bool a0_5) := (blk_cell BK140.out 5).trans rfl
      have hcz5_6 : w3.cell? ⟨gb140, 6, none⟩ = some (.bool a0_6) := (blk_cell BK140.out 6).trans rfl
      have hcz5_7 : w3.cell? ⟨gb140, 7, none⟩ = some (.bool true) := (blk_cell BK140.out 7).trans rfl
      have hcz5_8 : w3.cell? ⟨gb140, 8, none⟩ = some (.bool a0_8) := (blk_cell BK140.out 8).trans rfl
      have hcz5_9 : w3.cell? ⟨gb140, 9, none⟩ = some (.int .u8 a0_9) := (blk_cell BK140.out 9).trans rfl
      have hfz5_0 := blk_frozen BK140.out 0
      have hfz5_1 := blk_frozen BK140.out 1
      have hfz5_2 := blk_frozen BK140.out 2
      have hfz5_3 := blk_frozen BK140.out 3
      have hfz5_4 := blk_frozen BK140.out 4
      have hfz5_5 := blk_frozen BK140.out 5
      have hfz5_6 := blk_frozen BK140.out 6
      have hfz5_7 := blk_frozen BK140.out 7
      have hfz5_8 := blk_frozen BK140.out 8
      have hfz5_9 := blk_frozen BK140.out 9
      go_wp2
      go_meet
      case rel => exact ⟨_, (a0_8), (by first | rfl | (simp; done) | (simp [*]; done)), H', ⟨by first | omega | exact Nat.le_refl _⟩, ⟨by (with_reducible repeat (first | refine blk_drewN ?_ _ | refine blk_drew ?_ | refine blk_alloc ?_ _)); exact BK140.out⟩, ⟨by repeat (first | (with_reducible first | exact HB.out | apply below_alloc | apply pw_below_drewN | apply below_drew1 | refine below_set ?_ GE140.out) | exact HB.out)⟩⟩
    · replace c4 := Bool.eq_false_iff.mpr c4
      subst c4
      have H1 : (vesperref07_Mode.j0 k false a0_0 a0_1 a0_2 a0_3 a0_4 a0_5 a0_6 false a0_8 a0_9) = some r := by rw [if_neg (show ¬ (false = true) by decide)] at H; exact H
      clear H
      have H := H1
      clear H1
      have H' := Aside0.mk H
      clear H
      have hcz6_0 : w3.cell? ⟨gb140, 0, none⟩ = some (.int .i64 a0_0) := (blk_cell BK140.out 0).trans rfl
      have hcz6_1 : w3.cell? ⟨gb140, 1, none⟩ = some (.int .u16 a0_1) := (blk_cell BK140.out 1).trans rfl
      have hcz6_2 : w3.cell? ⟨gb140, 2, none⟩ = some (.bool a0_2) := (blk_cell BK140.out 2).trans rfl
      have hcz6_3 : w3.cell? ⟨gb140, 3, none⟩ = some (.bool a0_3) := (blk_cell BK140.out 3).trans rfl
      have hcz6_4 : w3.cell? ⟨gb140, 4, none⟩ = some (.bool a0_4) := (blk_cell BK140.out 4).trans rfl
      have hcz6_5 : w3.cell? ⟨gb140, 5, none⟩ = some (.bool a0_5) := (blk_cell BK140.out 5).trans rfl
      have hcz6_6 : w3.cell? ⟨gb140, 6, none⟩ = some (.bool a0_6) := (blk_cell BK140.out 6).trans rfl
      have hcz6_7 : w3.cell? ⟨gb140, 7, none⟩ = some (.bool false) := (blk_cell BK140.out 7).trans rfl
      have hcz6_8 : w3.cell? ⟨gb140, 8, none⟩ = some (.bool a0_8) := (blk_cell BK140.out 8).trans rfl
      have hcz6_9 : w3.cell? ⟨gb140, 9, none⟩ = some (.int .u8 a0_9) := (blk_cell BK140.out 9).trans rfl
      have hfz6_0 := blk_frozen BK140.out 0
      have hfz6_1 := blk_frozen BK140.out 1
      have hfz6_2 := blk_frozen BK140.out 2
      have hfz6_3 := blk_frozen BK140.out 3
      have hfz6_4 := blk_frozen BK140.out 4
      have hfz6_5 := blk_frozen BK140.out 5
      have hfz6_6 := blk_frozen BK140.out 6
      have hfz6_7 := blk_frozen BK140.out 7
      have hfz6_8 := blk_frozen BK140.out 8
      have hfz6_9 := blk_frozen BK140.out 9
      go_wp2
      go_meet
      case rel => exact ⟨_, (false), (by first | rfl | (simp; done) | (simp [*]; done)), H', ⟨by first | omega | exact Nat.le_refl _⟩, ⟨by (with_reducible repeat (first | refine blk_drewN ?_ _ | refine blk_drew ?_ | refine blk_alloc ?_ _)); exact BK140.out⟩, ⟨by repeat (first | (with_reducible first | exact HB.out | apply below_alloc | apply pw_below_drewN | apply below_drew1 | refine below_set ?_ GE140.out) | exact HB.out)⟩⟩
  case rest =>
    clear HC2
    try clear c2
    try clear p2
    try clear c4
    try clear hcz5_0
    try clear hcz5_1
    try clear hcz5_2
    try clear hcz5_3
    try clear hcz5_4
    try clear hcz5_5
    try clear hcz5_6
    try clear hcz5_7
    try clear hcz5_8
    try clear hcz5_9
    try clear hcz6_0
    try clear hcz6_1
    try clear hcz6_2
    try clear hcz6_3
    try clear hcz6_4
    try clear hcz6_5
    try clear hcz6_6
    try clear hcz6_7
    try clear hcz6_8
    try clear hcz6_9
    try clear hfz5_0
    try clear hfz5_1
    try clear hfz5_2
    try clear hfz5_3
    try clear hfz5_4
    try clear hfz5_5
    try clear hfz5_6
    try clear hfz5_7
    try clear hfz5_8
    try clear hfz5_9
    try clear hfz6_0
    try clear hfz6_1
    try clear hfz6_2
    try clear hfz6_3
    try clear hfz6_4
    try clear hfz6_5
    try clear hfz6_6
    try clear hfz6_7
    try clear hfz6_8
    try clear hfz6_9
    obtain ⟨kq, x3_1, rfl, HA, HJ1, BK140, HB⟩ := hcut
    cases kq with
    | zero => exact absurd HA.out (by simp [vesperref07_Mode.j0])
    | succ kj1 =>
      have H := HA.out
      clear HA
      simp only [vesperref07_Mode.j0] at H
      by_cases c7 : x3_1 = true
      · subst c7
        have H1 : (some 3) = some r := by rw [if_pos rfl] at H; exact H
        clear H
        have H := H1
        clear H1
        obtain rfl := Option.some.inj H
        go_wp2
        go_ret
        exact ⟨by first | rfl | (simp [errW_none, errW_some] <;> rfl) | (simp [*, errW_none, errW_some] <;> rfl), by repeat (first | (with_reducible first | exact HB.out | apply below_alloc | apply pw_below_drewN | apply below_drew1 | refine below_set ?_ GE140.out) | exact HB.out)⟩
      · replace c7 := Bool.eq_false_iff.mpr c7
        subst c7
        have H1 : (if a0_7 = true then (some 2) else (if a0_8 = true then (some 1) else (some 0))) = some r := by rw [if_neg (show ¬ (false = true) by decide)] at H; exact H
        clear H
        have H := H1
        clear H1
        by_cases c8 : a0_7 = true
        · subst c8
          have H1 : (some 2) = some r := by rw [if_pos rfl] at H; exact H
          clear H
          have H := H1
          clear H1
          obtain rfl := Option.some.inj H
          have hcz9_0 : wc.cell? ⟨gb140, 0, none⟩ = some (.int .i64 a0_0) := (blk_cell BK140.out 0).trans rfl
          have hcz9_1 : wc.cell? ⟨gb140, 1, none⟩ = some (.int .u16 a0_1) := (blk_cell BK140.out 1).trans rfl
          have hcz9_2 : wc.cell? ⟨gb140, 2, none⟩ = some (.bool a0_2) := (blk_cell BK140.out 2).trans rfl
          have hcz9_3 : wc.cell? ⟨gb140, 3, none⟩ = some (.bool a0_3) := (blk_cell BK140.out 3).trans rfl
          have hcz9_4 : wc.cell? ⟨gb140, 4, none⟩ = some (.bool a0_4) := (blk_cell BK140.out 4).trans rfl
          have hcz9_5 : wc.cell? ⟨gb140, 5, none⟩ = some (.bool a0_5) := (blk_cell BK140.out 5).trans rfl
          have hcz9_6 : wc.cell? ⟨gb140, 6, none⟩ = some (.bool a0_6) := (blk_cell BK140.out 6).trans rfl
          have hcz9_7 : wc.cell? ⟨gb140, 7, none⟩ = some (.bool true) := (blk_cell BK140.out 7).trans rfl
          have hcz9_8 : wc.cell? ⟨gb140, 8, none⟩ = some (.bool a0_8) := (blk_cell BK140.out 8).trans rfl
          have hcz9_9 : wc.cell? ⟨gb140, 9, none⟩ = some (.int .u8 a0_9) := (blk_cell BK140.out 9).trans rfl
          have hfz9_0 := blk_frozen BK140.out 0
          have hfz9_1 := blk_frozen BK140.out 1
          have hfz9_2 := blk_frozen BK140.out 2
          have hfz9_3 := blk_frozen BK140.out 3
          have hfz9_4 := blk_frozen BK140.out 4
          have hfz9_5 := blk_frozen BK140.out 5
          have hfz9_6 := blk_frozen BK140.out 6
          have hfz9_7 := blk_frozen BK140.out 7
          have hfz9_8 := blk_frozen BK140.out 8
          have hfz9_9 := blk_frozen BK140.out 9
          go_wp2
          go_ret
          exact ⟨by first | rfl | (simp [errW_none, errW_some] <;> rfl) | (simp [*, errW_none, errW_some] <;> rfl), by repeat (first | (with_reducible first | exact HB.out | apply below_alloc | apply pw_below_drewN | apply below_drew1 | refine below_set ?_ GE140.out) | exact HB.out)⟩
        · replace c8 := Bool.eq_false_iff.mpr c8
          subst c8
          have H1 : (if a0_8 = true then (some 1) else (some 0)) = some r := by rw [if_neg (show ¬ (false = true) by decide)] at H; exact H
          clear H
          have H := H1
          clear H1
          by_cases c10 : a0_8 = true
          · subst c10
            have H1 : (some 1) = some r := by rw [if_pos rfl] at H; exact H
            clear H
            have H := H1
            clear H1
            obtain rfl := Option.some.inj H
            have hcz11_0 : wc.cell? ⟨gb140, 0, none⟩ = some (.int .i64 a0_0) := (blk_cell BK140.out 0).trans rfl
            have hcz11_1 : wc.cell? ⟨gb140, 1, none⟩ = some (.int .u16 a0_1) := (blk_cell BK140.out 1).trans rfl
            have hcz11_2 : wc.cell? ⟨gb140, 2, none⟩ = some (.bool a0_2) := (blk_cell BK140.out 2).trans rfl
            have hcz11_3 : wc.cell? ⟨gb140, 3, none⟩ = some (.bool a0_3) := (blk_cell BK140.out 3).trans rfl
            have hcz11_4 : wc.cell? ⟨gb140, 4, none⟩ = some (.bool a0_4) := (blk_cell BK140.out 4).trans rfl
            have hcz11_5 : wc.cell? ⟨gb140, 5, none⟩ = some (.bool a0_5) := (blk_cell BK140.out 5).trans rfl
            have hcz11_6 : wc.cell? ⟨gb140, 6, none⟩ = some (.bool a0_6) := (blk_cell BK140.out 6).trans rfl
            have hcz11_7 : wc.cell? ⟨gb140, 7, none⟩ = some (.bool false) := (blk_cell BK140.out 7).trans rfl
            have hcz11_8 : wc.cell? ⟨gb140, 8, none⟩ = some (.bool true) := (blk_cell BK140.out 8).trans rfl
            have hcz11_9 : wc.cell? ⟨gb140, 9, none⟩ = some (.int .u8 a0_9) := (blk_cell BK140.out 9).trans rfl
            have hfz11_0 := blk_frozen BK140.out 0
            have hfz11_1 := blk_frozen BK140.out 1
            have hfz11_2 := blk_frozen BK140.out 2
            have hfz11_3 := blk_frozen BK140.out 3
            have hfz11_4 := blk_frozen BK140.out 4
            have hfz11_5 := blk_frozen BK140.out 5
            have hfz11_6 := blk_frozen BK140.out 6
            have hfz11_7 := blk_frozen BK140.out 7
            have hfz11_8 := blk_frozen BK140.out 8
            have hfz11_9 := blk_frozen BK140.out 9
            go_wp2
            go_ret
            exact ⟨by first | rfl | (simp [errW_none, errW_some] <;> rfl) | (simp [*, errW_none, errW_some] <;> rfl), by repeat (first | (with_reducible first | exact HB.out | apply below_alloc | apply pw_below_drewN | apply below_drew1 | refine below_set ?_ GE140.out) | exact HB.out)⟩
          · replace c10 := Bool.eq_false_iff.mpr c10
            subst c10
            have H1 : (some 0) = some r := by rw [if_neg (show ¬ (false = true) by decide)] at H; exact H
            clear H
            have H := H1
            clear H1
            obtain rfl := Option.some.inj H
            have hcz12_0 : wc.cell? ⟨gb140, 0, none⟩ = some (.int .i64 a0_0) := (blk_cell BK140.out 0).trans rfl
            have hcz12_1 : wc.cell? ⟨gb140, 1, none⟩ = some (.int .u16 a0_1) := (blk_cell BK140.out 1).trans rfl
            have hcz12_2 : wc.cell? ⟨gb140, 2, none⟩ = some (.bool a0_2) := (blk_cell BK140.out 2).trans rfl
            have hcz12_3 : wc.cell? ⟨gb140, 3, none⟩ = some (.bool a0_3) := (blk_cell BK140.out 3).trans rfl
            have hcz12_4 : wc.cell? ⟨gb140, 4, none⟩ = some (.bool a0_4) := (blk_cell BK140.out 4).trans rfl
            have hcz12_5 : wc.cell? ⟨gb140, 5, none⟩ = some (.bool a0_5) := (blk_cell BK140.out 5).trans rfl
            have hcz12_6 : wc.cell? ⟨gb140, 6, none⟩ = some (.bool a0_6) := (blk_cell BK140.out 6).trans rfl
            have hcz12_7 : wc.cell? ⟨gb140, 7, none⟩ = some (.bool false) := (blk_cell BK140.out 7).trans rfl
            have hcz12_8 : wc.cell? ⟨gb140, 8, none⟩ = some (.bool false) := (blk_cell BK140.out 8).trans rfl
            have hcz12_9 : wc.cell? ⟨gb140, 9, none⟩ = some (.int .u8 a0_9) := (blk_cell BK140.out 9).trans rfl
            have hfz12_0 := blk_frozen BK140.out 0
            have hfz12_1 := blk_frozen BK140.out 1
            have hfz12_2 := blk_frozen BK140.out 2
            have hfz12_3 := blk_frozen BK140.out 3
            have hfz12_4 := blk_frozen BK140.out 4
            have hfz12_5 := blk_frozen BK140.out 5
            have hfz12_6 := blk_frozen BK140.out 6
            have hfz12_7 := blk_frozen BK140.out 7
            have hfz12_8 := blk_frozen BK140.out 8
            have hfz12_9 := blk_frozen BK140.out 9
            go_wp2
            go_ret
            exact ⟨by first | rfl | (simp [errW_none, errW_some] <;> rfl) | (simp [*, errW_none, errW_some] <;> rfl), by repeat (first | (with_reducible first | exact HB.out | apply below_alloc | apply pw_below_drewN | apply below_drew1 | refine below_set ?_ GE140.out) | exact HB.out)⟩

-- NOT PRINTED: function 4 (vesperlaw07_ScriptChecks)

/-! ### vesperref01_digit: function 70 -/
def vesperref01_digit.f (a0 : Int) : Option (Int) := if a0 < 10 then (some ((wrap64 (48 + a0)) % 256)) else (some ((wrap64 ((wrap64 (97 + a0)) - 10)) % 256))
set_option maxHeartbeats 8000000 in
set_option maxRecDepth 100000 in
theorem vesperref01_digit.calls (a0 : Int) (r : Int) (w : World) (h : vesperref01_digit.f a0 = some r) :
    Calls Tryd.prog 70 #[.int .i64 a0] w fun e w' => e = .returned (.int .u8 r) ∧ Drawn0 w w' := by
  have H : (if a0 < 10 then (some ((wrap64 (48 + a0)) % 256)) else (some ((wrap64 ((wrap64 (97 + a0)) - 10)) % 256))) = some r := h
  clear h
  by_cases c2 : a0 < 10
  · rw [if_pos c2] at H
    have c2b0 : decide (a0 < 10) = true := decide_eq_true c2
    clear c2
    obtain rfl := Option.some.inj H
    go_enter Tryd.func70, Tryd.ntmps70
    go_wp2
    go_ret
    exact ⟨by first | rfl | (simp; done) | (simp [*]; done), by repeat (first | exact Drawn0.refl _ | apply Drawn0.step)⟩
  · rw [if_neg c2] at H
    have c2b0 : decide (a0 < 10) = false := decide_eq_false c2
    clear c2
    obtain rfl := Option.some.inj H
    go_enter Tryd.func70, Tryd.ntmps70
    go_wp2
    go_ret
    exact ⟨by first | rfl | (simp; done) | (simp [*]; done), by repeat (first | exact Drawn0.refl _ | apply Drawn0.step)⟩

end Go.Proofs.YtdjffafcmomalaaDoor.PScr
