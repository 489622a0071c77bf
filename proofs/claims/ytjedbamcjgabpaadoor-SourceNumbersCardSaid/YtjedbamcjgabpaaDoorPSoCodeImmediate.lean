/- Written by a program of this session (gprint.py, over the kit's printer): functions of the seat YtjedbamcjgabpaaDoor and their contracts. No condition but each contract's own. -/
import Derived.Test.YtjedbamcjgabpaaDoorPSox0
namespace Go.Proofs.YtjedbamcjgabpaaDoor.PSo
open Go.RowKit Go.Proofs.YtjedbamcjgabpaaDoorW.PrintWords Go.Proofs.YtjedbamcjgabpaaDoorW.PrintLast Go.Proofs.YtjedbamcjgabpaaDoorW.PrintMore
attribute [local go_sem] max2_int min2_int max_two min_two max_three min_three max_four min_four   -- for this text's walks alone
set_option linter.unusedVariables false
set_option linter.unusedSimpArgs false

-- given: code_name (a text of this session's own)

/-! ### code_immediate: function 94 -/
def code_immediate.f (a0 : Int) : Option (Bool) := if (a0 / 16) = 7 then (if (Go.bits .and .u8 a0 15) ≥ 12 then (if (Go.bits .and .u8 a0 15) = 14 then (if (a0 / 16) = 15 then (if (Go.bits .and .u8 a0 15) ≥ 8 then (some ((Go.bits .and .u8 a0 15) != 14)) else (some false)) else (some false)) else (some true)) else (if (a0 / 16) = 15 then (if (Go.bits .and .u8 a0 15) ≥ 8 then (some ((Go.bits .and .u8 a0 15) != 14)) else (some false)) else (some false))) else (if (a0 / 16) = 15 then (if (Go.bits .and .u8 a0 15) ≥ 8 then (some ((Go.bits .and .u8 a0 15) != 14)) else (some false)) else (some false))
set_option maxHeartbeats 8000000 in
set_option maxRecDepth 100000 in
theorem code_immediate.calls (a0 : Int) (r : Bool) (w : World) (h : code_immediate.f a0 = some r) :
    Calls Tryd.prog 94 #[.int .u8 a0] w fun e w' => e = .returned (.bool r) ∧ Drawn0 w w' := by
  have H : (if (a0 / 16) = 7 then (if (Go.bits .and .u8 a0 15) ≥ 12 then (if (Go.bits .and .u8 a0 15) = 14 then (if (a0 / 16) = 15 then (if (Go.bits .and .u8 a0 15) ≥ 8 then (some ((Go.bits .and .u8 a0 15) != 14)) else (some false)) else (some false)) else (some true)) else (if (a0 / 16) = 15 then (if (Go.bits .and .u8 a0 15) ≥ 8 then (some ((Go.bits .and .u8 a0 15) != 14)) else (some false)) else (some false))) else (if (a0 / 16) = 15 then (if (Go.bits .and .u8 a0 15) ≥ 8 then (some ((Go.bits .and .u8 a0 15) != 14)) else (some false)) else (some false))) = some r := h
  clear h
  by_cases c2 : (a0 / 16) = 7
  · rw [if_pos c2] at H
    have c2b0 : ((a0 / 16) == 7) = true := beq_iff_eq.mpr c2
    have c2b1 : ((a0 / 16) != 7) = false := bne_eq_false_iff_eq.mpr c2
    clear c2
    by_cases c3 : (Go.bits .and .u8 a0 15) ≥ 12
    · rw [if_pos c3] at H
      have c3b0 : decide (12 ≤ (Go.bits .and .u8 a0 15)) = true := decide_eq_true c3
      clear c3
      by_cases c4 : (Go.bits .and .u8 a0 15) = 14
      · rw [if_pos c4] at H
        have c4b0 : ((Go.bits .and .u8 a0 15) == 14) = true := beq_iff_eq.mpr c4
        have c4b1 : ((Go.bits .and .u8 a0 15) != 14) = false := bne_eq_false_iff_eq.mpr c4
        clear c4
        by_cases c5 : (a0 / 16) = 15
        · rw [if_pos c5] at H
          have c5b0 : ((a0 / 16) == 15) = true := beq_iff_eq.mpr c5
          have c5b1 : ((a0 / 16) != 15) = false := bne_eq_false_iff_eq.mpr c5
          clear c5
          by_cases c6 : (Go.bits .and .u8 a0 15) ≥ 8
          · rw [if_pos c6] at H
            have c6b0 : decide (8 ≤ (Go.bits .and .u8 a0 15)) = true := decide_eq_true c6
            clear c6
            obtain rfl := Option.some.inj H
            go_enter Tryd.func94, Tryd.ntmps94
            go_wp2
            go_ret
            exact ⟨by first | rfl | (simp; done) | (simp [*]; done), by repeat (first | exact Drawn0.refl _ | apply Drawn0.step)⟩
          · rw [if_neg c6] at H
            have c6b0 : decide (8 ≤ (Go.bits .and .u8 a0 15)) = false := decide_eq_false c6
            clear c6
            obtain rfl := Option.some.inj H
            go_enter Tryd.func94, Tryd.ntmps94
            go_wp2
            go_ret
            exact ⟨by first | rfl | (simp; done) | (simp [*]; done), by repeat (first | exact Drawn0.refl _ | apply Drawn0.step)⟩
        · rw [if_neg c5] at H
          have c5b0 : ((a0 / 16) == 15) = false := beq_eq_false_iff_ne.mpr c5
          have c5b1 : ((a0 / 16) != 15) = true := bne_iff_ne.mpr c5
          obtain rfl := Option.some.inj H
          go_enter Tryd.func94, Tryd.ntmps94
          go_wp2
          go_ret
          exact ⟨by first | rfl | (simp; done) | (simp [*]; done), by repeat (first | exact Drawn0.refl _ | apply Drawn0.step)⟩
      · rw [if_neg c4] at H
        have c4b0 : ((Go.bits .and .u8 a0 15) == 14) = false := beq_eq_false_iff_ne.mpr c4
        have c4b1 : ((Go.bits .and .u8 a0 15) != 14) = true := bne_iff_ne.mpr c4
        obtain rfl := Option.some.inj H
        go_enter Tryd.func94, Tryd.ntmps94
        go_wp2
        go_ret
        exact ⟨by first | rfl | (simp; done) | (simp [*]; done), by repeat (first | exact Drawn0.refl _ | apply Drawn0.step)⟩
    · rw [if_neg c3] at H
      have c3b0 : decide (12 ≤ (Go.bits .and .u8 a0 15)) = false := decide_eq_false c3
      clear c3
      by_cases c7 : (a0 / 16) = 15
      · rw [if_pos c7] at H
        have c7b0 : ((a0 / 16) == 15) = true := beq_iff_eq.mpr c7
        have c7b1 : ((a0 / 16) != 15) = false := bne_eq_false_iff_eq.mpr c7
        clear c7
        by_cases c8 : (Go.bits .and .u8 a0 15) ≥ 8
        · rw [if_pos c8] at H
          have c8b0 : decide (8 ≤ (Go.bits .and .u8 a0 15)) = true := decide_eq_true c8
          clear c8
          obtain rfl := Option.some.inj H
          go_enter Tryd.func94, Tryd.ntmps94
          go_wp2
          go_ret
          exact ⟨by first | rfl | (simp; done) | (simp [*]; done), by repeat (first | exact Drawn0.refl _ | apply Drawn0.step)⟩
        · rw [if_neg c8] at H
          have c8b0 : decide (8 ≤ (Go.bits .and .u8 a0 15)) = false := decide_eq_false c8
          clear c8
          obtain rfl := Option.some.inj H
          go_enter Tryd.func94, Tryd.ntmps94
          go_wp2
          go_ret
          exact ⟨by first | rfl | (simp; done) | (simp [*]; done), by repeat (first | exact Drawn0.refl _ | apply Drawn0.step)⟩
      · rw [if_neg c7] at H
        have c7b0 : ((a0 / 16) == 15) = false := beq_eq_false_iff_ne.mpr c7
        have c7b1 : ((a0 / 16) != 15) = true := bne_iff_ne.mpr c7
        obtain rfl := Option.some.inj H
        go_enter Tryd.func94, Tryd.ntmps94
        go_wp2
        go_ret
        exact ⟨by first | rfl | (simp; done) | (simp [*]; done), by repeat (first | exact Drawn0.refl _ | apply Drawn0.step)⟩
  · rw [if_neg c2] at H
    have c2b0 : ((a0 / 16) == 7) = false := beq_eq_false_iff_ne.mpr c2
    have c2b1 : ((a0 / 16) != 7) = true := bne_iff_ne.mpr c2
    by_cases c9 : (a0 / 16) = 15
    · rw [if_pos c9] at H
      have c9b0 : ((a0 / 16) == 15) = true := beq_iff_eq.mpr c9
      have c9b1 : ((a0 / 16) != 15) = false := bne_eq_false_iff_eq.mpr c9
      clear c9
      by_cases c10 : (Go.bits .and .u8 a0 15) ≥ 8
      · rw [if_pos c10] at H
        have c10b0 : decide (8 ≤ (Go.bits .and .u8 a0 15)) = true := decide_eq_true c10
        clear c10
        obtain rfl := Option.some.inj H
        go_enter Tryd.func94, Tryd.ntmps94
        go_wp2
        go_ret
        exact ⟨by first | rfl | (simp; done) | (simp [*]; done), by repeat (first | exact Drawn0.refl _ | apply Drawn0.step)⟩
      · rw [if_neg c10] at H
        have c10b0 : decide (8 ≤ (Go.bits .and .u8 a0 15)) = false := decide_eq_false c10
        clear c10
        obtain rfl := Option.some.inj H
        go_enter Tryd.func94, Tryd.ntmps94
        go_wp2
        go_ret
        exact ⟨by first | rfl | (simp; done) | (simp [*]; done), by repeat (first | exact Drawn0.refl _ | apply Drawn0.step)⟩
    · rw [if_neg c9] at H
      have c9b0 : ((a0 / 16) == 15) = false := beq_eq_false_iff_ne.mpr c9
      have c9b1 : ((a0 / 16) != 15) = true := bne_iff_ne.mpr c9
      obtain rfl := Option.some.inj H
      go_enter Tryd.func94, Tryd.ntmps94
      go_wp2
      go_ret
      exact ⟨by first | rfl | (simp; done) | (simp [*]; done), by repeat (first | exact Drawn0.refl _ | apply Drawn0.step)⟩
end Go.Proofs.YtjedbamcjgabpaaDoor.PSo
