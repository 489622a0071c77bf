/- Written by a program of this session (gprint.py, over the kit's printer): functions of the seat YtjedbamcjgabpaaDoor and their contracts. No condition but each contract's own. -/
import Derived.Test.YtjedbamcjgabpaaDoorPSox0
namespace Go.Proofs.YtjedbamcjgabpaaDoor.PSo
open Go.RowKit Go.Proofs.YtjedbamcjgabpaaDoorW.PrintWords Go.Proofs.YtjedbamcjgabpaaDoorW.PrintLast Go.Proofs.YtjedbamcjgabpaaDoorW.PrintMore
attribute [local go_sem] max2_int min2_int max_two min_two max_three min_three max_four min_four   -- for this text's walks alone
set_option linter.unusedVariables false
set_option linter.unusedSimpArgs false

-- given: code_name (a text of this session's own)

/-! ### bits_High: function 76 -/
def bits_High.f (a0 : Int) : Option (Int) := some ((a0 / 256) % 256)
set_option maxHeartbeats 8000000 in
set_option maxRecDepth 100000 in
theorem bits_High.calls (a0 : Int) (r : Int) (w : World) (h : bits_High.f a0 = some r) :
 Calls Tryd.prog 76 #[.int .u16 a0] w fun e w' => e = .returned (.int .u8 r) ∧ Drawn0 w w' := by
 have H : (some ((a0 / 256) % 256)) = some r := h
 clear h
 obtain rfl := Option.some.inj H
 go_enter Tryd.func76, Tryd.ntmps76
 go_wp2
 go_ret
 exact ⟨by first | rfl | (simp; done) | (simp [*]; done), by repeat (first | exact Drawn0.refl _ | apply Drawn0.step)⟩
end Go.Proofs.YtjedbamcjgabpaaDoor.PSo
/- Written by a program of this session (gprint.py, over the kit's printer): functions of the seat YtjedbamcjgabpaaDoor and their contracts. No condition but each contract's own. -/
namespace Go.Proofs.YtjedbamcjgabpaaDoor.PSo
open Go.RowKit Go.Proofs.YtjedbamcjgabpaaDoorW.PrintWords Go.Proofs.YtjedbamcjgabpaaDoorW.PrintLast Go.Proofs.YtjedbamcjgabpaaDoorW.PrintMore
attribute [local go_sem] max2_int min2_int max_two min_two max_three min_three max_four min_four   -- for this text's walks alone
set_option linter.unusedVariables false
set_option linter.unusedSimpArgs false

-- given: code_name (a text of this session's own)

/-! ### bits_Low: function 77 -/
def bits_Low.f (a0 : Int) : Option (Int) := some ((a0) % 256)
set_option maxHeartbeats 8000000 in
set_option maxRecDepth 100000 in
theorem bits_Low.calls (a0 : Int) (r : Int) (w : World) (h : bits_Low.f a0 = some r) :
 Calls Tryd.prog 77 #[.int .u16 a0] w fun e w' => e = .returned (.int .u8 r) ∧ Drawn0 w w' := by
 have H : (some ((a0) % 256)) = some r := h
 clear h
 obtain rfl := Option.some.inj H
 go_enter Tryd.func77, Tryd.ntmps77
 go_wp2
 go_ret
 exact ⟨by first | rfl | (simp; done) | (simp [*]; done), by repeat (first | exact Drawn0.refl _ | apply Drawn0.step)⟩
end Go.Proofs.YtjedbamcjgabpaaDoor.PSo
/- Written by a program of this session (gprint.py, over the kit's printer): functions of the seat YtjedbamcjgabpaaDoor and their contracts. No condition but each contract's own. -/
namespace Go.Proofs.YtjedbamcjgabpaaDoor.PSo
open Go.RowKit Go.Proofs.YtjedbamcjgabpaaDoorW.PrintWords Go.Proofs.YtjedbamcjgabpaaDoorW.PrintLast Go.Proofs.YtjedbamcjgabpaaDoorW.PrintMore
attribute [local go_sem] max2_int min2_int max_two min_two max_three min_three max_four min_four   -- for this text's walks alone
set_option linter.unusedVariables false
set_option linter.unusedSimpArgs false

-- given: code_name (a text of this session's own)

/-! ### code_immediate: function 94 -/
def code_immediate.f (a0 : Int) : Option (Bool) := if (a0 / 16) = 7 then (if (Go.bits .and .u8 a0 15) ≥ 12 then (if (Go.bits .and .u8 a0 15) = 14 then (if (a0 / 16) = 15 then (if (Go.bits .and .u8 a0 15) ≥ 8 then (some ((Go.bits .and .u8 a0 15) != 14)) else (some false)) else (some false)) else (some true)) else (if (a0 / 16) = 15 then (if (Go.bits .and .u8 a0 15) ≥ 8 then (some ((Go.bits .and .u8 a0 15) != 14)) else (some false)) else (some false))) else (if (a0 / 16) = 15 then (if (Go.bits .and .u8 a0 15) ≥ 8 then (some ((Go.bits .and .u8 a0 15) != 14)) else (some false)) else (some false))
set_option maxHeartbeats 8000000 in
set_option maxRecDepth 100000 in
theorem code_immediate.calls (a0 : Int) (r : Bool) (w : World) (h : code_immediate.f a0 = some r) :
 Calls Tryd.prog 94 #[.int .u8 a0] w fun e w' => e = .returned (.bool r) ∧ Drawn0 w w' := by
 have H : (if (a0 / 16) = 7 then (if (Go.bits .and .u8 a0 15) ≥ 12 then (if (Go.bits .and .u8 a0 15) = 14 then (if (a0 / 16) = 15 then (if (Go.bits .and .u8 a0 15) ≥ 8 then (some ((Go.bits .and .u8 a0 15) != 14)) else (some false)) else (some false)) else (some true)) else (if (a0 / 16) = 15 then (if (Go.bits .and .u8 a0 15) ≥ 8 then (some ((Go.bits .and .u8 a0 15) != 14)) else (some false)) else (some false))) else (if (a0 / 16) = 15 then (if (Go.bits .and .u8 a0 15) ≥ 8 then (some ((Go.bits .and .u8 a0 15) != 14)) else (some false)) else (some false))) = some r := h
 clear h
 by_cases c2 : (a0 / 16) = 7
 ·rw [if_pos c2] at H
  have c2b0 : ((a0 / 16) == 7) = true := beq_iff_eq.mpr c2
  have c2b1 : ((a0 / 16) != 7) = false := bne_eq_false_iff_eq.mpr c2
  clear c2
  by_cases c3 : (Go.bits .and .u8 a0 15) ≥ 12
  ·rw [if_pos c3] at H
   have c3b0 : decide (12 ≤ (Go.bits .and .u8 a0 15)) = true := decide_eq_true c3
   clear c3
   by_cases c4 : (Go.bits .and .u8 a0 15) = 14
   ·rw [if_pos c4] at H
    have c4b0 : ((Go.bits .and .u8 a0 15) == 14) = true := beq_iff_eq.mpr c4
    have c4b1 : ((Go.bits .and .u8 a0 15) != 14) = false := bne_eq_false_iff_eq.mpr c4
    clear c4
    by_cases c5 : (a0 / 16) = 15
    ·rw [if_pos c5] at H
     have c5b0 : ((a0 / 16) == 15) = true := beq_iff_eq.mpr c5
     have c5b1 : ((a0 / 16) != 15) = false := bne_eq_false_iff_eq.mpr c5
     clear c5
     by_cases c6 : (Go.bits .and .u8 a0 15) ≥ 8
     ·rw [if_pos c6] at H
      have c6b0 : decide (8 ≤ (Go.bits .and .u8 a0 15)) = true := decide_eq_true c6
      clear c6
      obtain rfl := Option.some.inj H
      go_enter Tryd.func94, Tryd.ntmps94
      go_wp2
      go_ret
      exact ⟨by first | rfl | (simp; done) | (simp [*]; done), by repeat (first | exact Drawn0.refl _ | apply Drawn0.step)⟩
     ·rw [if_neg c6] at H
      have c6b0 : decide (8 ≤ (Go.bits .and .u8 a0 15)) = false := decide_eq_false c6
      clear c6
      obtain rfl := Option.some.inj H
      go_enter Tryd.func94, Tryd.ntmps94
      go_wp2
      go_ret
      exact ⟨by first | rfl | (simp; done) | (simp [*]; done), by repeat (first | exact Drawn0.refl _ | apply Drawn0.step)⟩
    ·rw [if_neg c5] at H
     have c5b0 : ((a0 / 16) == 15) = false := beq_eq_false_iff_ne.mpr c5
     have c5b1 : ((a0 / 16) != 15) = true := bne_iff_ne.mpr c5
     obtain rfl := Option.some.inj H
     go_enter Tryd.func94, Tryd.ntmps94
     go_wp2
     go_ret
     exact ⟨by first | rfl | (simp; done) | (simp [*]; done), by repeat (first | exact Drawn0.refl _ | apply Drawn0.step)⟩
   ·rw [if_neg c4] at H
    have c4b0 : ((Go.bits .and .u8 a0 15) == 14) = false := beq_eq_false_iff_ne.mpr c4
    have c4b1 : ((Go.bits .and .u8 a0 15) != 14) = true := bne_iff_ne.mpr c4
    obtain rfl := Option.some.inj H
    go_enter Tryd.func94, Tryd.ntmps94
    go_wp2
    go_ret
    exact ⟨by first | rfl | (simp; done) | (simp [*]; done), by repeat (first | exact Drawn0.refl _ | apply Drawn0.step)⟩
  ·rw [if_neg c3] at H
   have c3b0 : decide (12 ≤ (Go.bits .and .u8 a0 15)) = false := decide_eq_false c3
   clear c3
   by_cases c7 : (a0 / 16) = 15
   ·rw [if_pos c7] at H
    have c7b0 : ((a0 / 16) == 15) = true := beq_iff_eq.mpr c7
    have c7b1 : ((a0 / 16) != 15) = false := bne_eq_false_iff_eq.mpr c7
    clear c7
    by_cases c8 : (Go.bits .and .u8 a0 15) ≥ 8
    ·rw [if_pos c8] at H
     have c8b0 : decide (8 ≤ (Go.bits .and .u8 a0 15)) = true := decide_eq_true c8
     clear c8
     obtain rfl := Option.some.inj H
     go_enter Tryd.func94, Tryd.ntmps94
     go_wp2
     go_ret
     exact ⟨by first | rfl | (simp; done) | (simp [*]; done), by repeat (first | exact Drawn0.refl _ | apply Drawn0.step)⟩
    ·rw [if_neg c8] at H
     have c8b0 : decide (8 ≤ (Go.bits .and .u8 a0 15)) = false := decide_eq_false c8
     clear c8
     obtain rfl := Option.some.inj H
     go_enter Tryd.func94, Tryd.ntmps94
     go_wp2
     go_ret
     exact ⟨by first | rfl | (simp; done) | (simp [*]; done), by repeat (first | exact Drawn0.refl _ | apply Drawn0.step)⟩
   ·rw [if_neg c7] at H
    have c7b0 : ((a0 / 16) == 15) = false := beq_eq_false_iff_ne.mpr c7
    have c7b1 : ((a0 / 16) != 15) = true := bne_iff_ne.mpr c7
    obtain rfl := Option.some.inj H
    go_enter Tryd.func94, Tryd.ntmps94
    go_wp2
    go_ret
    exact ⟨by first | rfl | (simp; done) | (simp [*]; done), by repeat (first | exact Drawn0.refl _ | apply Drawn0.step)⟩
 ·rw [if_neg c2] at H
  have c2b0 : ((a0 / 16) == 7) = false := beq_eq_false_iff_ne.mpr c2
  have c2b1 : ((a0 / 16) != 7) = true := bne_iff_ne.mpr c2
  by_cases c9 : (a0 / 16) = 15
  ·rw [if_pos c9] at H
   have c9b0 : ((a0 / 16) == 15) = true := beq_iff_eq.mpr c9
   have c9b1 : ((a0 / 16) != 15) = false := bne_eq_false_iff_eq.mpr c9
   clear c9
   by_cases c10 : (Go.bits .and .u8 a0 15) ≥ 8
   ·rw [if_pos c10] at H
    have c10b0 : decide (8 ≤ (Go.bits .and .u8 a0 15)) = true := decide_eq_true c10
    clear c10
    obtain rfl := Option.some.inj H
    go_enter Tryd.func94, Tryd.ntmps94
    go_wp2
    go_ret
    exact ⟨by first | rfl | (simp; done) | (simp [*]; done), by repeat (first | exact Drawn0.refl _ | apply Drawn0.step)⟩
   ·rw [if_neg c10] at H
    have c10b0 : decide (8 ≤ (Go.bits .and .u8 a0 15)) = false := decide_eq_false c10
    clear c10
    obtain rfl := Option.some.inj H
    go_enter Tryd.func94, Tryd.ntmps94
    go_wp2
    go_ret
    exact ⟨by first | rfl | (simp; done) | (simp [*]; done), by repeat (first | exact Drawn0.refl _ | apply Drawn0.step)⟩
  ·rw [if_neg c9] at H
   have c9b0 : ((a0 / 16) == 15) = false := beq_eq_false_iff_ne.mpr c9
   have c9b1 : ((a0 / 16) != 15) = true := bne_iff_ne.mpr c9
   obtain rfl := Option.some.inj H
   go_enter Tryd.func94, Tryd.ntmps94
   go_wp2
   go_ret
   exact ⟨by first | rfl | (simp; done) | (simp [*]; done), by repeat (first | exact Drawn0.refl _ | apply Drawn0.step)⟩
end Go.Proofs.YtjedbamcjgabpaaDoor.PSo
/- Written by a program of this session (gprint.py, over the kit's printer): functions of the seat YtjedbamcjgabpaaDoor and their contracts. No condition but each contract's own. -/
namespace Go.Proofs.YtjedbamcjgabpaaDoor.PSo
open Go.RowKit Go.Proofs.YtjedbamcjgabpaaDoorW.PrintWords Go.Proofs.YtjedbamcjgabpaaDoorW.PrintLast Go.Proofs.YtjedbamcjgabpaaDoorW.PrintMore
attribute [local go_sem] max2_int min2_int max_two min_two max_three min_three max_four min_four   -- for this text's walks alone
set_option linter.unusedVariables false
set_option linter.unusedSimpArgs false

-- given: code_name (a text of this session's own)

/-! ### code_form: function 70 -/
mutual
def code_form.j0 : Nat → Int → Int → Int → Bool → Option (Int)
 | 0, _, _, _, _ => none
 | k + 1, x0, x3, x4, x12 => if x12 = true then (some 5) else (if x3 = 3 then (some 1) else (if x3 = 6 then (code_form.j1 k x0 x3 x4 ((Int.tmod x4 8) != 0)) else (code_form.j1 k x0 x3 x4 false)))
def code_form.j1 : Nat → Int → Int → Int → Bool → Option (Int)
 | 0, _, _, _, _ => none
 | k + 1, x0, x3, x4, x22 => if x22 = true then (some 3) else (if x3 = 6 then (some 1) else ((code_immediate.f x0).bind fun t102 => (if t102 = true then (some 4) else (if x3 = 7 then (code_form.j2 k x3 x4 (x3 == 7)) else (code_form.j2 k x3 x4 (x3 == 15))))))
def code_form.j2 : Nat → Int → Int → Bool → Option (Int)
 | 0, _, _, _ => none
 | k + 1, x3, x4, x36 => if x36 = true then (some 1) else (if x3 = 12 then (if x4 < 4 then (code_form.j3 k x3 true) else (if x4 > 8 then (code_form.j3 k x3 (decide (x4 < 12))) else (code_form.j3 k x3 false))) else (code_form.j3 k x3 false))
def code_form.j3 : Nat → Int → Bool → Option (Int)
 | 0, _, _ => none
 | k + 1, x3, x41 => if x41 = true then (some 6) else (if x3 = 12 then (some 1) else (some 2))
end
def code_form.f (k : Nat) (a0 : Int) : Option (Int) := if a0 = 0 then (some 1) else (if (a0 / 16) = 3 then (code_form.j0 k a0 (a0 / 16) (Go.bits .and .u8 a0 15) ((Go.bits .and .u8 a0 15) != 8)) else (code_form.j0 k a0 (a0 / 16) (Go.bits .and .u8 a0 15) false))
theorem code_form.mono_l : ∀ k, (∀ y0 y1 y2 y3, LeO (code_form.j0 k y0 y1 y2 y3) (code_form.j0 (k + 1) y0 y1 y2 y3)) ∧ (∀ y0 y1 y2 y3, LeO (code_form.j1 k y0 y1 y2 y3) (code_form.j1 (k + 1) y0 y1 y2 y3)) ∧ (∀ y0 y1 y2, LeO (code_form.j2 k y0 y1 y2) (code_form.j2 (k + 1) y0 y1 y2)) ∧ (∀ y0 y1, LeO (code_form.j3 k y0 y1) (code_form.j3 (k + 1) y0 y1))
 | 0 => ⟨fun _ _ _ _ r h => by simp [code_form.j0] at h, fun _ _ _ _ r h => by simp [code_form.j1] at h, fun _ _ _ r h => by simp [code_form.j2] at h, fun _ _ r h => by simp [code_form.j3] at h⟩
 | k + 1 => by
  obtain ⟨ih0, ih1, ih2, ih3⟩ := code_form.mono_l k
  refine ⟨?_, ?_, ?_, ?_⟩
  ·intro y0 y1 y2 y3
   unfold code_form.j0
   repeat' first
   | (with_reducible exact ih0 _ _ _ _)
   | (with_reducible exact ih1 _ _ _ _)
   | (with_reducible exact ih2 _ _ _)
   | (with_reducible exact ih3 _ _)
   | (with_reducible exact LeO.refl _)
   | (with_reducible exact LeO.none _)
   | (with_reducible refine LeO.ite ?_ ?_)
   | (with_reducible refine LeO.bind ?_ (fun _ => ?_))
   | exact ih0 _ _ _ _
   | exact ih1 _ _ _ _
   | exact ih2 _ _ _
   | exact ih3 _ _
   | exact LeO.none _
   | refine LeO.ite ?_ ?_
   | refine LeO.bind ?_ (fun _ => ?_)
  ·intro y0 y1 y2 y3
   unfold code_form.j1
   repeat' first
   | (with_reducible exact ih0 _ _ _ _)
   | (with_reducible exact ih1 _ _ _ _)
   | (with_reducible exact ih2 _ _ _)
   | (with_reducible exact ih3 _ _)
   | (with_reducible exact LeO.refl _)
   | (with_reducible exact LeO.none _)
   | (with_reducible refine LeO.ite ?_ ?_)
   | (with_reducible refine LeO.bind ?_ (fun _ => ?_))
   | exact ih0 _ _ _ _
   | exact ih1 _ _ _ _
   | exact ih2 _ _ _
   | exact ih3 _ _
   | exact LeO.none _
   | refine LeO.ite ?_ ?_
   | refine LeO.bind ?_ (fun _ => ?_)
  ·intro y0 y1 y2
   unfold code_form.j2
   repeat' first
   | (with_reducible exact ih0 _ _ _ _)
   | (with_reducible exact ih1 _ _ _ _)
   | (with_reducible exact ih2 _ _ _)
   | (with_reducible exact ih3 _ _)
   | (with_reducible exact LeO.refl _)
   | (with_reducible exact LeO.none _)
   | (with_reducible refine LeO.ite ?_ ?_)
   | (with_reducible refine LeO.bind ?_ (fun _ => ?_))
   | exact ih0 _ _ _ _
   | exact ih1 _ _ _ _
   | exact ih2 _ _ _
   | exact ih3 _ _
   | exact LeO.none _
   | refine LeO.ite ?_ ?_
   | refine LeO.bind ?_ (fun _ => ?_)
  ·intro y0 y1
   unfold code_form.j3
   repeat' first
   | (with_reducible exact ih0 _ _ _ _)
   | (with_reducible exact ih1 _ _ _ _)
   | (with_reducible exact ih2 _ _ _)
   | (with_reducible exact ih3 _ _)
   | (with_reducible exact LeO.refl _)
   | (with_reducible exact LeO.none _)
   | (with_reducible refine LeO.ite ?_ ?_)
   | (with_reducible refine LeO.bind ?_ (fun _ => ?_))
   | exact ih0 _ _ _ _
   | exact ih1 _ _ _ _
   | exact ih2 _ _ _
   | exact ih3 _ _
   | exact LeO.none _
   | refine LeO.ite ?_ ?_
   | refine LeO.bind ?_ (fun _ => ?_)
theorem code_form.mono : ∀ a0 k, LeO (code_form.f k a0) (code_form.f (k + 1) a0) := by
 intro a0 k
 obtain ⟨ih0, ih1, ih2, ih3⟩ := code_form.mono_l k
 unfold code_form.f
 repeat' first
  | (with_reducible exact ih0 _ _ _ _)
  | (with_reducible exact ih1 _ _ _ _)
  | (with_reducible exact ih2 _ _ _)
  | (with_reducible exact ih3 _ _)
  | (with_reducible exact LeO.refl _)
  | (with_reducible exact LeO.none _)
  | (with_reducible refine LeO.ite ?_ ?_)
  | (with_reducible refine LeO.bind ?_ (fun _ => ?_))
  | exact ih0 _ _ _ _
  | exact ih1 _ _ _ _
  | exact ih2 _ _ _
  | exact ih3 _ _
  | exact LeO.none _
  | refine LeO.ite ?_ ?_
  | refine LeO.bind ?_ (fun _ => ?_)
set_option maxHeartbeats 8000000 in
set_option maxRecDepth 100000 in
theorem code_form.calls (k : Nat) (a0 : Int) (r : Int) (w : World) (h : code_form.f k a0 = some r) :
 Calls Tryd.prog 70 #[.int .u8 a0] w fun e w' => e = .returned (.int .u8 r) ∧ Drawn0 w w' := by
 have H : (if a0 = 0 then (some 1) else (if (a0 / 16) = 3 then (code_form.j0 k a0 (a0 / 16) (Go.bits .and .u8 a0 15) ((Go.bits .and .u8 a0 15) != 8)) else (code_form.j0 k a0 (a0 / 16) (Go.bits .and .u8 a0 15) false))) = some r := h
 clear h
 by_cases c2 : a0 = 0
 ·rw [if_pos c2] at H
  have c2b0 : (a0 == 0) = true := beq_iff_eq.mpr c2
  have c2b1 : (a0 != 0) = false := bne_eq_false_iff_eq.mpr c2
  clear c2
  obtain rfl := Option.some.inj H
  go_enter Tryd.func70, Tryd.ntmps70
  go_wp2
  go_ret
  exact ⟨by first | rfl | (simp; done) | (simp [*]; done), by repeat (first | exact Drawn0.refl _ | apply Drawn0.step)⟩
 ·rw [if_neg c2] at H
  have c2b0 : (a0 == 0) = false := beq_eq_false_iff_ne.mpr c2
  have c2b1 : (a0 != 0) = true := bne_iff_ne.mpr c2
  have HC3 := Aside0.mk H
  clear H
  go_enter Tryd.func70, Tryd.ntmps70
  go_upto_region 4 with (fail)
  go_cut [12] (fun v12 wc => ∃ (kq : Nat) (x12_2 : Bool), v12 = .bool x12_2 ∧ Aside0 (code_form.j0 kq a0 (a0 / 16) (Go.bits .and .u8 a0 15) x12_2 = some r) ∧ Aside0 (kq ≤ k) ∧ Drawn0 w wc)
  case first =>
   have H := HC3.out
   clear HC3
   by_cases c4 : (a0 / 16) = 3
   ·rw [if_pos c4] at H
    have c4b0 : ((a0 / 16) == 3) = true := beq_iff_eq.mpr c4
    have c4b1 : ((a0 / 16) != 3) = false := bne_eq_false_iff_eq.mpr c4
    clear c4
    (first | rw [c4b0] | (simp only [i64_w, i32_w]; rw [c4b0]) | skip)
    have H' := Aside0.mk H
    clear H
    go_wp2
    go_meet
    case rel => exact ⟨_, (((Go.bits .and .u8 a0 15) != 8)), (by first | rfl | (simp; done) | (simp [*]; done)), H', ⟨by first | omega | exact Nat.le_refl _⟩, by repeat (first | exact Drawn0.refl _ | apply Drawn0.step)⟩
   ·rw [if_neg c4] at H
    have c4b0 : ((a0 / 16) == 3) = false := beq_eq_false_iff_ne.mpr c4
    have c4b1 : ((a0 / 16) != 3) = true := bne_iff_ne.mpr c4
    (first | rw [c4b0] | (simp only [i64_w, i32_w]; rw [c4b0]) | skip)
    have H' := Aside0.mk H
    clear H
    go_wp2
    go_meet
    case rel => exact ⟨_, (false), (by first | rfl | (simp; done) | (simp [*]; done)), H', ⟨by first | omega | exact Nat.le_refl _⟩, by repeat (first | exact Drawn0.refl _ | apply Drawn0.step)⟩
  case rest =>
   clear HC3
   try clear c2
   try clear c2b0
   try clear c2b1
   try clear p2
   try clear c4
   try clear c4b0
   try clear c4b1
   obtain ⟨kq, x12_2, rfl, HA, HJ2, ⟨mc2, rfl⟩⟩ := hcut
   cases kq with
   | zero => exact absurd HA.out (by simp [code_form.j0])
   | succ kj2 =>
    have H := HA.out
    clear HA
    simp only [code_form.j0] at H
    by_cases c5 : x12_2 = true
    ·subst c5
     have H1 : (some 5) = some r := by rw [if_pos rfl] at H; exact H
     clear H
     have H := H1
     clear H1
     obtain rfl := Option.some.inj H
     go_wp2
     go_ret
     exact ⟨by first | rfl | (simp; done) | (simp [*]; done), by repeat (first | exact Drawn0.refl _ | apply Drawn0.step)⟩
    ·replace c5 := Bool.eq_false_iff.mpr c5
     subst c5
     have H1 : (if (a0 / 16) = 3 then (some 1) else (if (a0 / 16) = 6 then (code_form.j1 kj2 a0 (a0 / 16) (Go.bits .and .u8 a0 15) ((Int.tmod (Go.bits .and .u8 a0 15) 8) != 0)) else (code_form.j1 kj2 a0 (a0 / 16) (Go.bits .and .u8 a0 15) false))) = some r := by rw [if_neg (show ¬ (false = true) by decide)] at H; exact H
     clear H
     have H := H1
     clear H1
     by_cases c6 : (a0 / 16) = 3
     ·rw [if_pos c6] at H
      have c6b0 : ((a0 / 16) == 3) = true := beq_iff_eq.mpr c6
      have c6b1 : ((a0 / 16) != 3) = false := bne_eq_false_iff_eq.mpr c6
      clear c6
      obtain rfl := Option.some.inj H
      go_wp2
      go_ret
      exact ⟨by first | rfl | (simp; done) | (simp [*]; done), by repeat (first | exact Drawn0.refl _ | apply Drawn0.step)⟩
     ·rw [if_neg c6] at H
      have c6b0 : ((a0 / 16) == 3) = false := beq_eq_false_iff_ne.mpr c6
      have c6b1 : ((a0 / 16) != 3) = true := bne_iff_ne.mpr c6
      have HC7 := Aside0.mk H
      clear H
      go_upto_region 8 with (fail)
      go_cut [22] (fun v22 wc => ∃ (kq : Nat) (x22_6 : Bool), v22 = .bool x22_6 ∧ Aside0 (code_form.j1 kq a0 (a0 / 16) (Go.bits .and .u8 a0 15) x22_6 = some r) ∧ Aside0 (kq ≤ kj2) ∧ Drawn0 w wc)
      case first =>
       have H := HC7.out
       clear HC7
       by_cases c8 : (a0 / 16) = 6
       ·rw [if_pos c8] at H
        have c8b0 : ((a0 / 16) == 6) = true := beq_iff_eq.mpr c8
        have c8b1 : ((a0 / 16) != 6) = false := bne_eq_false_iff_eq.mpr c8
        clear c8
        (first | rw [c8b0] | (simp only [i64_w, i32_w]; rw [c8b0]) | skip)
        have H' := Aside0.mk H
        clear H
        go_wp2
        go_meet
        case rel => exact ⟨_, (((Int.tmod (Go.bits .and .u8 a0 15) 8) != 0)), (by first | rfl | (simp; done) | (simp [*]; done)), H', ⟨by have := HJ2.out; first | omega | exact Nat.le_refl _⟩, by repeat (first | exact Drawn0.refl _ | apply Drawn0.step)⟩
       ·rw [if_neg c8] at H
        have c8b0 : ((a0 / 16) == 6) = false := beq_eq_false_iff_ne.mpr c8
        have c8b1 : ((a0 / 16) != 6) = true := bne_iff_ne.mpr c8
        (first | rw [c8b0] | (simp only [i64_w, i32_w]; rw [c8b0]) | skip)
        have H' := Aside0.mk H
        clear H
        go_wp2
        go_meet
        case rel => exact ⟨_, (false), (by first | rfl | (simp; done) | (simp [*]; done)), H', ⟨by have := HJ2.out; first | omega | exact Nat.le_refl _⟩, by repeat (first | exact Drawn0.refl _ | apply Drawn0.step)⟩
      case rest =>
       clear HC7
       try clear c2
       try clear c2b0
       try clear c2b1
       try clear p2
       try clear c4
       try clear c4b0
       try clear c4b1
       try clear c5
       try clear c6
       try clear c6b0
       try clear c6b1
       try clear c7
       try clear c8
       try clear c8b0
       try clear c8b1
       try clear p2
       obtain ⟨kq, x22_6, rfl, HA, HJ6, ⟨mc6, rfl⟩⟩ := hcut
       cases kq with
       | zero => exact absurd HA.out (by simp [code_form.j1])
       | succ kj6 =>
        have H := HA.out
        clear HA
        simp only [code_form.j1] at H
        by_cases c9 : x22_6 = true
        ·subst c9
         have H1 : (some 3) = some r := by rw [if_pos rfl] at H; exact H
         clear H
         have H := H1
         clear H1
         obtain rfl := Option.some.inj H
         go_wp2
         go_ret
         exact ⟨by first | rfl | (simp; done) | (simp [*]; done), by repeat (first | exact Drawn0.refl _ | apply Drawn0.step)⟩
        ·replace c9 := Bool.eq_false_iff.mpr c9
         subst c9
         have H1 : (if (a0 / 16) = 6 then (some 1) else ((code_immediate.f a0).bind fun t102 => (if t102 = true then (some 4) else (if (a0 / 16) = 7 then (code_form.j2 kj6 (a0 / 16) (Go.bits .and .u8 a0 15) ((a0 / 16) == 7)) else (code_form.j2 kj6 (a0 / 16) (Go.bits .and .u8 a0 15) ((a0 / 16) == 15)))))) = some r := by rw [if_neg (show ¬ (false = true) by decide)] at H; exact H
         clear H
         have H := H1
         clear H1
         by_cases c10 : (a0 / 16) = 6
         ·rw [if_pos c10] at H
          have c10b0 : ((a0 / 16) == 6) = true := beq_iff_eq.mpr c10
          have c10b1 : ((a0 / 16) != 6) = false := bne_eq_false_iff_eq.mpr c10
          clear c10
          obtain rfl := Option.some.inj H
          go_wp2
          go_ret
          exact ⟨by first | rfl | (simp; done) | (simp [*]; done), by repeat (first | exact Drawn0.refl _ | apply Drawn0.step)⟩
         ·rw [if_neg c10] at H
          have c10b0 : ((a0 / 16) == 6) = false := beq_eq_false_iff_ne.mpr c10
          have c10b1 : ((a0 / 16) != 6) = true := bne_iff_ne.mpr c10
          replace H := Option.bind_eq_some_iff.mp H
          obtain ⟨t102, A110, H⟩ := H
          replace H : (if t102 = true then (some 4) else (if (a0 / 16) = 7 then (code_form.j2 kj6 (a0 / 16) (Go.bits .and .u8 a0 15) ((a0 / 16) == 7)) else (code_form.j2 kj6 (a0 / 16) (Go.bits .and .u8 a0 15) ((a0 / 16) == 15)))) = some r := H
          have A11 := Aside0.mk A110
          clear A110
          by_cases c12 : t102 = true
          ·subst c12
           have H1 : (some 4) = some r := by rw [if_pos rfl] at H; exact H
           clear H
           have H := H1
           clear H1
           obtain rfl := Option.some.inj H
           go_wp2_with (first | ((with_reducible refine gate_callee (f := 94) rfl ?_); refine goesL_ (some 35) rfl rfl Tryd.func94 (by kernel_rfl) rfl #[.int .u8 a0] rfl (by (try simp only [List.map_toArray, List.map_cons, List.map_nil]); first | done | rfl | (simp only [List.length_drop, List.length_take]; rfl)) ?_; (with_reducible refine (code_immediate.calls a0 true _ A11.out).mono ?_); rintro e w' ⟨rfl, ⟨nd, rfl⟩⟩; refine ⟨_, rfl, ?_⟩))
           go_ret
           exact ⟨by first | rfl | (simp; done) | (simp [*]; done), by repeat (first | exact Drawn0.refl _ | apply Drawn0.step)⟩
          ·replace c12 := Bool.eq_false_iff.mpr c12
           subst c12
           have H1 : (if (a0 / 16) = 7 then (code_form.j2 kj6 (a0 / 16) (Go.bits .and .u8 a0 15) ((a0 / 16) == 7)) else (code_form.j2 kj6 (a0 / 16) (Go.bits .and .u8 a0 15) ((a0 / 16) == 15))) = some r := by rw [if_neg (show ¬ (false = true) by decide)] at H; exact H
           clear H
           have H := H1
           clear H1
           have HC13 := Aside0.mk H
           clear H
           go_upto_if 36 with (first | ((with_reducible refine gate_callee (f := 94) rfl ?_); refine goesL_ (some 35) rfl rfl Tryd.func94 (by kernel_rfl) rfl #[.int .u8 a0] rfl (by (try simp only [List.map_toArray, List.map_cons, List.map_nil]); first | done | rfl | (simp only [List.length_drop, List.length_take]; rfl)) ?_; (with_reducible refine (code_immediate.calls a0 false _ A11.out).mono ?_); rintro e w' ⟨rfl, ⟨nd, rfl⟩⟩; refine ⟨_, rfl, ?_⟩))
           (try simp only [Act.put, List.setIfInBounds_toArray, List.set_cons_zero, List.set_cons_succ])
           go_cut [36] (fun v36 wc => ∃ (kq : Nat) (x36_12 : Bool), v36 = .bool x36_12 ∧ Aside0 (code_form.j2 kq (a0 / 16) (Go.bits .and .u8 a0 15) x36_12 = some r) ∧ Aside0 (kq ≤ kj6) ∧ Drawn0 w wc)
           case first =>
            have H := HC13.out
            clear HC13
            by_cases c14 : (a0 / 16) = 7
            ·rw [if_pos c14] at H
             have c14b0 : ((a0 / 16) == 7) = true := beq_iff_eq.mpr c14
             have c14b1 : ((a0 / 16) != 7) = false := bne_eq_false_iff_eq.mpr c14
             clear c14
             (first | rw [c14b0] | (simp only [i64_w, i32_w]; rw [c14b0]) | skip)
             have H' := Aside0.mk H
             clear H
             go_wp2
             go_meet
             case rel => exact ⟨_, (((a0 / 16) == 7)), (by first | rfl | (simp; done) | (simp [*]; done)), H', ⟨by have := HJ2.out; have := HJ6.out; first | omega | exact Nat.le_refl _⟩, by repeat (first | exact Drawn0.refl _ | apply Drawn0.step)⟩
            ·rw [if_neg c14] at H
             have c14b0 : ((a0 / 16) == 7) = false := beq_eq_false_iff_ne.mpr c14
             have c14b1 : ((a0 / 16) != 7) = true := bne_iff_ne.mpr c14
             (first | rw [c14b0] | (simp only [i64_w, i32_w]; rw [c14b0]) | skip)
             have H' := Aside0.mk H
             clear H
             go_wp2
             go_meet
             case rel => exact ⟨_, (((a0 / 16) == 15)), (by first | rfl | (simp; done) | (simp [*]; done)), H', ⟨by have := HJ2.out; have := HJ6.out; first | omega | exact Nat.le_refl _⟩, by repeat (first | exact Drawn0.refl _ | apply Drawn0.step)⟩
           case rest =>
            clear HC13
            try clear c1
            try clear c2
            try clear c2b0
            try clear c2b1
            try clear p2
            try clear c4
            try clear c4b0
            try clear c4b1
            try clear c5
            try clear c6
            try clear c6b0
            try clear c6b1
            try clear c7
            try clear c8
            try clear c8b0
            try clear c8b1
            try clear c9
            try clear c10
            try clear c10b0
            try clear c10b1
            try clear c12
            try clear c14
            try clear c14b0
            try clear c14b1
            try clear p2
            obtain ⟨kq, x36_12, rfl, HA, HJ12, ⟨mc12, rfl⟩⟩ := hcut
            cases kq with
            | zero => exact absurd HA.out (by simp [code_form.j2])
            | succ kj12 =>
             have H := HA.out
             clear HA
             simp only [code_form.j2] at H
             by_cases c15 : x36_12 = true
             ·subst c15
              have H1 : (some 1) = some r := by rw [if_pos rfl] at H; exact H
              clear H
              have H := H1
              clear H1
              obtain rfl := Option.some.inj H
              go_wp2
              go_ret
              exact ⟨by first | rfl | (simp; done) | (simp [*]; done), by repeat (first | exact Drawn0.refl _ | apply Drawn0.step)⟩
             ·replace c15 := Bool.eq_false_iff.mpr c15
              subst c15
              have H1 : (if (a0 / 16) = 12 then (if (Go.bits .and .u8 a0 15) < 4 then (code_form.j3 kj12 (a0 / 16) true) else (if (Go.bits .and .u8 a0 15) > 8 then (code_form.j3 kj12 (a0 / 16) (decide ((Go.bits .and .u8 a0 15) < 12))) else (code_form.j3 kj12 (a0 / 16) false))) else (code_form.j3 kj12 (a0 / 16) false)) = some r := by rw [if_neg (show ¬ (false = true) by decide)] at H; exact H
              clear H
              have H := H1
              clear H1
              have HC16 := Aside0.mk H
              clear H
              go_upto_region 17 with (fail)
              go_cut [41] (fun v41 wc => ∃ (kq : Nat) (x41_15 : Bool), v41 = .bool x41_15 ∧ Aside0 (code_form.j3 kq (a0 / 16) x41_15 = some r) ∧ Aside0 (kq ≤ kj12) ∧ Drawn0 w wc)
              case first =>
               have H := HC16.out
               clear HC16
               by_cases c17 : (a0 / 16) = 12
               ·rw [if_pos c17] at H
                have c17b0 : ((a0 / 16) == 12) = true := beq_iff_eq.mpr c17
                have c17b1 : ((a0 / 16) != 12) = false := bne_eq_false_iff_eq.mpr c17
                clear c17
                (first | rw [c17b0] | (simp only [i64_w, i32_w]; rw [c17b0]) | skip)
                by_cases c18 : (Go.bits .and .u8 a0 15) < 4
                ·rw [if_pos c18] at H
                 have c18b0 : decide ((Go.bits .and .u8 a0 15) < 4) = true := decide_eq_true c18
                 clear c18
                 have H' := Aside0.mk H
                 clear H
                 go_wp2
                 go_meet
                 case rel => exact ⟨_, (true), (by first | rfl | (simp; done) | (simp [*]; done)), H', ⟨by have := HJ2.out; have := HJ6.out; have := HJ12.out; first | omega | exact Nat.le_refl _⟩, by repeat (first | exact Drawn0.refl _ | apply Drawn0.step)⟩
                ·rw [if_neg c18] at H
                 have c18b0 : decide ((Go.bits .and .u8 a0 15) < 4) = false := decide_eq_false c18
                 clear c18
                 by_cases c19 : (Go.bits .and .u8 a0 15) > 8
                 ·rw [if_pos c19] at H
                  have c19b0 : decide (8 < (Go.bits .and .u8 a0 15)) = true := decide_eq_true c19
                  clear c19
                  have H' := Aside0.mk H
                  clear H
                  go_wp2
                  go_meet
                  case rel => exact ⟨_, (decide ((Go.bits .and .u8 a0 15) < 12)), (by first | rfl | (simp; done) | (simp [*]; done)), H', ⟨by have := HJ2.out; have := HJ6.out; have := HJ12.out; first | omega | exact Nat.le_refl _⟩, by repeat (first | exact Drawn0.refl _ | apply Drawn0.step)⟩
                 ·rw [if_neg c19] at H
                  have c19b0 : decide (8 < (Go.bits .and .u8 a0 15)) = false := decide_eq_false c19
                  clear c19
                  have H' := Aside0.mk H
                  clear H
                  go_wp2
                  go_meet
                  case rel => exact ⟨_, (false), (by first | rfl | (simp; done) | (simp [*]; done)), H', ⟨by have := HJ2.out; have := HJ6.out; have := HJ12.out; first | omega | exact Nat.le_refl _⟩, by repeat (first | exact Drawn0.refl _ | apply Drawn0.step)⟩
               ·rw [if_neg c17] at H
                have c17b0 : ((a0 / 16) == 12) = false := beq_eq_false_iff_ne.mpr c17
                have c17b1 : ((a0 / 16) != 12) = true := bne_iff_ne.mpr c17
                (first | rw [c17b0] | (simp only [i64_w, i32_w]; rw [c17b0]) | skip)
                have H' := Aside0.mk H
                clear H
                go_wp2
                go_meet
                case rel => exact ⟨_, (false), (by first | rfl | (simp; done) | (simp [*]; done)), H', ⟨by have := HJ2.out; have := HJ6.out; have := HJ12.out; first | omega | exact Nat.le_refl _⟩, by repeat (first | exact Drawn0.refl _ | apply Drawn0.step)⟩
              case rest =>
               clear HC16
               try clear c1
               try clear c2
               try clear c2b0
               try clear c2b1
               try clear p2
               try clear c4
               try clear c4b0
               try clear c4b1
               try clear c5
               try clear c6
               try clear c6b0
               try clear c6b1
               try clear c7
               try clear c8
               try clear c8b0
               try clear c8b1
               try clear c9
               try clear c10
               try clear c10b0
               try clear c10b1
               try clear c12
               try clear c14
               try clear c14b0
               try clear c14b1
               try clear c15
               try clear c17
               try clear c17b0
               try clear c17b1
               try clear c18
               try clear c18b0
               try clear c19
               try clear c19b0
               try clear p2
               obtain ⟨kq, x41_15, rfl, HA, HJ15, ⟨mc15, rfl⟩⟩ := hcut
               cases kq with
               | zero => exact absurd HA.out (by simp [code_form.j3])
               | succ kj15 =>
                have H := HA.out
                clear HA
                simp only [code_form.j3] at H
                by_cases c20 : x41_15 = true
                ·subst c20
                 have H1 : (some 6) = some r := by rw [if_pos rfl] at H; exact H
                 clear H
                 have H := H1
                 clear H1
                 obtain rfl := Option.some.inj H
                 go_wp2
                 go_ret
                 exact ⟨by first | rfl | (simp; done) | (simp [*]; done), by repeat (first | exact Drawn0.refl _ | apply Drawn0.step)⟩
                ·replace c20 := Bool.eq_false_iff.mpr c20
                 subst c20
                 have H1 : (if (a0 / 16) = 12 then (some 1) else (some 2)) = some r := by rw [if_neg (show ¬ (false = true) by decide)] at H; exact H
                 clear H
                 have H := H1
                 clear H1
                 by_cases c21 : (a0 / 16) = 12
                 ·rw [if_pos c21] at H
                  have c21b0 : ((a0 / 16) == 12) = true := beq_iff_eq.mpr c21
                  have c21b1 : ((a0 / 16) != 12) = false := bne_eq_false_iff_eq.mpr c21
                  clear c21
                  obtain rfl := Option.some.inj H
                  go_wp2
                  go_ret
                  exact ⟨by first | rfl | (simp; done) | (simp [*]; done), by repeat (first | exact Drawn0.refl _ | apply Drawn0.step)⟩
                 ·rw [if_neg c21] at H
                  have c21b0 : ((a0 / 16) == 12) = false := beq_eq_false_iff_ne.mpr c21
                  have c21b1 : ((a0 / 16) != 12) = true := bne_iff_ne.mpr c21
                  obtain rfl := Option.some.inj H
                  go_wp2
                  go_ret
                  exact ⟨by first | rfl | (simp; done) | (simp [*]; done), by repeat (first | exact Drawn0.refl _ | apply Drawn0.step)⟩
end Go.Proofs.YtjedbamcjgabpaaDoor.PSo
/- Written by a program of this session (gprint.py, over the kit's printer): functions of the seat YtjedbamcjgabpaaDoor and their contracts. No condition but each contract's own. -/
namespace Go.Proofs.YtjedbamcjgabpaaDoor.PSo
open Go.RowKit Go.Proofs.YtjedbamcjgabpaaDoorW.PrintWords Go.Proofs.YtjedbamcjgabpaaDoorW.PrintLast Go.Proofs.YtjedbamcjgabpaaDoorW.PrintMore
attribute [local go_sem] max2_int min2_int max_two min_two max_three min_three max_four min_four   -- for this text's walks alone
set_option linter.unusedVariables false
set_option linter.unusedSimpArgs false

-- given: code_name (a text of this session's own)

/-! ### code_long: function 71 -/
def code_long.f (a0 : Int) : Option (Bool) := some ((a0 / 16) == 12)
set_option maxHeartbeats 8000000 in
set_option maxRecDepth 100000 in
theorem code_long.calls (a0 : Int) (r : Bool) (w : World) (h : code_long.f a0 = some r) :
 Calls Tryd.prog 71 #[.int .u8 a0] w fun e w' => e = .returned (.bool r) ∧ Drawn0 w w' := by
 have H : (some ((a0 / 16) == 12)) = some r := h
 clear h
 obtain rfl := Option.some.inj H
 go_enter Tryd.func71, Tryd.ntmps71
 go_wp2
 go_ret
 exact ⟨by first | rfl | (simp; done) | (simp [*]; done), by repeat (first | exact Drawn0.refl _ | apply Drawn0.step)⟩

-- given: code_Info (a text of this session's own)
end Go.Proofs.YtjedbamcjgabpaaDoor.PSo
