/- Written by a program of this session (gprint.py, over the kit's printer): functions of the seat YtjedbamcjgabpaaDoor and their contracts. No condition but each contract's own. -/
import Derived.Test.YtjedbamcjgabpaaDoorPSox0
namespace Go.Proofs.YtjedbamcjgabpaaDoor.PSo
open Go.RowKit Go.Proofs.YtjedbamcjgabpaaDoorW.PrintWords Go.Proofs.YtjedbamcjgabpaaDoorW.PrintLast Go.Proofs.YtjedbamcjgabpaaDoorW.PrintMore
attribute [local go_sem] max2_int min2_int max_two min_two max_three min_three max_four min_four   -- for this text's walks alone
set_option linter.unusedVariables false
set_option linter.unusedSimpArgs false

/-! ### vesperref13_most: function 59 -/
def vesperref13_most.j0 : Nat → Int → Bool → Option (Int × Int × Bool)
 | 0, _, _ => none
 | k + 1, x7, x14 => if x14 = true then (some (0, 255, true)) else (if x7 = 6 then (some (0, 65535, true)) else (some (0, 0, true)))
def vesperref13_most.f (k : Nat) (a0 : ByteArray) (a1 : Int) : Option (Int × Int × Bool) := if a1 = 2 then (if a0.toList = ([76, 68, 78] : List UInt8) then (some (1, 15, true)) else (some (0, 15, true))) else (if a1 = 3 then (some (1, 7, true)) else (if a1 = 4 then (vesperref13_most.j0 k a1 (a1 == 4)) else (vesperref13_most.j0 k a1 (a1 == 5))))
theorem vesperref13_most.mono_l : ∀ k, (∀ y0 y1, LeO (vesperref13_most.j0 k y0 y1) (vesperref13_most.j0 (k + 1) y0 y1))
 | 0 => fun _ _ r h => by simp [vesperref13_most.j0] at h
 | k + 1 => by
  have ih0 := vesperref13_most.mono_l k
  ·intro y0 y1
   unfold vesperref13_most.j0
   repeat' first
   | (with_reducible exact ih0 _ _)
   | (with_reducible exact LeO.refl _)
   | (with_reducible exact LeO.none _)
   | (with_reducible refine LeO.ite ?_ ?_)
   | (with_reducible refine LeO.bind ?_ (fun _ => ?_))
   | exact ih0 _ _
   | exact LeO.none _
   | refine LeO.ite ?_ ?_
   | refine LeO.bind ?_ (fun _ => ?_)
theorem vesperref13_most.mono : ∀ a0 a1 k, LeO (vesperref13_most.f k a0 a1) (vesperref13_most.f (k + 1) a0 a1) := by
 intro a0 a1 k
 have ih0 := vesperref13_most.mono_l k
 unfold vesperref13_most.f
 repeat' first
  | (with_reducible exact ih0 _ _)
  | (with_reducible exact LeO.refl _)
  | (with_reducible exact LeO.none _)
  | (with_reducible refine LeO.ite ?_ ?_)
  | (with_reducible refine LeO.bind ?_ (fun _ => ?_))
  | exact ih0 _ _
  | exact LeO.none _
  | refine LeO.ite ?_ ?_
  | refine LeO.bind ?_ (fun _ => ?_)
set_option maxHeartbeats 8000000 in
set_option maxRecDepth 100000 in
theorem vesperref13_most.calls (k : Nat) (a0 : ByteArray) (a1 : Int) (r1 : Int) (r2 : Int) (r3 : Bool) (w : World) (h : vesperref13_most.f k a0 a1 = some (r1, r2, r3)) :
 Calls Tryd.prog 59 #[.string a0, .int .u8 a1] w fun e w' => e = .returned (.tuple #[.int .i64 r1, .int .i64 r2, .bool r3]) ∧ Drawn0 w w' := by
 have H : (if a1 = 2 then (if a0.toList = ([76, 68, 78] : List UInt8) then (some (1, 15, true)) else (some (0, 15, true))) else (if a1 = 3 then (some (1, 7, true)) else (if a1 = 4 then (vesperref13_most.j0 k a1 (a1 == 4)) else (vesperref13_most.j0 k a1 (a1 == 5))))) = some (r1, r2, r3) := h
 clear h
 by_cases c3 : a1 = 2
 ·rw [if_pos c3] at H
  have c3b0 : (a1 == 2) = true := beq_iff_eq.mpr c3
  have c3b1 : (a1 != 2) = false := bne_eq_false_iff_eq.mpr c3
  clear c3
  by_cases c4 : a0.toList = ([76, 68, 78] : List UInt8)
  ·rw [if_pos c4] at H
   have c4b0 : (a0.toList == ([76, 68, 78] : List UInt8)) = true := beq_iff_eq.mpr c4
   have c4b1 : (a0.toList != ([76, 68, 78] : List UInt8)) = false := bne_eq_false_iff_eq.mpr c4
   clear c4
   simp only [Option.some.injEq, Prod.mk.injEq] at H
   obtain ⟨rfl, rfl, rfl⟩ := H
   go_enter Tryd.func59, Tryd.ntmps59
   go_wp2
   go_ret3
   exact ⟨by first | rfl | (simp; done) | (simp [*]; done), by repeat (first | exact Drawn0.refl _ | apply Drawn0.step)⟩
  ·rw [if_neg c4] at H
   have c4b0 : (a0.toList == ([76, 68, 78] : List UInt8)) = false := beq_eq_false_iff_ne.mpr c4
   have c4b1 : (a0.toList != ([76, 68, 78] : List UInt8)) = true := bne_iff_ne.mpr c4
   simp only [Option.some.injEq, Prod.mk.injEq] at H
   obtain ⟨rfl, rfl, rfl⟩ := H
   go_enter Tryd.func59, Tryd.ntmps59
   go_wp2
   go_ret3
   exact ⟨by first | rfl | (simp; done) | (simp [*]; done), by repeat (first | exact Drawn0.refl _ | apply Drawn0.step)⟩
 ·rw [if_neg c3] at H
  have c3b0 : (a1 == 2) = false := beq_eq_false_iff_ne.mpr c3
  have c3b1 : (a1 != 2) = true := bne_iff_ne.mpr c3
  by_cases c5 : a1 = 3
  ·rw [if_pos c5] at H
   have c5b0 : (a1 == 3) = true := beq_iff_eq.mpr c5
   have c5b1 : (a1 != 3) = false := bne_eq_false_iff_eq.mpr c5
   clear c5
   simp only [Option.some.injEq, Prod.mk.injEq] at H
   obtain ⟨rfl, rfl, rfl⟩ := H
   go_enter Tryd.func59, Tryd.ntmps59
   go_wp2
   go_ret3
   exact ⟨by first | rfl | (simp; done) | (simp [*]; done), by repeat (first | exact Drawn0.refl _ | apply Drawn0.step)⟩
  ·rw [if_neg c5] at H
   have c5b0 : (a1 == 3) = false := beq_eq_false_iff_ne.mpr c5
   have c5b1 : (a1 != 3) = true := bne_iff_ne.mpr c5
   have HC6 := Aside0.mk H
   clear H
   go_enter Tryd.func59, Tryd.ntmps59
   go_upto_if 14 with (fail)
   go_cut [14] (fun v14 wc => ∃ (kq : Nat) (x14_5 : Bool), v14 = .bool x14_5 ∧ Aside0 (vesperref13_most.j0 kq a1 x14_5 = some (r1, r2, r3)) ∧ Aside0 (kq ≤ k) ∧ Drawn0 w wc)
   case first =>
    have H := HC6.out
    clear HC6
    by_cases c7 : a1 = 4
    ·rw [if_pos c7] at H
     have c7b0 : (a1 == 4) = true := beq_iff_eq.mpr c7
     have c7b1 : (a1 != 4) = false := bne_eq_false_iff_eq.mpr c7
     clear c7
     (first | rw [c7b0] | (simp only [i64_w, i32_w]; rw [c7b0]) | skip)
     have H' := Aside0.mk H
     clear H
     go_wp2
     go_meet
     case rel => exact ⟨_, ((a1 == 4)), (by first | rfl | (simp; done) | (simp [*]; done)), H', ⟨by first | omega | exact Nat.le_refl _⟩, by repeat (first | exact Drawn0.refl _ | apply Drawn0.step)⟩
    ·rw [if_neg c7] at H
     have c7b0 : (a1 == 4) = false := beq_eq_false_iff_ne.mpr c7
     have c7b1 : (a1 != 4) = true := bne_iff_ne.mpr c7
     (first | rw [c7b0] | (simp only [i64_w, i32_w]; rw [c7b0]) | skip)
     have H' := Aside0.mk H
     clear H
     go_wp2
     go_meet
     case rel => exact ⟨_, ((a1 == 5)), (by first | rfl | (simp; done) | (simp [*]; done)), H', ⟨by first | omega | exact Nat.le_refl _⟩, by repeat (first | exact Drawn0.refl _ | apply Drawn0.step)⟩
   case rest =>
    clear HC6
    try clear p2
    try clear c3
    try clear c3b0
    try clear c3b1
    try clear c4
    try clear c4b0
    try clear c4b1
    try clear c5
    try clear c5b0
    try clear c5b1
    try clear c7
    try clear c7b0
    try clear c7b1
    obtain ⟨kq, x14_5, rfl, HA, HJ5, ⟨mc5, rfl⟩⟩ := hcut
    cases kq with
    | zero => exact absurd HA.out (by simp [vesperref13_most.j0])
    | succ kj5 =>
     have H := HA.out
     clear HA
     simp only [vesperref13_most.j0] at H
     by_cases c8 : x14_5 = true
     ·subst c8
      have H1 : (some (0, 255, true)) = some (r1, r2, r3) := by rw [if_pos rfl] at H; exact H
      clear H
      have H := H1
      clear H1
      simp only [Option.some.injEq, Prod.mk.injEq] at H
      obtain ⟨rfl, rfl, rfl⟩ := H
      go_wp2
      go_ret3
      exact ⟨by first | rfl | (simp; done) | (simp [*]; done), by repeat (first | exact Drawn0.refl _ | apply Drawn0.step)⟩
     ·replace c8 := Bool.eq_false_iff.mpr c8
      subst c8
      have H1 : (if a1 = 6 then (some (0, 65535, true)) else (some (0, 0, true))) = some (r1, r2, r3) := by rw [if_neg (show ¬ (false = true) by decide)] at H; exact H
      clear H
      have H := H1
      clear H1
      by_cases c9 : a1 = 6
      ·rw [if_pos c9] at H
       have c9b0 : (a1 == 6) = true := beq_iff_eq.mpr c9
       have c9b1 : (a1 != 6) = false := bne_eq_false_iff_eq.mpr c9
       clear c9
       simp only [Option.some.injEq, Prod.mk.injEq] at H
       obtain ⟨rfl, rfl, rfl⟩ := H
       go_wp2
       go_ret3
       exact ⟨by first | rfl | (simp; done) | (simp [*]; done), by repeat (first | exact Drawn0.refl _ | apply Drawn0.step)⟩
      ·rw [if_neg c9] at H
       have c9b0 : (a1 == 6) = false := beq_eq_false_iff_ne.mpr c9
       have c9b1 : (a1 != 6) = true := bne_iff_ne.mpr c9
       simp only [Option.some.injEq, Prod.mk.injEq] at H
       obtain ⟨rfl, rfl, rfl⟩ := H
       go_wp2
       go_ret3
       exact ⟨by first | rfl | (simp; done) | (simp [*]; done), by repeat (first | exact Drawn0.refl _ | apply Drawn0.step)⟩
end Go.Proofs.YtjedbamcjgabpaaDoor.PSo
