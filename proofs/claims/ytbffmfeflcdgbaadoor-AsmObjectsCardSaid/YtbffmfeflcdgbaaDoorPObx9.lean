/- Written by a program of this session (gprint.py, over the kit's printer): functions of the seat YtbffmfeflcdgbaaDoor and their contracts. No condition but each contract's own. -/
import Derived.Test.YtbffmfeflcdgbaaDoorPObx0
namespace Go.Proofs.YtbffmfeflcdgbaaDoor.POb
open Go.RowKit Go.Proofs.YtbffmfeflcdgbaaDoorW.PrintWords Go.Proofs.YtbffmfeflcdgbaaDoorW.PrintLast Go.Proofs.YtbffmfeflcdgbaaDoorW.PrintMore
attribute [local go_sem] max2_int min2_int max_two min_two max_three min_three max_four min_four   -- for this text's walks alone
set_option linter.unusedVariables false
set_option linter.unusedSimpArgs false

/-! ### vesperref02_FormOf: function 41 -/
mutual
def vesperref02_FormOf.j0 : Nat → Int → Int → Bool → Option (Int)
 | 0, _, _, _ => none
 | k + 1, x4, x11, x16 => if x16 = true then (some 2) else (if x11 = 3 then (if x4 = 8 then (some 1) else (some 5)) else (if x11 = 6 then (if (Int.tmod x4 8) = 0 then (some 1) else (some 3)) else (if x11 = 7 then (if x4 = 12 then (vesperref02_FormOf.j1 k true) else (if x4 = 13 then (vesperref02_FormOf.j1 k true) else (vesperref02_FormOf.j1 k (x4 == 15)))) else (if x11 = 12 then (if x4 ≤ 3 then (vesperref02_FormOf.j2 k true) else (if x4 ≥ 9 then (vesperref02_FormOf.j2 k (decide (x4 ≤ 11))) else (vesperref02_FormOf.j2 k false))) else (if x4 ≥ 8 then (if x4 = 14 then (some 1) else (some 4)) else (some 1))))))
def vesperref02_FormOf.j1 : Nat → Bool → Option (Int)
 | 0, _ => none
 | k + 1, x47 => if x47 = true then (some 4) else (some 1)
def vesperref02_FormOf.j2 : Nat → Bool → Option (Int)
 | 0, _ => none
 | k + 1, x59 => if x59 = true then (some 6) else (some 1)
end
def vesperref02_FormOf.f (k : Nat) (a0 : Int) : Option (Int) := if ((Int.tdiv a0 16) % 256) = 0 then (if (wrap64 (Int.tmod a0 16)) = 0 then (some 1) else (some 2)) else (if ((Int.tdiv a0 16) % 256) = 1 then (vesperref02_FormOf.j0 k (wrap64 (Int.tmod a0 16)) ((Int.tdiv a0 16) % 256) (((Int.tdiv a0 16) % 256) == 1)) else (if ((Int.tdiv a0 16) % 256) = 2 then (vesperref02_FormOf.j0 k (wrap64 (Int.tmod a0 16)) ((Int.tdiv a0 16) % 256) (((Int.tdiv a0 16) % 256) == 2)) else (if ((Int.tdiv a0 16) % 256) = 4 then (vesperref02_FormOf.j0 k (wrap64 (Int.tmod a0 16)) ((Int.tdiv a0 16) % 256) (((Int.tdiv a0 16) % 256) == 4)) else (if ((Int.tdiv a0 16) % 256) = 5 then (vesperref02_FormOf.j0 k (wrap64 (Int.tmod a0 16)) ((Int.tdiv a0 16) % 256) (((Int.tdiv a0 16) % 256) == 5)) else (if ((Int.tdiv a0 16) % 256) = 8 then (vesperref02_FormOf.j0 k (wrap64 (Int.tmod a0 16)) ((Int.tdiv a0 16) % 256) (((Int.tdiv a0 16) % 256) == 8)) else (if ((Int.tdiv a0 16) % 256) = 9 then (vesperref02_FormOf.j0 k (wrap64 (Int.tmod a0 16)) ((Int.tdiv a0 16) % 256) (((Int.tdiv a0 16) % 256) == 9)) else (if ((Int.tdiv a0 16) % 256) = 10 then (vesperref02_FormOf.j0 k (wrap64 (Int.tmod a0 16)) ((Int.tdiv a0 16) % 256) (((Int.tdiv a0 16) % 256) == 10)) else (if ((Int.tdiv a0 16) % 256) = 11 then (vesperref02_FormOf.j0 k (wrap64 (Int.tmod a0 16)) ((Int.tdiv a0 16) % 256) (((Int.tdiv a0 16) % 256) == 11)) else (if ((Int.tdiv a0 16) % 256) = 13 then (vesperref02_FormOf.j0 k (wrap64 (Int.tmod a0 16)) ((Int.tdiv a0 16) % 256) (((Int.tdiv a0 16) % 256) == 13)) else (vesperref02_FormOf.j0 k (wrap64 (Int.tmod a0 16)) ((Int.tdiv a0 16) % 256) (((Int.tdiv a0 16) % 256) == 14)))))))))))
theorem vesperref02_FormOf.mono_l : ∀ k, (∀ y0 y1 y2, LeO (vesperref02_FormOf.j0 k y0 y1 y2) (vesperref02_FormOf.j0 (k + 1) y0 y1 y2)) ∧ (∀ y0, LeO (vesperref02_FormOf.j1 k y0) (vesperref02_FormOf.j1 (k + 1) y0)) ∧ (∀ y0, LeO (vesperref02_FormOf.j2 k y0) (vesperref02_FormOf.j2 (k + 1) y0))
 | 0 => ⟨fun _ _ _ r h => by simp [vesperref02_FormOf.j0] at h, fun _ r h => by simp [vesperref02_FormOf.j1] at h, fun _ r h => by simp [vesperref02_FormOf.j2] at h⟩
 | k + 1 => by
  obtain ⟨ih0, ih1, ih2⟩ := vesperref02_FormOf.mono_l k
  refine ⟨?_, ?_, ?_⟩
  ·intro y0 y1 y2
   unfold vesperref02_FormOf.j0
   repeat' first
   | (with_reducible exact ih0 _ _ _)
   | (with_reducible exact ih1 _)
   | (with_reducible exact ih2 _)
   | (with_reducible exact LeO.refl _)
   | (with_reducible exact LeO.none _)
   | (with_reducible refine LeO.ite ?_ ?_)
   | (with_reducible refine LeO.bind ?_ (fun _ => ?_))
   | exact ih0 _ _ _
   | exact ih1 _
   | exact ih2 _
   | exact LeO.none _
   | refine LeO.ite ?_ ?_
   | refine LeO.bind ?_ (fun _ => ?_)
  ·intro y0
   unfold vesperref02_FormOf.j1
   repeat' first
   | (with_reducible exact ih0 _ _ _)
   | (with_reducible exact ih1 _)
   | (with_reducible exact ih2 _)
   | (with_reducible exact LeO.refl _)
   | (with_reducible exact LeO.none _)
   | (with_reducible refine LeO.ite ?_ ?_)
   | (with_reducible refine LeO.bind ?_ (fun _ => ?_))
   | exact ih0 _ _ _
   | exact ih1 _
   | exact ih2 _
   | exact LeO.none _
   | refine LeO.ite ?_ ?_
   | refine LeO.bind ?_ (fun _ => ?_)
  intro y0
  unfold vesperref02_FormOf.j2
  repeat' first
  | (with_reducible exact ih0 _ _ _)
  | (with_reducible exact ih1 _)
  | (with_reducible exact ih2 _)
  | (with_reducible exact LeO.refl _)
  | (with_reducible exact LeO.none _)
  | (with_reducible refine LeO.ite ?_ ?_)
  | (with_reducible refine LeO.bind ?_ (fun _ => ?_))
  | exact ih0 _ _ _
  | exact ih1 _
  | exact ih2 _
  | exact LeO.none _
  | refine LeO.ite ?_ ?_
  | refine LeO.bind ?_ (fun _ => ?_)
theorem vesperref02_FormOf.mono : ∀ a0 k, LeO (vesperref02_FormOf.f k a0) (vesperref02_FormOf.f (k + 1) a0) := by
 intro a0 k
 obtain ⟨ih0, ih1, ih2⟩ := vesperref02_FormOf.mono_l k
 unfold vesperref02_FormOf.f
 repeat' first
  | (with_reducible exact ih0 _ _ _)
  | (with_reducible exact ih1 _)
  | (with_reducible exact ih2 _)
  | (with_reducible exact LeO.refl _)
  | (with_reducible exact LeO.none _)
  | (with_reducible refine LeO.ite ?_ ?_)
  | (with_reducible refine LeO.bind ?_ (fun _ => ?_))
  | exact ih0 _ _ _
  | exact ih1 _
  | exact ih2 _
  | exact LeO.none _
  | refine LeO.ite ?_ ?_
  | refine LeO.bind ?_ (fun _ => ?_)
set_option maxHeartbeats 8000000 in
set_option maxRecDepth 100000 in
theorem vesperref02_FormOf.calls (k : Nat) (a0 : Int) (r : Int) (w : World) (h : vesperref02_FormOf.f k a0 = some r) :
 Calls Tryd.prog 41 #[.int .u8 a0] w fun e w' => e = .returned (.int .u8 r) ∧ Drawn0 w w' := by
 have H : (if ((Int.tdiv a0 16) % 256) = 0 then (if (wrap64 (Int.tmod a0 16)) = 0 then (some 1) else (some 2)) else (if ((Int.tdiv a0 16) % 256) = 1 then (vesperref02_FormOf.j0 k (wrap64 (Int.tmod a0 16)) ((Int.tdiv a0 16) % 256) (((Int.tdiv a0 16) % 256) == 1)) else (if ((Int.tdiv a0 16) % 256) = 2 then (vesperref02_FormOf.j0 k (wrap64 (Int.tmod a0 16)) ((Int.tdiv a0 16) % 256) (((Int.tdiv a0 16) % 256) == 2)) else (if ((Int.tdiv a0 16) % 256) = 4 then (vesperref02_FormOf.j0 k (wrap64 (Int.tmod a0 16)) ((Int.tdiv a0 16) % 256) (((Int.tdiv a0 16) % 256) == 4)) else (if ((Int.tdiv a0 16) % 256) = 5 then (vesperref02_FormOf.j0 k (wrap64 (Int.tmod a0 16)) ((Int.tdiv a0 16) % 256) (((Int.tdiv a0 16) % 256) == 5)) else (if ((Int.tdiv a0 16) % 256) = 8 then (vesperref02_FormOf.j0 k (wrap64 (Int.tmod a0 16)) ((Int.tdiv a0 16) % 256) (((Int.tdiv a0 16) % 256) == 8)) else (if ((Int.tdiv a0 16) % 256) = 9 then (vesperref02_FormOf.j0 k (wrap64 (Int.tmod a0 16)) ((Int.tdiv a0 16) % 256) (((Int.tdiv a0 16) % 256) == 9)) else (if ((Int.tdiv a0 16) % 256) = 10 then (vesperref02_FormOf.j0 k (wrap64 (Int.tmod a0 16)) ((Int.tdiv a0 16) % 256) (((Int.tdiv a0 16) % 256) == 10)) else (if ((Int.tdiv a0 16) % 256) = 11 then (vesperref02_FormOf.j0 k (wrap64 (Int.tmod a0 16)) ((Int.tdiv a0 16) % 256) (((Int.tdiv a0 16) % 256) == 11)) else (if ((Int.tdiv a0 16) % 256) = 13 then (vesperref02_FormOf.j0 k (wrap64 (Int.tmod a0 16)) ((Int.tdiv a0 16) % 256) (((Int.tdiv a0 16) % 256) == 13)) else (vesperref02_FormOf.j0 k (wrap64 (Int.tmod a0 16)) ((Int.tdiv a0 16) % 256) (((Int.tdiv a0 16) % 256) == 14)))))))))))) = some r := h
 clear h
 by_cases c2 : ((Int.tdiv a0 16) % 256) = 0
 ·rw [if_pos c2] at H
  have c2b0 : (((Int.tdiv a0 16) % 256) == 0) = true := beq_iff_eq.mpr c2
  have c2b1 : (((Int.tdiv a0 16) % 256) != 0) = false := bne_eq_false_iff_eq.mpr c2
  clear c2
  by_cases c3 : (wrap64 (Int.tmod a0 16)) = 0
  ·rw [if_pos c3] at H
   have c3b0 : ((wrap64 (Int.tmod a0 16)) == 0) = true := beq_iff_eq.mpr c3
   have c3b1 : ((wrap64 (Int.tmod a0 16)) != 0) = false := bne_eq_false_iff_eq.mpr c3
   clear c3
   obtain rfl := Option.some.inj H
   go_enter Tryd.func41, Tryd.ntmps41
   go_wp2
   go_ret
   exact ⟨by first | rfl | (simp; done) | (simp [*]; done), by repeat (first | exact Drawn0.refl _ | apply Drawn0.step)⟩
  rw [if_neg c3] at H
  have c3b0 : ((wrap64 (Int.tmod a0 16)) == 0) = false := beq_eq_false_iff_ne.mpr c3
  have c3b1 : ((wrap64 (Int.tmod a0 16)) != 0) = true := bne_iff_ne.mpr c3
  obtain rfl := Option.some.inj H
  go_enter Tryd.func41, Tryd.ntmps41
  go_wp2
  go_ret
  exact ⟨by first | rfl | (simp; done) | (simp [*]; done), by repeat (first | exact Drawn0.refl _ | apply Drawn0.step)⟩
 rw [if_neg c2] at H
 have c2b0 : (((Int.tdiv a0 16) % 256) == 0) = false := beq_eq_false_iff_ne.mpr c2
 have c2b1 : (((Int.tdiv a0 16) % 256) != 0) = true := bne_iff_ne.mpr c2
 have HC4 := Aside0.mk H
 clear H
 go_enter Tryd.func41, Tryd.ntmps41
 go_upto_if 16 with (fail)
 go_cut [16] (fun v16 wc => ∃ (kq : Nat) (x16_3 : Bool), v16 = .bool x16_3 ∧ Aside0 (vesperref02_FormOf.j0 kq (wrap64 (Int.tmod a0 16)) ((Int.tdiv a0 16) % 256) x16_3 = some r) ∧ Aside0 (kq ≤ k) ∧ Drawn0 w wc)
 case first =>
  have H := HC4.out
  clear HC4
  by_cases c5 : ((Int.tdiv a0 16) % 256) = 1
  ·rw [if_pos c5] at H
   have c5b0 : (((Int.tdiv a0 16) % 256) == 1) = true := beq_iff_eq.mpr c5
   have c5b1 : (((Int.tdiv a0 16) % 256) != 1) = false := bne_eq_false_iff_eq.mpr c5
   clear c5
   (first | rw [c5b0] | (simp only [i64_w, i32_w]; rw [c5b0]) | skip)
   have H' := Aside0.mk H
   clear H
   go_wp2
   go_meet
   case rel => exact ⟨_, ((((Int.tdiv a0 16) % 256) == 1)), rs, H', ⟨by first | omega | exact Nat.le_refl _⟩, by repeat (first | exact Drawn0.refl _ | apply Drawn0.step)⟩
  rw [if_neg c5] at H
  have c5b0 : (((Int.tdiv a0 16) % 256) == 1) = false := beq_eq_false_iff_ne.mpr c5
  have c5b1 : (((Int.tdiv a0 16) % 256) != 1) = true := bne_iff_ne.mpr c5
  (first | rw [c5b0] | (simp only [i64_w, i32_w]; rw [c5b0]) | skip)
  by_cases c6 : ((Int.tdiv a0 16) % 256) = 2
  ·rw [if_pos c6] at H
   have c6b0 : (((Int.tdiv a0 16) % 256) == 2) = true := beq_iff_eq.mpr c6
   have c6b1 : (((Int.tdiv a0 16) % 256) != 2) = false := bne_eq_false_iff_eq.mpr c6
   clear c6
   have H' := Aside0.mk H
   clear H
   go_wp2
   go_meet
   case rel => exact ⟨_, ((((Int.tdiv a0 16) % 256) == 2)), rs, H', ⟨by first | omega | exact Nat.le_refl _⟩, by repeat (first | exact Drawn0.refl _ | apply Drawn0.step)⟩
  rw [if_neg c6] at H
  have c6b0 : (((Int.tdiv a0 16) % 256) == 2) = false := beq_eq_false_iff_ne.mpr c6
  have c6b1 : (((Int.tdiv a0 16) % 256) != 2) = true := bne_iff_ne.mpr c6
  by_cases c7 : ((Int.tdiv a0 16) % 256) = 4
  ·rw [if_pos c7] at H
   have c7b0 : (((Int.tdiv a0 16) % 256) == 4) = true := beq_iff_eq.mpr c7
   have c7b1 : (((Int.tdiv a0 16) % 256) != 4) = false := bne_eq_false_iff_eq.mpr c7
   clear c7
   have H' := Aside0.mk H
   clear H
   go_wp2
   go_meet
   case rel => exact ⟨_, ((((Int.tdiv a0 16) % 256) == 4)), rs, H', ⟨by first | omega | exact Nat.le_refl _⟩, by repeat (first | exact Drawn0.refl _ | apply Drawn0.step)⟩
  rw [if_neg c7] at H
  have c7b0 : (((Int.tdiv a0 16) % 256) == 4) = false := beq_eq_false_iff_ne.mpr c7
  have c7b1 : (((Int.tdiv a0 16) % 256) != 4) = true := bne_iff_ne.mpr c7
  by_cases c8 : ((Int.tdiv a0 16) % 256) = 5
  ·rw [if_pos c8] at H
   have c8b0 : (((Int.tdiv a0 16) % 256) == 5) = true := beq_iff_eq.mpr c8
   have c8b1 : (((Int.tdiv a0 16) % 256) != 5) = false := bne_eq_false_iff_eq.mpr c8
   clear c8
   have H' := Aside0.mk H
   clear H
   go_wp2
   go_meet
   case rel => exact ⟨_, ((((Int.tdiv a0 16) % 256) == 5)), rs, H', ⟨by first | omega | exact Nat.le_refl _⟩, by repeat (first | exact Drawn0.refl _ | apply Drawn0.step)⟩
  rw [if_neg c8] at H
  have c8b0 : (((Int.tdiv a0 16) % 256) == 5) = false := beq_eq_false_iff_ne.mpr c8
  have c8b1 : (((Int.tdiv a0 16) % 256) != 5) = true := bne_iff_ne.mpr c8
  by_cases c9 : ((Int.tdiv a0 16) % 256) = 8
  ·rw [if_pos c9] at H
   have c9b0 : (((Int.tdiv a0 16) % 256) == 8) = true := beq_iff_eq.mpr c9
   have c9b1 : (((Int.tdiv a0 16) % 256) != 8) = false := bne_eq_false_iff_eq.mpr c9
   clear c9
   have H' := Aside0.mk H
   clear H
   go_wp2
   go_meet
   case rel => exact ⟨_, ((((Int.tdiv a0 16) % 256) == 8)), rs, H', ⟨by first | omega | exact Nat.le_refl _⟩, by repeat (first | exact Drawn0.refl _ | apply Drawn0.step)⟩
  rw [if_neg c9] at H
  have c9b0 : (((Int.tdiv a0 16) % 256) == 8) = false := beq_eq_false_iff_ne.mpr c9
  have c9b1 : (((Int.tdiv a0 16) % 256) != 8) = true := bne_iff_ne.mpr c9
  by_cases c10 : ((Int.tdiv a0 16) % 256) = 9
  ·rw [if_pos c10] at H
   have c10b0 : (((Int.tdiv a0 16) % 256) == 9) = true := beq_iff_eq.mpr c10
   have c10b1 : (((Int.tdiv a0 16) % 256) != 9) = false := bne_eq_false_iff_eq.mpr c10
   clear c10
   have H' := Aside0.mk H
   clear H
   go_wp2
   go_meet
   case rel => exact ⟨_, ((((Int.tdiv a0 16) % 256) == 9)), rs, H', ⟨by first | omega | exact Nat.le_refl _⟩, by repeat (first | exact Drawn0.refl _ | apply Drawn0.step)⟩
  rw [if_neg c10] at H
  have c10b0 : (((Int.tdiv a0 16) % 256) == 9) = false := beq_eq_false_iff_ne.mpr c10
  have c10b1 : (((Int.tdiv a0 16) % 256) != 9) = true := bne_iff_ne.mpr c10
  by_cases c11 : ((Int.tdiv a0 16) % 256) = 10
  ·rw [if_pos c11] at H
   have c11b0 : (((Int.tdiv a0 16) % 256) == 10) = true := beq_iff_eq.mpr c11
   have c11b1 : (((Int.tdiv a0 16) % 256) != 10) = false := bne_eq_false_iff_eq.mpr c11
   clear c11
   have H' := Aside0.mk H
   clear H
   go_wp2
   go_meet
   case rel => exact ⟨_, ((((Int.tdiv a0 16) % 256) == 10)), rs, H', ⟨by first | omega | exact Nat.le_refl _⟩, by repeat (first | exact Drawn0.refl _ | apply Drawn0.step)⟩
  rw [if_neg c11] at H
  have c11b0 : (((Int.tdiv a0 16) % 256) == 10) = false := beq_eq_false_iff_ne.mpr c11
  have c11b1 : (((Int.tdiv a0 16) % 256) != 10) = true := bne_iff_ne.mpr c11
  by_cases c12 : ((Int.tdiv a0 16) % 256) = 11
  ·rw [if_pos c12] at H
   have c12b0 : (((Int.tdiv a0 16) % 256) == 11) = true := beq_iff_eq.mpr c12
   have c12b1 : (((Int.tdiv a0 16) % 256) != 11) = false := bne_eq_false_iff_eq.mpr c12
   clear c12
   have H' := Aside0.mk H
   clear H
   go_wp2
   go_meet
   case rel => exact ⟨_, ((((Int.tdiv a0 16) % 256) == 11)), rs, H', ⟨by first | omega | exact Nat.le_refl _⟩, by repeat (first | exact Drawn0.refl _ | apply Drawn0.step)⟩
  rw [if_neg c12] at H
  have c12b0 : (((Int.tdiv a0 16) % 256) == 11) = false := beq_eq_false_iff_ne.mpr c12
  have c12b1 : (((Int.tdiv a0 16) % 256) != 11) = true := bne_iff_ne.mpr c12
  by_cases c13 : ((Int.tdiv a0 16) % 256) = 13
  ·rw [if_pos c13] at H
   have c13b0 : (((Int.tdiv a0 16) % 256) == 13) = true := beq_iff_eq.mpr c13
   have c13b1 : (((Int.tdiv a0 16) % 256) != 13) = false := bne_eq_false_iff_eq.mpr c13
   clear c13
   have H' := Aside0.mk H
   clear H
   go_wp2
   go_meet
   case rel => exact ⟨_, ((((Int.tdiv a0 16) % 256) == 13)), rs, H', ⟨by first | omega | exact Nat.le_refl _⟩, by repeat (first | exact Drawn0.refl _ | apply Drawn0.step)⟩
  rw [if_neg c13] at H
  have c13b0 : (((Int.tdiv a0 16) % 256) == 13) = false := beq_eq_false_iff_ne.mpr c13
  have c13b1 : (((Int.tdiv a0 16) % 256) != 13) = true := bne_iff_ne.mpr c13
  have H' := Aside0.mk H
  clear H
  go_wp2
  go_meet
  case rel => exact ⟨_, ((((Int.tdiv a0 16) % 256) == 14)), rs, H', ⟨by first | omega | exact Nat.le_refl _⟩, by repeat (first | exact Drawn0.refl _ | apply Drawn0.step)⟩
 case rest =>
  clear HC4
  clear c2 c2b0 c2b1
  obtain ⟨kq, x16_3, rfl, HA, HJ3, ⟨mc3, rfl⟩⟩ := hcut
  cases kq with
  | zero => exact absurd HA.out (by simp [vesperref02_FormOf.j0])
  | succ kj3 =>
   have H := HA.out
   clear HA
   simp only [vesperref02_FormOf.j0] at H
   by_cases c14 : x16_3 = true
   ·subst c14
    have H1 : (some 2) = some r := by rw [if_pos rfl] at H; exact H
    clear H
    have H := H1
    clear H1
    obtain rfl := Option.some.inj H
    go_wp2
    go_ret
    exact ⟨by first | rfl | (simp; done) | (simp [*]; done), by repeat (first | exact Drawn0.refl _ | apply Drawn0.step)⟩
   replace c14 := Bool.eq_false_iff.mpr c14
   subst c14
   have H1 : (if ((Int.tdiv a0 16) % 256) = 3 then (if (wrap64 (Int.tmod a0 16)) = 8 then (some 1) else (some 5)) else (if ((Int.tdiv a0 16) % 256) = 6 then (if (Int.tmod (wrap64 (Int.tmod a0 16)) 8) = 0 then (some 1) else (some 3)) else (if ((Int.tdiv a0 16) % 256) = 7 then (if (wrap64 (Int.tmod a0 16)) = 12 then (vesperref02_FormOf.j1 kj3 true) else (if (wrap64 (Int.tmod a0 16)) = 13 then (vesperref02_FormOf.j1 kj3 true) else (vesperref02_FormOf.j1 kj3 ((wrap64 (Int.tmod a0 16)) == 15)))) else (if ((Int.tdiv a0 16) % 256) = 12 then (if (wrap64 (Int.tmod a0 16)) ≤ 3 then (vesperref02_FormOf.j2 kj3 true) else (if (wrap64 (Int.tmod a0 16)) ≥ 9 then (vesperref02_FormOf.j2 kj3 (decide ((wrap64 (Int.tmod a0 16)) ≤ 11))) else (vesperref02_FormOf.j2 kj3 false))) else (if (wrap64 (Int.tmod a0 16)) ≥ 8 then (if (wrap64 (Int.tmod a0 16)) = 14 then (some 1) else (some 4)) else (some 1)))))) = some r := by rw [if_neg (show ¬ (false = true) by decide)] at H; exact H
   clear H
   have H := H1
   clear H1
   by_cases c15 : ((Int.tdiv a0 16) % 256) = 3
   ·rw [if_pos c15] at H
    have c15b0 : (((Int.tdiv a0 16) % 256) == 3) = true := beq_iff_eq.mpr c15
    have c15b1 : (((Int.tdiv a0 16) % 256) != 3) = false := bne_eq_false_iff_eq.mpr c15
    clear c15
    by_cases c16 : (wrap64 (Int.tmod a0 16)) = 8
    ·rw [if_pos c16] at H
     have c16b0 : ((wrap64 (Int.tmod a0 16)) == 8) = true := beq_iff_eq.mpr c16
     have c16b1 : ((wrap64 (Int.tmod a0 16)) != 8) = false := bne_eq_false_iff_eq.mpr c16
     clear c16
     obtain rfl := Option.some.inj H
     go_wp2
     go_ret
     exact ⟨by first | rfl | (simp; done) | (simp [*]; done), by repeat (first | exact Drawn0.refl _ | apply Drawn0.step)⟩
    rw [if_neg c16] at H
    have c16b0 : ((wrap64 (Int.tmod a0 16)) == 8) = false := beq_eq_false_iff_ne.mpr c16
    have c16b1 : ((wrap64 (Int.tmod a0 16)) != 8) = true := bne_iff_ne.mpr c16
    obtain rfl := Option.some.inj H
    go_wp2
    go_ret
    exact ⟨by first | rfl | (simp; done) | (simp [*]; done), by repeat (first | exact Drawn0.refl _ | apply Drawn0.step)⟩
   rw [if_neg c15] at H
   have c15b0 : (((Int.tdiv a0 16) % 256) == 3) = false := beq_eq_false_iff_ne.mpr c15
   have c15b1 : (((Int.tdiv a0 16) % 256) != 3) = true := bne_iff_ne.mpr c15
   by_cases c17 : ((Int.tdiv a0 16) % 256) = 6
   ·rw [if_pos c17] at H
    have c17b0 : (((Int.tdiv a0 16) % 256) == 6) = true := beq_iff_eq.mpr c17
    have c17b1 : (((Int.tdiv a0 16) % 256) != 6) = false := bne_eq_false_iff_eq.mpr c17
    clear c17
    by_cases c18 : (Int.tmod (wrap64 (Int.tmod a0 16)) 8) = 0
    ·rw [if_pos c18] at H
     have c18b0 : ((Int.tmod (wrap64 (Int.tmod a0 16)) 8) == 0) = true := beq_iff_eq.mpr c18
     have c18b1 : ((Int.tmod (wrap64 (Int.tmod a0 16)) 8) != 0) = false := bne_eq_false_iff_eq.mpr c18
     clear c18
     obtain rfl := Option.some.inj H
     go_wp2
     go_ret
     exact ⟨by first | rfl | (simp; done) | (simp [*]; done), by repeat (first | exact Drawn0.refl _ | apply Drawn0.step)⟩
    rw [if_neg c18] at H
    have c18b0 : ((Int.tmod (wrap64 (Int.tmod a0 16)) 8) == 0) = false := beq_eq_false_iff_ne.mpr c18
    have c18b1 : ((Int.tmod (wrap64 (Int.tmod a0 16)) 8) != 0) = true := bne_iff_ne.mpr c18
    obtain rfl := Option.some.inj H
    go_wp2
    go_ret
    exact ⟨by first | rfl | (simp; done) | (simp [*]; done), by repeat (first | exact Drawn0.refl _ | apply Drawn0.step)⟩
   rw [if_neg c17] at H
   have c17b0 : (((Int.tdiv a0 16) % 256) == 6) = false := beq_eq_false_iff_ne.mpr c17
   have c17b1 : (((Int.tdiv a0 16) % 256) != 6) = true := bne_iff_ne.mpr c17
   by_cases c19 : ((Int.tdiv a0 16) % 256) = 7
   ·rw [if_pos c19] at H
    have c19b0 : (((Int.tdiv a0 16) % 256) == 7) = true := beq_iff_eq.mpr c19
    have c19b1 : (((Int.tdiv a0 16) % 256) != 7) = false := bne_eq_false_iff_eq.mpr c19
    clear c19
    have HC20 := Aside0.mk H
    clear H
    go_upto_region 28 with (fail)
    go_cut [47] (fun v47 wc => ∃ (kq : Nat) (x47_19 : Bool), v47 = .bool x47_19 ∧ Aside0 (vesperref02_FormOf.j1 kq x47_19 = some r) ∧ Aside0 (kq ≤ kj3) ∧ Drawn0 w wc)
    case first =>
     have H := HC20.out
     clear HC20
     by_cases c21 : (wrap64 (Int.tmod a0 16)) = 12
     ·rw [if_pos c21] at H
      have c21b0 : ((wrap64 (Int.tmod a0 16)) == 12) = true := beq_iff_eq.mpr c21
      have c21b1 : ((wrap64 (Int.tmod a0 16)) != 12) = false := bne_eq_false_iff_eq.mpr c21
      clear c21
      (first | rw [c21b0] | (simp only [i64_w, i32_w]; rw [c21b0]) | skip)
      have H' := Aside0.mk H
      clear H
      go_wp2
      go_meet
      case rel => exact ⟨_, (true), rs, H', ⟨by have := HJ3.out; first | omega | exact Nat.le_refl _⟩, by repeat (first | exact Drawn0.refl _ | apply Drawn0.step)⟩
     rw [if_neg c21] at H
     have c21b0 : ((wrap64 (Int.tmod a0 16)) == 12) = false := beq_eq_false_iff_ne.mpr c21
     have c21b1 : ((wrap64 (Int.tmod a0 16)) != 12) = true := bne_iff_ne.mpr c21
     (first | rw [c21b0] | (simp only [i64_w, i32_w]; rw [c21b0]) | skip)
     by_cases c22 : (wrap64 (Int.tmod a0 16)) = 13
     ·rw [if_pos c22] at H
      have c22b0 : ((wrap64 (Int.tmod a0 16)) == 13) = true := beq_iff_eq.mpr c22
      have c22b1 : ((wrap64 (Int.tmod a0 16)) != 13) = false := bne_eq_false_iff_eq.mpr c22
      clear c22
      have H' := Aside0.mk H
      clear H
      go_wp2
      go_meet
      case rel => exact ⟨_, (true), rs, H', ⟨by have := HJ3.out; first | omega | exact Nat.le_refl _⟩, by repeat (first | exact Drawn0.refl _ | apply Drawn0.step)⟩
     rw [if_neg c22] at H
     have c22b0 : ((wrap64 (Int.tmod a0 16)) == 13) = false := beq_eq_false_iff_ne.mpr c22
     have c22b1 : ((wrap64 (Int.tmod a0 16)) != 13) = true := bne_iff_ne.mpr c22
     have H' := Aside0.mk H
     clear H
     go_wp2
     go_meet
     case rel => exact ⟨_, (((wrap64 (Int.tmod a0 16)) == 15)), rs, H', ⟨by have := HJ3.out; first | omega | exact Nat.le_refl _⟩, by repeat (first | exact Drawn0.refl _ | apply Drawn0.step)⟩
    case rest =>
     clear HC20
     clear c15 c15b0 c15b1 c17 c17b0 c17b1 c19b0 c19b1
     obtain ⟨kq, x47_19, rfl, HA, HJ19, ⟨mc19, rfl⟩⟩ := hcut
     cases kq with
     | zero => exact absurd HA.out (by simp [vesperref02_FormOf.j1])
     | succ kj19 =>
      have H := HA.out
      clear HA
      simp only [vesperref02_FormOf.j1] at H
      by_cases c23 : x47_19 = true
      ·subst c23
       have H1 : (some 4) = some r := by rw [if_pos rfl] at H; exact H
       clear H
       have H := H1
       clear H1
       obtain rfl := Option.some.inj H
       go_wp2
       go_ret
       exact ⟨by first | rfl | (simp; done) | (simp [*]; done), by repeat (first | exact Drawn0.refl _ | apply Drawn0.step)⟩
      replace c23 := Bool.eq_false_iff.mpr c23
      subst c23
      have H1 : (some 1) = some r := by rw [if_neg (show ¬ (false = true) by decide)] at H; exact H
      clear H
      have H := H1
      clear H1
      obtain rfl := Option.some.inj H
      go_wp2
      go_ret
      exact ⟨by first | rfl | (simp; done) | (simp [*]; done), by repeat (first | exact Drawn0.refl _ | apply Drawn0.step)⟩
   rw [if_neg c19] at H
   have c19b0 : (((Int.tdiv a0 16) % 256) == 7) = false := beq_eq_false_iff_ne.mpr c19
   have c19b1 : (((Int.tdiv a0 16) % 256) != 7) = true := bne_iff_ne.mpr c19
   by_cases c24 : ((Int.tdiv a0 16) % 256) = 12
   ·rw [if_pos c24] at H
    have c24b0 : (((Int.tdiv a0 16) % 256) == 12) = true := beq_iff_eq.mpr c24
    have c24b1 : (((Int.tdiv a0 16) % 256) != 12) = false := bne_eq_false_iff_eq.mpr c24
    clear c24
    have HC25 := Aside0.mk H
    clear H
    go_upto_region 32 with (fail)
    go_cut [59] (fun v59 wc => ∃ (kq : Nat) (x59_24 : Bool), v59 = .bool x59_24 ∧ Aside0 (vesperref02_FormOf.j2 kq x59_24 = some r) ∧ Aside0 (kq ≤ kj3) ∧ Drawn0 w wc)
    case first =>
     have H := HC25.out
     clear HC25
     by_cases c26 : (wrap64 (Int.tmod a0 16)) ≤ 3
     ·rw [if_pos c26] at H
      have c26b0 : decide ((wrap64 (Int.tmod a0 16)) ≤ 3) = true := decide_eq_true c26
      clear c26
      (first | rw [c26b0] | (simp only [i64_w, i32_w]; rw [c26b0]) | skip)
      have H' := Aside0.mk H
      clear H
      go_wp2
      go_meet
      case rel => exact ⟨_, (true), rs, H', ⟨by have := HJ3.out; first | omega | exact Nat.le_refl _⟩, by repeat (first | exact Drawn0.refl _ | apply Drawn0.step)⟩
     rw [if_neg c26] at H
     have c26b0 : decide ((wrap64 (Int.tmod a0 16)) ≤ 3) = false := decide_eq_false c26
     clear c26
     (first | rw [c26b0] | (simp only [i64_w, i32_w]; rw [c26b0]) | skip)
     by_cases c27 : (wrap64 (Int.tmod a0 16)) ≥ 9
     ·rw [if_pos c27] at H
      have c27b0 : decide (9 ≤ (wrap64 (Int.tmod a0 16))) = true := decide_eq_true c27
      clear c27
      have H' := Aside0.mk H
      clear H
      go_wp2
      go_meet
      case rel => exact ⟨_, (decide ((wrap64 (Int.tmod a0 16)) ≤ 11)), rs, H', ⟨by have := HJ3.out; first | omega | exact Nat.le_refl _⟩, by repeat (first | exact Drawn0.refl _ | apply Drawn0.step)⟩
     rw [if_neg c27] at H
     have c27b0 : decide (9 ≤ (wrap64 (Int.tmod a0 16))) = false := decide_eq_false c27
     clear c27
     have H' := Aside0.mk H
     clear H
     go_wp2
     go_meet
     case rel => exact ⟨_, (false), rs, H', ⟨by have := HJ3.out; first | omega | exact Nat.le_refl _⟩, by repeat (first | exact Drawn0.refl _ | apply Drawn0.step)⟩
    case rest =>
     clear HC25
     clear c15 c15b0 c15b1 c17 c17b0 c17b1 c19 c19b0 c19b1 c24b0 c24b1
     obtain ⟨kq, x59_24, rfl, HA, HJ24, ⟨mc24, rfl⟩⟩ := hcut
     cases kq with
     | zero => exact absurd HA.out (by simp [vesperref02_FormOf.j2])
     | succ kj24 =>
      have H := HA.out
      clear HA
      simp only [vesperref02_FormOf.j2] at H
      by_cases c28 : x59_24 = true
      ·subst c28
       have H1 : (some 6) = some r := by rw [if_pos rfl] at H; exact H
       clear H
       have H := H1
       clear H1
       obtain rfl := Option.some.inj H
       go_wp2
       go_ret
       exact ⟨by first | rfl | (simp; done) | (simp [*]; done), by repeat (first | exact Drawn0.refl _ | apply Drawn0.step)⟩
      replace c28 := Bool.eq_false_iff.mpr c28
      subst c28
      have H1 : (some 1) = some r := by rw [if_neg (show ¬ (false = true) by decide)] at H; exact H
      clear H
      have H := H1
      clear H1
      obtain rfl := Option.some.inj H
      go_wp2
      go_ret
      exact ⟨by first | rfl | (simp; done) | (simp [*]; done), by repeat (first | exact Drawn0.refl _ | apply Drawn0.step)⟩
   rw [if_neg c24] at H
   have c24b0 : (((Int.tdiv a0 16) % 256) == 12) = false := beq_eq_false_iff_ne.mpr c24
   have c24b1 : (((Int.tdiv a0 16) % 256) != 12) = true := bne_iff_ne.mpr c24
   by_cases c29 : (wrap64 (Int.tmod a0 16)) ≥ 8
   ·rw [if_pos c29] at H
    have c29b0 : decide (8 ≤ (wrap64 (Int.tmod a0 16))) = true := decide_eq_true c29
    clear c29
    by_cases c30 : (wrap64 (Int.tmod a0 16)) = 14
    ·rw [if_pos c30] at H
     have c30b0 : ((wrap64 (Int.tmod a0 16)) == 14) = true := beq_iff_eq.mpr c30
     have c30b1 : ((wrap64 (Int.tmod a0 16)) != 14) = false := bne_eq_false_iff_eq.mpr c30
     clear c30
     obtain rfl := Option.some.inj H
     go_wp2
     go_ret
     exact ⟨by first | rfl | (simp; done) | (simp [*]; done), by repeat (first | exact Drawn0.refl _ | apply Drawn0.step)⟩
    rw [if_neg c30] at H
    have c30b0 : ((wrap64 (Int.tmod a0 16)) == 14) = false := beq_eq_false_iff_ne.mpr c30
    have c30b1 : ((wrap64 (Int.tmod a0 16)) != 14) = true := bne_iff_ne.mpr c30
    obtain rfl := Option.some.inj H
    go_wp2
    go_ret
    exact ⟨by first | rfl | (simp; done) | (simp [*]; done), by repeat (first | exact Drawn0.refl _ | apply Drawn0.step)⟩
   rw [if_neg c29] at H
   have c29b0 : decide (8 ≤ (wrap64 (Int.tmod a0 16))) = false := decide_eq_false c29
   clear c29
   obtain rfl := Option.some.inj H
   go_wp2
   go_ret
   exact ⟨by first | rfl | (simp; done) | (simp [*]; done), by repeat (first | exact Drawn0.refl _ | apply Drawn0.step)⟩

/-! ### vesperref02_Bytes: function 42 -/
def vesperref02_Bytes.j0 : Nat → Int → Bool → Option (Int)
 | 0, _, _ => none
 | k + 1, x3, x4 => if x4 = true then (some 2) else (if x3 = 6 then (some 3) else (some 1))
def vesperref02_Bytes.f (k : Nat) (a0 : Int) : Option (Int) := if a0 = 4 then (vesperref02_Bytes.j0 k a0 (a0 == 4)) else (vesperref02_Bytes.j0 k a0 (a0 == 5))
theorem vesperref02_Bytes.mono_l : ∀ k, (∀ y0 y1, LeO (vesperref02_Bytes.j0 k y0 y1) (vesperref02_Bytes.j0 (k + 1) y0 y1))
 | 0 => fun _ _ r h => by simp [vesperref02_Bytes.j0] at h
 | k + 1 => by
  have ih0 := vesperref02_Bytes.mono_l k
  intro y0 y1
  unfold vesperref02_Bytes.j0
  repeat' first
  | (with_reducible exact ih0 _ _)
  | (with_reducible exact LeO.refl _)
  | (with_reducible exact LeO.none _)
  | (with_reducible refine LeO.ite ?_ ?_)
  | (with_reducible refine LeO.bind ?_ (fun _ => ?_))
  | exact ih0 _ _
  | exact LeO.none _
  | refine LeO.ite ?_ ?_
  | refine LeO.bind ?_ (fun _ => ?_)
theorem vesperref02_Bytes.mono : ∀ a0 k, LeO (vesperref02_Bytes.f k a0) (vesperref02_Bytes.f (k + 1) a0) := by
 intro a0 k
 have ih0 := vesperref02_Bytes.mono_l k
 unfold vesperref02_Bytes.f
 repeat' first
  | (with_reducible exact ih0 _ _)
  | (with_reducible exact LeO.refl _)
  | (with_reducible exact LeO.none _)
  | (with_reducible refine LeO.ite ?_ ?_)
  | (with_reducible refine LeO.bind ?_ (fun _ => ?_))
  | exact ih0 _ _
  | exact LeO.none _
  | refine LeO.ite ?_ ?_
  | refine LeO.bind ?_ (fun _ => ?_)
set_option maxHeartbeats 8000000 in
set_option maxRecDepth 100000 in
theorem vesperref02_Bytes.calls (k : Nat) (a0 : Int) (r : Int) (w : World) (h : vesperref02_Bytes.f k a0 = some r) :
 Calls Tryd.prog 42 #[.int .u8 a0] w fun e w' => e = .returned (.int .i64 r) ∧ Drawn0 w w' := by
 have H : (if a0 = 4 then (vesperref02_Bytes.j0 k a0 (a0 == 4)) else (vesperref02_Bytes.j0 k a0 (a0 == 5))) = some r := h
 clear h
 have HC2 := Aside0.mk H
 clear H
 go_enter Tryd.func42, Tryd.ntmps42
 go_upto_if 4 with (fail)
 go_cut [4] (fun v4 wc => ∃ (kq : Nat) (x4_1 : Bool), v4 = .bool x4_1 ∧ Aside0 (vesperref02_Bytes.j0 kq a0 x4_1 = some r) ∧ Aside0 (kq ≤ k) ∧ Drawn0 w wc)
 case first =>
  have H := HC2.out
  clear HC2
  by_cases c3 : a0 = 4
  ·rw [if_pos c3] at H
   have c3b0 : (a0 == 4) = true := beq_iff_eq.mpr c3
   have c3b1 : (a0 != 4) = false := bne_eq_false_iff_eq.mpr c3
   clear c3
   (first | rw [c3b0] | (simp only [i64_w, i32_w]; rw [c3b0]) | skip)
   have H' := Aside0.mk H
   clear H
   go_wp2
   go_meet
   case rel => exact ⟨_, ((a0 == 4)), rs, H', ⟨by first | omega | exact Nat.le_refl _⟩, by repeat (first | exact Drawn0.refl _ | apply Drawn0.step)⟩
  rw [if_neg c3] at H
  have c3b0 : (a0 == 4) = false := beq_eq_false_iff_ne.mpr c3
  have c3b1 : (a0 != 4) = true := bne_iff_ne.mpr c3
  (first | rw [c3b0] | (simp only [i64_w, i32_w]; rw [c3b0]) | skip)
  have H' := Aside0.mk H
  clear H
  go_wp2
  go_meet
  case rel => exact ⟨_, ((a0 == 5)), rs, H', ⟨by first | omega | exact Nat.le_refl _⟩, by repeat (first | exact Drawn0.refl _ | apply Drawn0.step)⟩
 case rest =>
  clear HC2
  obtain ⟨kq, x4_1, rfl, HA, HJ1, ⟨mc1, rfl⟩⟩ := hcut
  cases kq with
  | zero => exact absurd HA.out (by simp [vesperref02_Bytes.j0])
  | succ kj1 =>
   have H := HA.out
   clear HA
   simp only [vesperref02_Bytes.j0] at H
   by_cases c4 : x4_1 = true
   ·subst c4
    have H1 : (some 2) = some r := by rw [if_pos rfl] at H; exact H
    clear H
    have H := H1
    clear H1
    obtain rfl := Option.some.inj H
    go_wp2
    go_ret
    exact ⟨by first | rfl | (simp; done) | (simp [*]; done), by repeat (first | exact Drawn0.refl _ | apply Drawn0.step)⟩
   replace c4 := Bool.eq_false_iff.mpr c4
   subst c4
   have H1 : (if a0 = 6 then (some 3) else (some 1)) = some r := by rw [if_neg (show ¬ (false = true) by decide)] at H; exact H
   clear H
   have H := H1
   clear H1
   by_cases c5 : a0 = 6
   ·rw [if_pos c5] at H
    have c5b0 : (a0 == 6) = true := beq_iff_eq.mpr c5
    have c5b1 : (a0 != 6) = false := bne_eq_false_iff_eq.mpr c5
    clear c5
    obtain rfl := Option.some.inj H
    go_wp2
    go_ret
    exact ⟨by first | rfl | (simp; done) | (simp [*]; done), by repeat (first | exact Drawn0.refl _ | apply Drawn0.step)⟩
   rw [if_neg c5] at H
   have c5b0 : (a0 == 6) = false := beq_eq_false_iff_ne.mpr c5
   have c5b1 : (a0 != 6) = true := bne_iff_ne.mpr c5
   obtain rfl := Option.some.inj H
   go_wp2
   go_ret
   exact ⟨by first | rfl | (simp; done) | (simp [*]; done), by repeat (first | exact Drawn0.refl _ | apply Drawn0.step)⟩

end Go.Proofs.YtbffmfeflcdgbaaDoor.POb
