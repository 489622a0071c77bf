/- Written by a program of this session (gprint.py, over the kit's printer): functions of the seat YtjedbamcjgabpaaDoor and their contracts. No condition but each contract's own. -/
import Derived.Test.YtjedbamcjgabpaaDoorPSox0
namespace Go.Proofs.YtjedbamcjgabpaaDoor.PSo
open Go.RowKit Go.Proofs.YtjedbamcjgabpaaDoorW.PrintWords Go.Proofs.YtjedbamcjgabpaaDoorW.PrintLast Go.Proofs.YtjedbamcjgabpaaDoorW.PrintMore
attribute [local go_sem] max2_int min2_int max_two min_two max_three min_three max_four min_four   -- for this text's walks alone
set_option linter.unusedVariables false
set_option linter.unusedSimpArgs false

/-! ### vesperref02_Bytes: function 75 -/
def vesperref02_Bytes.j0 : Nat → Int → Bool → Option (Int)
 | 0, _, _ => none
 | k + 1, x3, x4 => if x4 = true then (some 2) else (if x3 = 6 then (some 3) else (some 1))
def vesperref02_Bytes.f (k : Nat) (a0 : Int) : Option (Int) := if a0 = 4 then (vesperref02_Bytes.j0 k a0 (a0 == 4)) else (vesperref02_Bytes.j0 k a0 (a0 == 5))
theorem vesperref02_Bytes.mono_l : ∀ k, (∀ y0 y1, LeO (vesperref02_Bytes.j0 k y0 y1) (vesperref02_Bytes.j0 (k + 1) y0 y1))
 | 0 => fun _ _ r h => by simp [vesperref02_Bytes.j0] at h
 | k + 1 => by
  have ih0 := vesperref02_Bytes.mono_l k
  ·intro y0 y1
   unfold vesperref02_Bytes.j0
   repeat' first
   | (with_reducible exact ih0 _ _)
   | (with_reducible exact LeO.refl _)
   | (with_reducible exact LeO.none _)
   | (with_reducible refine LeO.ite ?_ ?_)
   | (with_reducible refine LeO.bind ?_ (fun _ => ?_))
   | exact ih0 _ _
   | exact LeO.none _
   | refine LeO.ite ?_ ?_
   | refine LeO.bind ?_ (fun _ => ?_)
theorem vesperref02_Bytes.mono : ∀ a0 k, LeO (vesperref02_Bytes.f k a0) (vesperref02_Bytes.f (k + 1) a0) := by
 intro a0 k
 have ih0 := vesperref02_Bytes.mono_l k
 unfold vesperref02_Bytes.f
 repeat' first
  | (with_reducible exact ih0 _ _)
  | (with_reducible exact LeO.refl _)
  | (with_reducible exact LeO.none _)
  | (with_reducible refine LeO.ite ?_ ?_)
  | (with_reducible refine LeO.bind ?_ (fun _ => ?_))
  | exact ih0 _ _
  | exact LeO.none _
  | refine LeO.ite ?_ ?_
  | refine LeO.bind ?_ (fun _ => ?_)
set_option maxHeartbeats 8000000 in
set_option maxRecDepth 100000 in
theorem vesperref02_Bytes.calls (k : Nat) (a0 : Int) (r : Int) (w : World) (h : vesperref02_Bytes.f k a0 = some r) :
 Calls Tryd.prog 75 #[.int .u8 a0] w fun e w' => e = .returned (.int .i64 r) ∧ Drawn0 w w' := by
 have H : (if a0 = 4 then (vesperref02_Bytes.j0 k a0 (a0 == 4)) else (vesperref02_Bytes.j0 k a0 (a0 == 5))) = some r := h
 clear h
 have HC2 := Aside0.mk H
 clear H
 go_enter Tryd.func75, Tryd.ntmps75
 go_upto_if 4 with (fail)
 go_cut [4] (fun v4 wc => ∃ (kq : Nat) (x4_1 : Bool), v4 = .bool x4_1 ∧ Aside0 (vesperref02_Bytes.j0 kq a0 x4_1 = some r) ∧ Aside0 (kq ≤ k) ∧ Drawn0 w wc)
 case first =>
  have H := HC2.out
  clear HC2
  by_cases c3 : a0 = 4
  ·rw [if_pos c3] at H
   have c3b0 : (a0 == 4) = true := beq_iff_eq.mpr c3
   have c3b1 : (a0 != 4) = false := bne_eq_false_iff_eq.mpr c3
   clear c3
   (first | rw [c3b0] | (simp only [i64_w, i32_w]; rw [c3b0]) | skip)
   have H' := Aside0.mk H
   clear H
   go_wp2
   go_meet
   case rel => exact ⟨_, ((a0 == 4)), (by first | rfl | (simp; done) | (simp [*]; done)), H', ⟨by first | omega | exact Nat.le_refl _⟩, by repeat (first | exact Drawn0.refl _ | apply Drawn0.step)⟩
  ·rw [if_neg c3] at H
   have c3b0 : (a0 == 4) = false := beq_eq_false_iff_ne.mpr c3
   have c3b1 : (a0 != 4) = true := bne_iff_ne.mpr c3
   (first | rw [c3b0] | (simp only [i64_w, i32_w]; rw [c3b0]) | skip)
   have H' := Aside0.mk H
   clear H
   go_wp2
   go_meet
   case rel => exact ⟨_, ((a0 == 5)), (by first | rfl | (simp; done) | (simp [*]; done)), H', ⟨by first | omega | exact Nat.le_refl _⟩, by repeat (first | exact Drawn0.refl _ | apply Drawn0.step)⟩
 case rest =>
  clear HC2
  try clear p2
  try clear c3
  try clear c3b0
  try clear c3b1
  obtain ⟨kq, x4_1, rfl, HA, HJ1, ⟨mc1, rfl⟩⟩ := hcut
  cases kq with
  | zero => exact absurd HA.out (by simp [vesperref02_Bytes.j0])
  | succ kj1 =>
   have H := HA.out
   clear HA
   simp only [vesperref02_Bytes.j0] at H
   by_cases c4 : x4_1 = true
   ·subst c4
    have H1 : (some 2) = some r := by rw [if_pos rfl] at H; exact H
    clear H
    have H := H1
    clear H1
    obtain rfl := Option.some.inj H
    go_wp2
    go_ret
    exact ⟨by first | rfl | (simp; done) | (simp [*]; done), by repeat (first | exact Drawn0.refl _ | apply Drawn0.step)⟩
   ·replace c4 := Bool.eq_false_iff.mpr c4
    subst c4
    have H1 : (if a0 = 6 then (some 3) else (some 1)) = some r := by rw [if_neg (show ¬ (false = true) by decide)] at H; exact H
    clear H
    have H := H1
    clear H1
    by_cases c5 : a0 = 6
    ·rw [if_pos c5] at H
     have c5b0 : (a0 == 6) = true := beq_iff_eq.mpr c5
     have c5b1 : (a0 != 6) = false := bne_eq_false_iff_eq.mpr c5
     clear c5
     obtain rfl := Option.some.inj H
     go_wp2
     go_ret
     exact ⟨by first | rfl | (simp; done) | (simp [*]; done), by repeat (first | exact Drawn0.refl _ | apply Drawn0.step)⟩
    ·rw [if_neg c5] at H
     have c5b0 : (a0 == 6) = false := beq_eq_false_iff_ne.mpr c5
     have c5b1 : (a0 != 6) = true := bne_iff_ne.mpr c5
     obtain rfl := Option.some.inj H
     go_wp2
     go_ret
     exact ⟨by first | rfl | (simp; done) | (simp [*]; done), by repeat (first | exact Drawn0.refl _ | apply Drawn0.step)⟩
end Go.Proofs.YtjedbamcjgabpaaDoor.PSo
/- Written by a program of this session (gprint.py, over the kit's printer): functions of the seat YtjedbamcjgabpaaDoor and their contracts. No condition but each contract's own. -/
namespace Go.Proofs.YtjedbamcjgabpaaDoor.PSo
open Go.RowKit Go.Proofs.YtjedbamcjgabpaaDoorW.PrintWords Go.Proofs.YtjedbamcjgabpaaDoorW.PrintLast Go.Proofs.YtjedbamcjgabpaaDoorW.PrintMore
attribute [local go_sem] max2_int min2_int max_two min_two max_three min_three max_four min_four   -- for this text's walks alone
set_option linter.unusedVariables false
set_option linter.unusedSimpArgs false

/-! ### vesperref02_names: function 95 -/
def vesperref02_names.f (a0 : Int) : Option (List ByteArray) := if a0 = 0 then (some (([(⟨#[76, 68, 78]⟩ : ByteArray)] : List ByteArray))) else (if a0 = 1 then (some (([(⟨#[73, 78, 67]⟩ : ByteArray)] : List ByteArray))) else (if a0 = 2 then (some (([(⟨#[68, 69, 67]⟩ : ByteArray)] : List ByteArray))) else (if a0 = 3 then (some (([(⟨#[66, 82]⟩ : ByteArray), (⟨#[66, 81]⟩ : ByteArray), (⟨#[66, 90]⟩ : ByteArray), (⟨#[66, 68, 70]⟩ : ByteArray), (⟨#[66, 49]⟩ : ByteArray), (⟨#[66, 50]⟩ : ByteArray), (⟨#[66, 51]⟩ : ByteArray), (⟨#[66, 52]⟩ : ByteArray), (⟨#[83, 75, 80]⟩ : ByteArray), (⟨#[66, 78, 81]⟩ : ByteArray), (⟨#[66, 78, 90]⟩ : ByteArray), (⟨#[66, 78, 70]⟩ : ByteArray), (⟨#[66, 78, 49]⟩ : ByteArray), (⟨#[66, 78, 50]⟩ : ByteArray), (⟨#[66, 78, 51]⟩ : ByteArray), (⟨#[66, 78, 52]⟩ : ByteArray)] : List ByteArray))) else (if a0 = 4 then (some (([(⟨#[76, 68, 65]⟩ : ByteArray)] : List ByteArray))) else (if a0 = 5 then (some (([(⟨#[83, 84, 82]⟩ : ByteArray)] : List ByteArray))) else (if a0 = 6 then (some (([(⟨#[73, 82, 88]⟩ : ByteArray), (⟨#[79, 85, 84]⟩ : ByteArray), (⟨#[79, 85, 84]⟩ : ByteArray), (⟨#[79, 85, 84]⟩ : ByteArray), (⟨#[79, 85, 84]⟩ : ByteArray), (⟨#[79, 85, 84]⟩ : ByteArray), (⟨#[79, 85, 84]⟩ : ByteArray), (⟨#[79, 85, 84]⟩ : ByteArray), (⟨#[78, 85, 76]⟩ : ByteArray), (⟨#[73, 78, 80]⟩ : ByteArray), (⟨#[73, 78, 80]⟩ : ByteArray), (⟨#[73, 78, 80]⟩ : ByteArray), (⟨#[73, 78, 80]⟩ : ByteArray), (⟨#[73, 78, 80]⟩ : ByteArray), (⟨#[73, 78, 80]⟩ : ByteArray), (⟨#[73, 78, 80]⟩ : ByteArray)] : List ByteArray))) else (if a0 = 7 then (some (([(⟨#[82, 69, 84]⟩ : ByteArray), (⟨#[68, 73, 83]⟩ : ByteArray), (⟨#[76, 68, 88, 65]⟩ : ByteArray), (⟨#[83, 84, 88, 68]⟩ : ByteArray), (⟨#[65, 68, 67]⟩ : ByteArray), (⟨#[83, 68, 66]⟩ : ByteArray), (⟨#[83, 72, 82, 67]⟩ : ByteArray), (⟨#[83, 77, 66]⟩ : ByteArray), (⟨#[83, 65, 86]⟩ : ByteArray), (⟨#[77, 65, 82, 75]⟩ : ByteArray), (⟨#[82, 69, 81]⟩ : ByteArray), (⟨#[83, 69, 81]⟩ : ByteArray), (⟨#[65, 68, 67, 73]⟩ : ByteArray), (⟨#[83, 68, 66, 73]⟩ : ByteArray), (⟨#[83, 72, 76, 67]⟩ : ByteArray), (⟨#[83, 77, 66, 73]⟩ : ByteArray)] : List ByteArray))) else (if a0 = 8 then (some (([(⟨#[71, 76, 79]⟩ : ByteArray)] : List ByteArray))) else (if a0 = 9 then (some (([(⟨#[71, 72, 73]⟩ : ByteArray)] : List ByteArray))) else (if a0 = 10 then (some (([(⟨#[80, 76, 79]⟩ : ByteArray)] : List ByteArray))) else (if a0 = 11 then (some (([(⟨#[80, 72, 73]⟩ : ByteArray)] : List ByteArray))) else (if a0 = 12 then (some (([(⟨#[76, 66, 82]⟩ : ByteArray), (⟨#[76, 66, 81]⟩ : ByteArray), (⟨#[76, 66, 90]⟩ : ByteArray), (⟨#[76, 66, 68, 70]⟩ : ByteArray), (⟨#[78, 79, 80]⟩ : ByteArray), (⟨#[76, 83, 78, 81]⟩ : ByteArray), (⟨#[76, 83, 78, 90]⟩ : ByteArray), (⟨#[76, 83, 78, 70]⟩ : ByteArray), (⟨#[76, 83, 75, 80]⟩ : ByteArray), (⟨#[76, 66, 78, 81]⟩ : ByteArray), (⟨#[76, 66, 78, 90]⟩ : ByteArray), (⟨#[76, 66, 78, 70]⟩ : ByteArray), (⟨#[76, 83, 73, 69]⟩ : ByteArray), (⟨#[76, 83, 81]⟩ : ByteArray), (⟨#[76, 83, 90]⟩ : ByteArray), (⟨#[76, 83, 68, 70]⟩ : ByteArray)] : List ByteArray))) else (if a0 = 13 then (some (([(⟨#[83, 69, 80]⟩ : ByteArray)] : List ByteArray))) else (if a0 = 14 then (some (([(⟨#[83, 69, 88]⟩ : ByteArray)] : List ByteArray))) else (some (([(⟨#[76, 68, 88]⟩ : ByteArray), (⟨#[79, 82]⟩ : ByteArray), (⟨#[65, 78, 68]⟩ : ByteArray), (⟨#[88, 79, 82]⟩ : ByteArray), (⟨#[65, 68, 68]⟩ : ByteArray), (⟨#[83, 68]⟩ : ByteArray), (⟨#[83, 72, 82]⟩ : ByteArray), (⟨#[83, 77]⟩ : ByteArray), (⟨#[76, 68, 73]⟩ : ByteArray), (⟨#[79, 82, 73]⟩ : ByteArray), (⟨#[65, 78, 73]⟩ : ByteArray), (⟨#[88, 82, 73]⟩ : ByteArray), (⟨#[65, 68, 73]⟩ : ByteArray), (⟨#[83, 68, 73]⟩ : ByteArray), (⟨#[83, 72, 76]⟩ : ByteArray), (⟨#[83, 77, 73]⟩ : ByteArray)] : List ByteArray)))))))))))))))))
set_option maxHeartbeats 8000000 in
set_option maxRecDepth 100000 in
theorem vesperref02_names.calls (a0 : Int) (r : List ByteArray) (w : World) (h : vesperref02_names.f a0 = some r) :
 Calls Tryd.prog 95 #[.int .i64 a0] w fun e w' => ∃ v0_ : Value, e = .returned (v0_) ∧ Kd.R Kd.string 9 w' w.heap.size (fun _ => True) v0_ r ∧ Below w.heap.size w w' := by
 have HB := Aside0.mk (Below.refl w.heap.size w)
 have H : (if a0 = 0 then (some (([(⟨#[76, 68, 78]⟩ : ByteArray)] : List ByteArray))) else (if a0 = 1 then (some (([(⟨#[73, 78, 67]⟩ : ByteArray)] : List ByteArray))) else (if a0 = 2 then (some (([(⟨#[68, 69, 67]⟩ : ByteArray)] : List ByteArray))) else (if a0 = 3 then (some (([(⟨#[66, 82]⟩ : ByteArray), (⟨#[66, 81]⟩ : ByteArray), (⟨#[66, 90]⟩ : ByteArray), (⟨#[66, 68, 70]⟩ : ByteArray), (⟨#[66, 49]⟩ : ByteArray), (⟨#[66, 50]⟩ : ByteArray), (⟨#[66, 51]⟩ : ByteArray), (⟨#[66, 52]⟩ : ByteArray), (⟨#[83, 75, 80]⟩ : ByteArray), (⟨#[66, 78, 81]⟩ : ByteArray), (⟨#[66, 78, 90]⟩ : ByteArray), (⟨#[66, 78, 70]⟩ : ByteArray), (⟨#[66, 78, 49]⟩ : ByteArray), (⟨#[66, 78, 50]⟩ : ByteArray), (⟨#[66, 78, 51]⟩ : ByteArray), (⟨#[66, 78, 52]⟩ : ByteArray)] : List ByteArray))) else (if a0 = 4 then (some (([(⟨#[76, 68, 65]⟩ : ByteArray)] : List ByteArray))) else (if a0 = 5 then (some (([(⟨#[83, 84, 82]⟩ : ByteArray)] : List ByteArray))) else (if a0 = 6 then (some (([(⟨#[73, 82, 88]⟩ : ByteArray), (⟨#[79, 85, 84]⟩ : ByteArray), (⟨#[79, 85, 84]⟩ : ByteArray), (⟨#[79, 85, 84]⟩ : ByteArray), (⟨#[79, 85, 84]⟩ : ByteArray), (⟨#[79, 85, 84]⟩ : ByteArray), (⟨#[79, 85, 84]⟩ : ByteArray), (⟨#[79, 85, 84]⟩ : ByteArray), (⟨#[78, 85, 76]⟩ : ByteArray), (⟨#[73, 78, 80]⟩ : ByteArray), (⟨#[73, 78, 80]⟩ : ByteArray), (⟨#[73, 78, 80]⟩ : ByteArray), (⟨#[73, 78, 80]⟩ : ByteArray), (⟨#[73, 78, 80]⟩ : ByteArray), (⟨#[73, 78, 80]⟩ : ByteArray), (⟨#[73, 78, 80]⟩ : ByteArray)] : List ByteArray))) else (if a0 = 7 then (some (([(⟨#[82, 69, 84]⟩ : ByteArray), (⟨#[68, 73, 83]⟩ : ByteArray), (⟨#[76, 68, 88, 65]⟩ : ByteArray), (⟨#[83, 84, 88, 68]⟩ : ByteArray), (⟨#[65, 68, 67]⟩ : ByteArray), (⟨#[83, 68, 66]⟩ : ByteArray), (⟨#[83, 72, 82, 67]⟩ : ByteArray), (⟨#[83, 77, 66]⟩ : ByteArray), (⟨#[83, 65, 86]⟩ : ByteArray), (⟨#[77, 65, 82, 75]⟩ : ByteArray), (⟨#[82, 69, 81]⟩ : ByteArray), (⟨#[83, 69, 81]⟩ : ByteArray), (⟨#[65, 68, 67, 73]⟩ : ByteArray), (⟨#[83, 68, 66, 73]⟩ : ByteArray), (⟨#[83, 72, 76, 67]⟩ : ByteArray), (⟨#[83, 77, 66, 73]⟩ : ByteArray)] : List ByteArray))) else (if a0 = 8 then (some (([(⟨#[71, 76, 79]⟩ : ByteArray)] : List ByteArray))) else (if a0 = 9 then (some (([(⟨#[71, 72, 73]⟩ : ByteArray)] : List ByteArray))) else (if a0 = 10 then (some (([(⟨#[80, 76, 79]⟩ : ByteArray)] : List ByteArray))) else (if a0 = 11 then (some (([(⟨#[80, 72, 73]⟩ : ByteArray)] : List ByteArray))) else (if a0 = 12 then (some (([(⟨#[76, 66, 82]⟩ : ByteArray), (⟨#[76, 66, 81]⟩ : ByteArray), (⟨#[76, 66, 90]⟩ : ByteArray), (⟨#[76, 66, 68, 70]⟩ : ByteArray), (⟨#[78, 79, 80]⟩ : ByteArray), (⟨#[76, 83, 78, 81]⟩ : ByteArray), (⟨#[76, 83, 78, 90]⟩ : ByteArray), (⟨#[76, 83, 78, 70]⟩ : ByteArray), (⟨#[76, 83, 75, 80]⟩ : ByteArray), (⟨#[76, 66, 78, 81]⟩ : ByteArray), (⟨#[76, 66, 78, 90]⟩ : ByteArray), (⟨#[76, 66, 78, 70]⟩ : ByteArray), (⟨#[76, 83, 73, 69]⟩ : ByteArray), (⟨#[76, 83, 81]⟩ : ByteArray), (⟨#[76, 83, 90]⟩ : ByteArray), (⟨#[76, 83, 68, 70]⟩ : ByteArray)] : List ByteArray))) else (if a0 = 13 then (some (([(⟨#[83, 69, 80]⟩ : ByteArray)] : List ByteArray))) else (if a0 = 14 then (some (([(⟨#[83, 69, 88]⟩ : ByteArray)] : List ByteArray))) else (some (([(⟨#[76, 68, 88]⟩ : ByteArray), (⟨#[79, 82]⟩ : ByteArray), (⟨#[65, 78, 68]⟩ : ByteArray), (⟨#[88, 79, 82]⟩ : ByteArray), (⟨#[65, 68, 68]⟩ : ByteArray), (⟨#[83, 68]⟩ : ByteArray), (⟨#[83, 72, 82]⟩ : ByteArray), (⟨#[83, 77]⟩ : ByteArray), (⟨#[76, 68, 73]⟩ : ByteArray), (⟨#[79, 82, 73]⟩ : ByteArray), (⟨#[65, 78, 73]⟩ : ByteArray), (⟨#[88, 82, 73]⟩ : ByteArray), (⟨#[65, 68, 73]⟩ : ByteArray), (⟨#[83, 68, 73]⟩ : ByteArray), (⟨#[83, 72, 76]⟩ : ByteArray), (⟨#[83, 77, 73]⟩ : ByteArray)] : List ByteArray)))))))))))))))))) = some r := h
 clear h
 by_cases c2 : a0 = 0
 ·rw [if_pos c2] at H
  have c2b0 : (a0 == 0) = true := beq_iff_eq.mpr c2
  have c2b1 : (a0 != 0) = false := bne_eq_false_iff_eq.mpr c2
  clear c2
  obtain ⟨y218, hy218⟩ : ∃ y_ : List ByteArray, y_ = (([(⟨#[76, 68, 78]⟩ : ByteArray)] : List ByteArray)) := ⟨_, rfl⟩
  replace H : (some y218) = some r := by first | (rw [hy218]; with_reducible exact H) | (have H2_ := (Option.bind_some _ _).symm.trans H; rw [hy218]; with_reducible exact H2_) | (have H2_ := (Option.bind_some _ _).symm.trans H; with_reducible exact H2_) | with_reducible exact H | (rw [hy218]; exact H) | exact H
  have Ny218 := Aside0.mk hy218
  clear hy218
  obtain rfl := Option.some.inj H
  go_enter Tryd.func95, Tryd.ntmps95
  go_wp2_with (first | ((with_reducible refine gate_dst (N := 6) rfl ?_); refine Kd.R_lit Kd.string _ 9 ?hg (N := 6) ?hd (xs := ([(⟨#[76, 68, 78]⟩ : ByteArray)] : List ByteArray)) (inner := [.string (⟨#[76, 68, 78]⟩ : ByteArray)]) (ok := fun _ => True) (okp := fun _ => True) ?hr ?hp (fun _ hk => hk) trivial (Below.refl _ _) (Nat.le_refl _) (by simp) ?_; (case hd => rfl); (case hg => rfl); (case hr => first | (go_simp; done) | (go_simp; rfl)); (case hp => exact (Reps.one (show Kd.M Kd.string _ _ _ (⟨#[76, 68, 78]⟩ : ByteArray) [.string (⟨#[76, 68, 78]⟩ : ByteArray)] from rfl) (Reps.none _ _))); intro v219 w3 ho4 hb hg_ hnew_; clear hg_ hnew_; (first | rw [← Ny218.out] at ho4 | (simp only [Int.reduceToNat] at ho4; rw [← Ny218.out] at ho4)); have n0_ := Aside0.mk (Kd.R_lower ho4 (below_size (by repeat (first | (with_reducible first | exact HB.out | apply below_alloc | apply pw_below_drewN | apply below_drew1) | exact HB.out)))); have n1_ := Aside0.mk (below_step (by repeat (first | (with_reducible first | exact HB.out | apply below_alloc | apply pw_below_drewN | apply below_drew1) | exact HB.out)) hb); clear HB; have HO220 := n0_; have HB := n1_; clear n0_ n1_; clear hb ho4))
  go_ret
  exact ⟨_, by first | rfl | (simp [errW_none, errW_some] <;> rfl) | (simp [*, errW_none, errW_some] <;> rfl), by (with_reducible repeat (first | apply Kd.R_alloc | apply Kd.R_drewN | apply Kd.R_drew)); exact HO220.out, by repeat (first | (with_reducible first | exact HB.out | apply below_alloc | apply pw_below_drewN | apply below_drew1) | exact HB.out)⟩
 ·rw [if_neg c2] at H
  have c2b0 : (a0 == 0) = false := beq_eq_false_iff_ne.mpr c2
  have c2b1 : (a0 != 0) = true := bne_iff_ne.mpr c2
  by_cases c5 : a0 = 1
  ·rw [if_pos c5] at H
   have c5b0 : (a0 == 1) = true := beq_iff_eq.mpr c5
   have c5b1 : (a0 != 1) = false := bne_eq_false_iff_eq.mpr c5
   clear c5
   obtain ⟨y221, hy221⟩ : ∃ y_ : List ByteArray, y_ = (([(⟨#[73, 78, 67]⟩ : ByteArray)] : List ByteArray)) := ⟨_, rfl⟩
   replace H : (some y221) = some r := by first | (rw [hy221]; with_reducible exact H) | (have H2_ := (Option.bind_some _ _).symm.trans H; rw [hy221]; with_reducible exact H2_) | (have H2_ := (Option.bind_some _ _).symm.trans H; with_reducible exact H2_) | with_reducible exact H | (rw [hy221]; exact H) | exact H
   have Ny221 := Aside0.mk hy221
   clear hy221
   obtain rfl := Option.some.inj H
   go_enter Tryd.func95, Tryd.ntmps95
   go_wp2_with (first | ((with_reducible refine gate_dst (N := 9) rfl ?_); refine Kd.R_lit Kd.string _ 9 ?hg (N := 9) ?hd (xs := ([(⟨#[73, 78, 67]⟩ : ByteArray)] : List ByteArray)) (inner := [.string (⟨#[73, 78, 67]⟩ : ByteArray)]) (ok := fun _ => True) (okp := fun _ => True) ?hr ?hp (fun _ hk => hk) trivial (Below.refl _ _) (Nat.le_refl _) (by simp) ?_; (case hd => rfl); (case hg => rfl); (case hr => first | (go_simp; done) | (go_simp; rfl)); (case hp => exact (Reps.one (show Kd.M Kd.string _ _ _ (⟨#[73, 78, 67]⟩ : ByteArray) [.string (⟨#[73, 78, 67]⟩ : ByteArray)] from rfl) (Reps.none _ _))); intro v222 w6 ho7 hb hg_ hnew_; clear hg_ hnew_; (first | rw [← Ny221.out] at ho7 | (simp only [Int.reduceToNat] at ho7; rw [← Ny221.out] at ho7)); have n0_ := Aside0.mk (Kd.R_lower ho7 (below_size (by repeat (first | (with_reducible first | exact HB.out | apply below_alloc | apply pw_below_drewN | apply below_drew1) | exact HB.out)))); have n1_ := Aside0.mk (below_step (by repeat (first | (with_reducible first | exact HB.out | apply below_alloc | apply pw_below_drewN | apply below_drew1) | exact HB.out)) hb); clear HB; have HO223 := n0_; have HB := n1_; clear n0_ n1_; clear hb ho7))
   go_ret
   exact ⟨_, by first | rfl | (simp [errW_none, errW_some] <;> rfl) | (simp [*, errW_none, errW_some] <;> rfl), by (with_reducible repeat (first | apply Kd.R_alloc | apply Kd.R_drewN | apply Kd.R_drew)); exact HO223.out, by repeat (first | (with_reducible first | exact HB.out | apply below_alloc | apply pw_below_drewN | apply below_drew1) | exact HB.out)⟩
  ·rw [if_neg c5] at H
   have c5b0 : (a0 == 1) = false := beq_eq_false_iff_ne.mpr c5
   have c5b1 : (a0 != 1) = true := bne_iff_ne.mpr c5
   by_cases c8 : a0 = 2
   ·rw [if_pos c8] at H
    have c8b0 : (a0 == 2) = true := beq_iff_eq.mpr c8
    have c8b1 : (a0 != 2) = false := bne_eq_false_iff_eq.mpr c8
    clear c8
    obtain ⟨y224, hy224⟩ : ∃ y_ : List ByteArray, y_ = (([(⟨#[68, 69, 67]⟩ : ByteArray)] : List ByteArray)) := ⟨_, rfl⟩
    replace H : (some y224) = some r := by first | (rw [hy224]; with_reducible exact H) | (have H2_ := (Option.bind_some _ _).symm.trans H; rw [hy224]; with_reducible exact H2_) | (have H2_ := (Option.bind_some _ _).symm.trans H; with_reducible exact H2_) | with_reducible exact H | (rw [hy224]; exact H) | exact H
    have Ny224 := Aside0.mk hy224
    clear hy224
    obtain rfl := Option.some.inj H
    go_enter Tryd.func95, Tryd.ntmps95
    go_wp2_with (first | ((with_reducible refine gate_dst (N := 12) rfl ?_); refine Kd.R_lit Kd.string _ 9 ?hg (N := 12) ?hd (xs := ([(⟨#[68, 69, 67]⟩ : ByteArray)] : List ByteArray)) (inner := [.string (⟨#[68, 69, 67]⟩ : ByteArray)]) (ok := fun _ => True) (okp := fun _ => True) ?hr ?hp (fun _ hk => hk) trivial (Below.refl _ _) (Nat.le_refl _) (by simp) ?_; (case hd => rfl); (case hg => rfl); (case hr => first | (go_simp; done) | (go_simp; rfl)); (case hp => exact (Reps.one (show Kd.M Kd.string _ _ _ (⟨#[68, 69, 67]⟩ : ByteArray) [.string (⟨#[68, 69, 67]⟩ : ByteArray)] from rfl) (Reps.none _ _))); intro v225 w9 ho10 hb hg_ hnew_; clear hg_ hnew_; (first | rw [← Ny224.out] at ho10 | (simp only [Int.reduceToNat] at ho10; rw [← Ny224.out] at ho10)); have n0_ := Aside0.mk (Kd.R_lower ho10 (below_size (by repeat (first | (with_reducible first | exact HB.out | apply below_alloc | apply pw_below_drewN | apply below_drew1) | exact HB.out)))); have n1_ := Aside0.mk (below_step (by repeat (first | (with_reducible first | exact HB.out | apply below_alloc | apply pw_below_drewN | apply below_drew1) | exact HB.out)) hb); clear HB; have HO226 := n0_; have HB := n1_; clear n0_ n1_; clear hb ho10))
    go_ret
    exact ⟨_, by first | rfl | (simp [errW_none, errW_some] <;> rfl) | (simp [*, errW_none, errW_some] <;> rfl), by (with_reducible repeat (first | apply Kd.R_alloc | apply Kd.R_drewN | apply Kd.R_drew)); exact HO226.out, by repeat (first | (with_reducible first | exact HB.out | apply below_alloc | apply pw_below_drewN | apply below_drew1) | exact HB.out)⟩
   ·rw [if_neg c8] at H
    have c8b0 : (a0 == 2) = false := beq_eq_false_iff_ne.mpr c8
    have c8b1 : (a0 != 2) = true := bne_iff_ne.mpr c8
    by_cases c11 : a0 = 3
    ·rw [if_pos c11] at H
     have c11b0 : (a0 == 3) = true := beq_iff_eq.mpr c11
     have c11b1 : (a0 != 3) = false := bne_eq_false_iff_eq.mpr c11
     clear c11
     obtain ⟨y227, hy227⟩ : ∃ y_ : List ByteArray, y_ = (([(⟨#[66, 82]⟩ : ByteArray), (⟨#[66, 81]⟩ : ByteArray), (⟨#[66, 90]⟩ : ByteArray), (⟨#[66, 68, 70]⟩ : ByteArray), (⟨#[66, 49]⟩ : ByteArray), (⟨#[66, 50]⟩ : ByteArray), (⟨#[66, 51]⟩ : ByteArray), (⟨#[66, 52]⟩ : ByteArray), (⟨#[83, 75, 80]⟩ : ByteArray), (⟨#[66, 78, 81]⟩ : ByteArray), (⟨#[66, 78, 90]⟩ : ByteArray), (⟨#[66, 78, 70]⟩ : ByteArray), (⟨#[66, 78, 49]⟩ : ByteArray), (⟨#[66, 78, 50]⟩ : ByteArray), (⟨#[66, 78, 51]⟩ : ByteArray), (⟨#[66, 78, 52]⟩ : ByteArray)] : List ByteArray)) := ⟨_, rfl⟩
     replace H : (some y227) = some r := by first | (rw [hy227]; with_reducible exact H) | (have H2_ := (Option.bind_some _ _).symm.trans H; rw [hy227]; with_reducible exact H2_) | (have H2_ := (Option.bind_some _ _).symm.trans H; with_reducible exact H2_) | with_reducible exact H | (rw [hy227]; exact H) | exact H
     have Ny227 := Aside0.mk hy227
     clear hy227
     obtain rfl := Option.some.inj H
     go_enter Tryd.func95, Tryd.ntmps95
     go_wp2_with (first | ((with_reducible refine gate_dst (N := 15) rfl ?_); refine Kd.R_lit Kd.string _ 9 ?hg (N := 15) ?hd (xs := ([(⟨#[66, 82]⟩ : ByteArray), (⟨#[66, 81]⟩ : ByteArray), (⟨#[66, 90]⟩ : ByteArray), (⟨#[66, 68, 70]⟩ : ByteArray), (⟨#[66, 49]⟩ : ByteArray), (⟨#[66, 50]⟩ : ByteArray), (⟨#[66, 51]⟩ : ByteArray), (⟨#[66, 52]⟩ : ByteArray), (⟨#[83, 75, 80]⟩ : ByteArray), (⟨#[66, 78, 81]⟩ : ByteArray), (⟨#[66, 78, 90]⟩ : ByteArray), (⟨#[66, 78, 70]⟩ : ByteArray), (⟨#[66, 78, 49]⟩ : ByteArray), (⟨#[66, 78, 50]⟩ : ByteArray), (⟨#[66, 78, 51]⟩ : ByteArray), (⟨#[66, 78, 52]⟩ : ByteArray)] : List ByteArray)) (inner := [.string (⟨#[66, 82]⟩ : ByteArray), .string (⟨#[66, 81]⟩ : ByteArray), .string (⟨#[66, 90]⟩ : ByteArray), .string (⟨#[66, 68, 70]⟩ : ByteArray), .string (⟨#[66, 49]⟩ : ByteArray), .string (⟨#[66, 50]⟩ : ByteArray), .string (⟨#[66, 51]⟩ : ByteArray), .string (⟨#[66, 52]⟩ : ByteArray), .string (⟨#[83, 75, 80]⟩ : ByteArray), .string (⟨#[66, 78, 81]⟩ : ByteArray), .string (⟨#[66, 78, 90]⟩ : ByteArray), .string (⟨#[66, 78, 70]⟩ : ByteArray), .string (⟨#[66, 78, 49]⟩ : ByteArray), .string (⟨#[66, 78, 50]⟩ : ByteArray), .string (⟨#[66, 78, 51]⟩ : ByteArray), .string (⟨#[66, 78, 52]⟩ : ByteArray)]) (ok := fun _ => True) (okp := fun _ => True) ?hr ?hp (fun _ hk => hk) trivial (Below.refl _ _) (Nat.le_refl _) (by simp) ?_; (case hd => rfl); (case hg => rfl); (case hr => first | (go_simp; done) | (go_simp; rfl)); (case hp => exact (Reps.one (show Kd.M Kd.string _ _ _ (⟨#[66, 82]⟩ : ByteArray) [.string (⟨#[66, 82]⟩ : ByteArray)] from rfl) (Reps.one (show Kd.M Kd.string _ _ _ (⟨#[66, 81]⟩ : ByteArray) [.string (⟨#[66, 81]⟩ : ByteArray)] from rfl) (Reps.one (show Kd.M Kd.string _ _ _ (⟨#[66, 90]⟩ : ByteArray) [.string (⟨#[66, 90]⟩ : ByteArray)] from rfl) (Reps.one (show Kd.M Kd.string _ _ _ (⟨#[66, 68, 70]⟩ : ByteArray) [.string (⟨#[66, 68, 70]⟩ : ByteArray)] from rfl) (Reps.one (show Kd.M Kd.string _ _ _ (⟨#[66, 49]⟩ : ByteArray) [.string (⟨#[66, 49]⟩ : ByteArray)] from rfl) (Reps.one (show Kd.M Kd.string _ _ _ (⟨#[66, 50]⟩ : ByteArray) [.string (⟨#[66, 50]⟩ : ByteArray)] from rfl) (Reps.one (show Kd.M Kd.string _ _ _ (⟨#[66, 51]⟩ : ByteArray) [.string (⟨#[66, 51]⟩ : ByteArray)] from rfl) (Reps.one (show Kd.M Kd.string _ _ _ (⟨#[66, 52]⟩ : ByteArray) [.string (⟨#[66, 52]⟩ : ByteArray)] from rfl) (Reps.one (show Kd.M Kd.string _ _ _ (⟨#[83, 75, 80]⟩ : ByteArray) [.string (⟨#[83, 75, 80]⟩ : ByteArray)] from rfl) (Reps.one (show Kd.M Kd.string _ _ _ (⟨#[66, 78, 81]⟩ : ByteArray) [.string (⟨#[66, 78, 81]⟩ : ByteArray)] from rfl) (Reps.one (show Kd.M Kd.string _ _ _ (⟨#[66, 78, 90]⟩ : ByteArray) [.string (⟨#[66, 78, 90]⟩ : ByteArray)] from rfl) (Reps.one (show Kd.M Kd.string _ _ _ (⟨#[66, 78, 70]⟩ : ByteArray) [.string (⟨#[66, 78, 70]⟩ : ByteArray)] from rfl) (Reps.one (show Kd.M Kd.string _ _ _ (⟨#[66, 78, 49]⟩ : ByteArray) [.string (⟨#[66, 78, 49]⟩ : ByteArray)] from rfl) (Reps.one (show Kd.M Kd.string _ _ _ (⟨#[66, 78, 50]⟩ : ByteArray) [.string (⟨#[66, 78, 50]⟩ : ByteArray)] from rfl) (Reps.one (show Kd.M Kd.string _ _ _ (⟨#[66, 78, 51]⟩ : ByteArray) [.string (⟨#[66, 78, 51]⟩ : ByteArray)] from rfl) (Reps.one (show Kd.M Kd.string _ _ _ (⟨#[66, 78, 52]⟩ : ByteArray) [.string (⟨#[66, 78, 52]⟩ : ByteArray)] from rfl) (Reps.none _ _)))))))))))))))))); intro v228 w12 ho13 hb hg_ hnew_; clear hg_ hnew_; (first | rw [← Ny227.out] at ho13 | (simp only [Int.reduceToNat] at ho13; rw [← Ny227.out] at ho13)); have n0_ := Aside0.mk (Kd.R_lower ho13 (below_size (by repeat (first | (with_reducible first | exact HB.out | apply below_alloc | apply pw_below_drewN | apply below_drew1) | exact HB.out)))); have n1_ := Aside0.mk (below_step (by repeat (first | (with_reducible first | exact HB.out | apply below_alloc | apply pw_below_drewN | apply below_drew1) | exact HB.out)) hb); clear HB; have HO229 := n0_; have HB := n1_; clear n0_ n1_; clear hb ho13))
     go_ret
     exact ⟨_, by first | rfl | (simp [errW_none, errW_some] <;> rfl) | (simp [*, errW_none, errW_some] <;> rfl), by (with_reducible repeat (first | apply Kd.R_alloc | apply Kd.R_drewN | apply Kd.R_drew)); exact HO229.out, by repeat (first | (with_reducible first | exact HB.out | apply below_alloc | apply pw_below_drewN | apply below_drew1) | exact HB.out)⟩
    ·rw [if_neg c11] at H
     have c11b0 : (a0 == 3) = false := beq_eq_false_iff_ne.mpr c11
     have c11b1 : (a0 != 3) = true := bne_iff_ne.mpr c11
     by_cases c14 : a0 = 4
     ·rw [if_pos c14] at H
      have c14b0 : (a0 == 4) = true := beq_iff_eq.mpr c14
      have c14b1 : (a0 != 4) = false := bne_eq_false_iff_eq.mpr c14
      clear c14
      obtain ⟨y230, hy230⟩ : ∃ y_ : List ByteArray, y_ = (([(⟨#[76, 68, 65]⟩ : ByteArray)] : List ByteArray)) := ⟨_, rfl⟩
      replace H : (some y230) = some r := by first | (rw [hy230]; with_reducible exact H) | (have H2_ := (Option.bind_some _ _).symm.trans H; rw [hy230]; with_reducible exact H2_) | (have H2_ := (Option.bind_some _ _).symm.trans H; with_reducible exact H2_) | with_reducible exact H | (rw [hy230]; exact H) | exact H
      have Ny230 := Aside0.mk hy230
      clear hy230
      obtain rfl := Option.some.inj H
      go_enter Tryd.func95, Tryd.ntmps95
      go_wp2_with (first | ((with_reducible refine gate_dst (N := 18) rfl ?_); refine Kd.R_lit Kd.string _ 9 ?hg (N := 18) ?hd (xs := ([(⟨#[76, 68, 65]⟩ : ByteArray)] : List ByteArray)) (inner := [.string (⟨#[76, 68, 65]⟩ : ByteArray)]) (ok := fun _ => True) (okp := fun _ => True) ?hr ?hp (fun _ hk => hk) trivial (Below.refl _ _) (Nat.le_refl _) (by simp) ?_; (case hd => rfl); (case hg => rfl); (case hr => first | (go_simp; done) | (go_simp; rfl)); (case hp => exact (Reps.one (show Kd.M Kd.string _ _ _ (⟨#[76, 68, 65]⟩ : ByteArray) [.string (⟨#[76, 68, 65]⟩ : ByteArray)] from rfl) (Reps.none _ _))); intro v231 w15 ho16 hb hg_ hnew_; clear hg_ hnew_; (first | rw [← Ny230.out] at ho16 | (simp only [Int.reduceToNat] at ho16; rw [← Ny230.out] at ho16)); have n0_ := Aside0.mk (Kd.R_lower ho16 (below_size (by repeat (first | (with_reducible first | exact HB.out | apply below_alloc | apply pw_below_drewN | apply below_drew1) | exact HB.out)))); have n1_ := Aside0.mk (below_step (by repeat (first | (with_reducible first | exact HB.out | apply below_alloc | apply pw_below_drewN | apply below_drew1) | exact HB.out)) hb); clear HB; have HO232 := n0_; have HB := n1_; clear n0_ n1_; clear hb ho16))
      go_ret
      exact ⟨_, by first | rfl | (simp [errW_none, errW_some] <;> rfl) | (simp [*, errW_none, errW_some] <;> rfl), by (with_reducible repeat (first | apply Kd.R_alloc | apply Kd.R_drewN | apply Kd.R_drew)); exact HO232.out, by repeat (first | (with_reducible first | exact HB.out | apply below_alloc | apply pw_below_drewN | apply below_drew1) | exact HB.out)⟩
     ·rw [if_neg c14] at H
      have c14b0 : (a0 == 4) = false := beq_eq_false_iff_ne.mpr c14
      have c14b1 : (a0 != 4) = true := bne_iff_ne.mpr c14
      by_cases c17 : a0 = 5
      ·rw [if_pos c17] at H
       have c17b0 : (a0 == 5) = true := beq_iff_eq.mpr c17
       have c17b1 : (a0 != 5) = false := bne_eq_false_iff_eq.mpr c17
       clear c17
       obtain ⟨y233, hy233⟩ : ∃ y_ : List ByteArray, y_ = (([(⟨#[83, 84, 82]⟩ : ByteArray)] : List ByteArray)) := ⟨_, rfl⟩
       replace H : (some y233) = some r := by first | (rw [hy233]; with_reducible exact H) | (have H2_ := (Option.bind_some _ _).symm.trans H; rw [hy233]; with_reducible exact H2_) | (have H2_ := (Option.bind_some _ _).symm.trans H; with_reducible exact H2_) | with_reducible exact H | (rw [hy233]; exact H) | exact H
       have Ny233 := Aside0.mk hy233
       clear hy233
       obtain rfl := Option.some.inj H
       go_enter Tryd.func95, Tryd.ntmps95
       go_wp2_with (first | ((with_reducible refine gate_dst (N := 21) rfl ?_); refine Kd.R_lit Kd.string _ 9 ?hg (N := 21) ?hd (xs := ([(⟨#[83, 84, 82]⟩ : ByteArray)] : List ByteArray)) (inner := [.string (⟨#[83, 84, 82]⟩ : ByteArray)]) (ok := fun _ => True) (okp := fun _ => True) ?hr ?hp (fun _ hk => hk) trivial (Below.refl _ _) (Nat.le_refl _) (by simp) ?_; (case hd => rfl); (case hg => rfl); (case hr => first | (go_simp; done) | (go_simp; rfl)); (case hp => exact (Reps.one (show Kd.M Kd.string _ _ _ (⟨#[83, 84, 82]⟩ : ByteArray) [.string (⟨#[83, 84, 82]⟩ : ByteArray)] from rfl) (Reps.none _ _))); intro v234 w18 ho19 hb hg_ hnew_; clear hg_ hnew_; (first | rw [← Ny233.out] at ho19 | (simp only [Int.reduceToNat] at ho19; rw [← Ny233.out] at ho19)); have n0_ := Aside0.mk (Kd.R_lower ho19 (below_size (by repeat (first | (with_reducible first | exact HB.out | apply below_alloc | apply pw_below_drewN | apply below_drew1) | exact HB.out)))); have n1_ := Aside0.mk (below_step (by repeat (first | (with_reducible first | exact HB.out | apply below_alloc | apply pw_below_drewN | apply below_drew1) | exact HB.out)) hb); clear HB; have HO235 := n0_; have HB := n1_; clear n0_ n1_; clear hb ho19))
       go_ret
       exact ⟨_, by first | rfl | (simp [errW_none, errW_some] <;> rfl) | (simp [*, errW_none, errW_some] <;> rfl), by (with_reducible repeat (first | apply Kd.R_alloc | apply Kd.R_drewN | apply Kd.R_drew)); exact HO235.out, by repeat (first | (with_reducible first | exact HB.out | apply below_alloc | apply pw_below_drewN | apply below_drew1) | exact HB.out)⟩
      ·rw [if_neg c17] at H
       have c17b0 : (a0 == 5) = false := beq_eq_false_iff_ne.mpr c17
       have c17b1 : (a0 != 5) = true := bne_iff_ne.mpr c17
       by_cases c20 : a0 = 6
       ·rw [if_pos c20] at H
        have c20b0 : (a0 == 6) = true := beq_iff_eq.mpr c20
        have c20b1 : (a0 != 6) = false := bne_eq_false_iff_eq.mpr c20
        clear c20
        obtain ⟨y236, hy236⟩ : ∃ y_ : List ByteArray, y_ = (([(⟨#[73, 82, 88]⟩ : ByteArray), (⟨#[79, 85, 84]⟩ : ByteArray), (⟨#[79, 85, 84]⟩ : ByteArray), (⟨#[79, 85, 84]⟩ : ByteArray), (⟨#[79, 85, 84]⟩ : ByteArray), (⟨#[79, 85, 84]⟩ : ByteArray), (⟨#[79, 85, 84]⟩ : ByteArray), (⟨#[79, 85, 84]⟩ : ByteArray), (⟨#[78, 85, 76]⟩ : ByteArray), (⟨#[73, 78, 80]⟩ : ByteArray), (⟨#[73, 78, 80]⟩ : ByteArray), (⟨#[73, 78, 80]⟩ : ByteArray), (⟨#[73, 78, 80]⟩ : ByteArray), (⟨#[73, 78, 80]⟩ : ByteArray), (⟨#[73, 78, 80]⟩ : ByteArray), (⟨#[73, 78, 80]⟩ : ByteArray)] : List ByteArray)) := ⟨_, rfl⟩
        replace H : (some y236) = some r := by first | (rw [hy236]; with_reducible exact H) | (have H2_ := (Option.bind_some _ _).symm.trans H; rw [hy236]; with_reducible exact H2_) | (have H2_ := (Option.bind_some _ _).symm.trans H; with_reducible exact H2_) | with_reducible exact H | (rw [hy236]; exact H) | exact H
        have Ny236 := Aside0.mk hy236
        clear hy236
        obtain rfl := Option.some.inj H
        go_enter Tryd.func95, Tryd.ntmps95
        go_wp2_with (first | ((with_reducible refine gate_dst (N := 24) rfl ?_); refine Kd.R_lit Kd.string _ 9 ?hg (N := 24) ?hd (xs := ([(⟨#[73, 82, 88]⟩ : ByteArray), (⟨#[79, 85, 84]⟩ : ByteArray), (⟨#[79, 85, 84]⟩ : ByteArray), (⟨#[79, 85, 84]⟩ : ByteArray), (⟨#[79, 85, 84]⟩ : ByteArray), (⟨#[79, 85, 84]⟩ : ByteArray), (⟨#[79, 85, 84]⟩ : ByteArray), (⟨#[79, 85, 84]⟩ : ByteArray), (⟨#[78, 85, 76]⟩ : ByteArray), (⟨#[73, 78, 80]⟩ : ByteArray), (⟨#[73, 78, 80]⟩ : ByteArray), (⟨#[73, 78, 80]⟩ : ByteArray), (⟨#[73, 78, 80]⟩ : ByteArray), (⟨#[73, 78, 80]⟩ : ByteArray), (⟨#[73, 78, 80]⟩ : ByteArray), (⟨#[73, 78, 80]⟩ : ByteArray)] : List ByteArray)) (inner := [.string (⟨#[73, 82, 88]⟩ : ByteArray), .string (⟨#[79, 85, 84]⟩ : ByteArray), .string (⟨#[79, 85, 84]⟩ : ByteArray), .string (⟨#[79, 85, 84]⟩ : ByteArray), .string (⟨#[79, 85, 84]⟩ : ByteArray), .string (⟨#[79, 85, 84]⟩ : ByteArray), .string (⟨#[79, 85, 84]⟩ : ByteArray), .string (⟨#[79, 85, 84]⟩ : ByteArray), .string (⟨#[78, 85, 76]⟩ : ByteArray), .string (⟨#[73, 78, 80]⟩ : ByteArray), .string (⟨#[73, 78, 80]⟩ : ByteArray), .string (⟨#[73, 78, 80]⟩ : ByteArray), .string (⟨#[73, 78, 80]⟩ : ByteArray), .string (⟨#[73, 78, 80]⟩ : ByteArray), .string (⟨#[73, 78, 80]⟩ : ByteArray), .string (⟨#[73, 78, 80]⟩ : ByteArray)]) (ok := fun _ => True) (okp := fun _ => True) ?hr ?hp (fun _ hk => hk) trivial (Below.refl _ _) (Nat.le_refl _) (by simp) ?_; (case hd => rfl); (case hg => rfl); (case hr => first | (go_simp; done) | (go_simp; rfl)); (case hp => exact (Reps.one (show Kd.M Kd.string _ _ _ (⟨#[73, 82, 88]⟩ : ByteArray) [.string (⟨#[73, 82, 88]⟩ : ByteArray)] from rfl) (Reps.one (show Kd.M Kd.string _ _ _ (⟨#[79, 85, 84]⟩ : ByteArray) [.string (⟨#[79, 85, 84]⟩ : ByteArray)] from rfl) (Reps.one (show Kd.M Kd.string _ _ _ (⟨#[79, 85, 84]⟩ : ByteArray) [.string (⟨#[79, 85, 84]⟩ : ByteArray)] from rfl) (Reps.one (show Kd.M Kd.string _ _ _ (⟨#[79, 85, 84]⟩ : ByteArray) [.string (⟨#[79, 85, 84]⟩ : ByteArray)] from rfl) (Reps.one (show Kd.M Kd.string _ _ _ (⟨#[79, 85, 84]⟩ : ByteArray) [.string (⟨#[79, 85, 84]⟩ : ByteArray)] from rfl) (Reps.one (show Kd.M Kd.string _ _ _ (⟨#[79, 85, 84]⟩ : ByteArray) [.string (⟨#[79, 85, 84]⟩ : ByteArray)] from rfl) (Reps.one (show Kd.M Kd.string _ _ _ (⟨#[79, 85, 84]⟩ : ByteArray) [.string (⟨#[79, 85, 84]⟩ : ByteArray)] from rfl) (Reps.one (show Kd.M Kd.string _ _ _ (⟨#[79, 85, 84]⟩ : ByteArray) [.string (⟨#[79, 85, 84]⟩ : ByteArray)] from rfl) (Reps.one (show Kd.M Kd.string _ _ _ (⟨#[78, 85, 76]⟩ : ByteArray) [.string (⟨#[78, 85, 76]⟩ : ByteArray)] from rfl) (Reps.one (show Kd.M Kd.string _ _ _ (⟨#[73, 78, 80]⟩ : ByteArray) [.string (⟨#[73, 78, 80]⟩ : ByteArray)] from rfl) (Reps.one (show Kd.M Kd.string _ _ _ (⟨#[73, 78, 80]⟩ : ByteArray) [.string (⟨#[73, 78, 80]⟩ : ByteArray)] from rfl) (Reps.one (show Kd.M Kd.string _ _ _ (⟨#[73, 78, 80]⟩ : ByteArray) [.string (⟨#[73, 78, 80]⟩ : ByteArray)] from rfl) (Reps.one (show Kd.M Kd.string _ _ _ (⟨#[73, 78, 80]⟩ : ByteArray) [.string (⟨#[73, 78, 80]⟩ : ByteArray)] from rfl) (Reps.one (show Kd.M Kd.string _ _ _ (⟨#[73, 78, 80]⟩ : ByteArray) [.string (⟨#[73, 78, 80]⟩ : ByteArray)] from rfl) (Reps.one (show Kd.M Kd.string _ _ _ (⟨#[73, 78, 80]⟩ : ByteArray) [.string (⟨#[73, 78, 80]⟩ : ByteArray)] from rfl) (Reps.one (show Kd.M Kd.string _ _ _ (⟨#[73, 78, 80]⟩ : ByteArray) [.string (⟨#[73, 78, 80]⟩ : ByteArray)] from rfl) (Reps.none _ _)))))))))))))))))); intro v237 w21 ho22 hb hg_ hnew_; clear hg_ hnew_; (first | rw [← Ny236.out] at ho22 | (simp only [Int.reduceToNat] at ho22; rw [← Ny236.out] at ho22)); have n0_ := Aside0.mk (Kd.R_lower ho22 (below_size (by repeat (first | (with_reducible first | exact HB.out | apply below_alloc | apply pw_below_drewN | apply below_drew1) | exact HB.out)))); have n1_ := Aside0.mk (below_step (by repeat (first | (with_reducible first | exact HB.out | apply below_alloc | apply pw_below_drewN | apply below_drew1) | exact HB.out)) hb); clear HB; have HO238 := n0_; have HB := n1_; clear n0_ n1_; clear hb ho22))
        go_ret
        exact ⟨_, by first | rfl | (simp [errW_none, errW_some] <;> rfl) | (simp [*, errW_none, errW_some] <;> rfl), by (with_reducible repeat (first | apply Kd.R_alloc | apply Kd.R_drewN | apply Kd.R_drew)); exact HO238.out, by repeat (first | (with_reducible first | exact HB.out | apply below_alloc | apply pw_below_drewN | apply below_drew1) | exact HB.out)⟩
       ·rw [if_neg c20] at H
        have c20b0 : (a0 == 6) = false := beq_eq_false_iff_ne.mpr c20
        have c20b1 : (a0 != 6) = true := bne_iff_ne.mpr c20
        by_cases c23 : a0 = 7
        ·rw [if_pos c23] at H
         have c23b0 : (a0 == 7) = true := beq_iff_eq.mpr c23
         have c23b1 : (a0 != 7) = false := bne_eq_false_iff_eq.mpr c23
         clear c23
         obtain ⟨y239, hy239⟩ : ∃ y_ : List ByteArray, y_ = (([(⟨#[82, 69, 84]⟩ : ByteArray), (⟨#[68, 73, 83]⟩ : ByteArray), (⟨#[76, 68, 88, 65]⟩ : ByteArray), (⟨#[83, 84, 88, 68]⟩ : ByteArray), (⟨#[65, 68, 67]⟩ : ByteArray), (⟨#[83, 68, 66]⟩ : ByteArray), (⟨#[83, 72, 82, 67]⟩ : ByteArray), (⟨#[83, 77, 66]⟩ : ByteArray), (⟨#[83, 65, 86]⟩ : ByteArray), (⟨#[77, 65, 82, 75]⟩ : ByteArray), (⟨#[82, 69, 81]⟩ : ByteArray), (⟨#[83, 69, 81]⟩ : ByteArray), (⟨#[65, 68, 67, 73]⟩ : ByteArray), (⟨#[83, 68, 66, 73]⟩ : ByteArray), (⟨#[83, 72, 76, 67]⟩ : ByteArray), (⟨#[83, 77, 66, 73]⟩ : ByteArray)] : List ByteArray)) := ⟨_, rfl⟩
         replace H : (some y239) = some r := by first | (rw [hy239]; with_reducible exact H) | (have H2_ := (Option.bind_some _ _).symm.trans H; rw [hy239]; with_reducible exact H2_) | (have H2_ := (Option.bind_some _ _).symm.trans H; with_reducible exact H2_) | with_reducible exact H | (rw [hy239]; exact H) | exact H
         have Ny239 := Aside0.mk hy239
         clear hy239
         obtain rfl := Option.some.inj H
         go_enter Tryd.func95, Tryd.ntmps95
         go_wp2_with (first | ((with_reducible refine gate_dst (N := 27) rfl ?_); refine Kd.R_lit Kd.string _ 9 ?hg (N := 27) ?hd (xs := ([(⟨#[82, 69, 84]⟩ : ByteArray), (⟨#[68, 73, 83]⟩ : ByteArray), (⟨#[76, 68, 88, 65]⟩ : ByteArray), (⟨#[83, 84, 88, 68]⟩ : ByteArray), (⟨#[65, 68, 67]⟩ : ByteArray), (⟨#[83, 68, 66]⟩ : ByteArray), (⟨#[83, 72, 82, 67]⟩ : ByteArray), (⟨#[83, 77, 66]⟩ : ByteArray), (⟨#[83, 65, 86]⟩ : ByteArray), (⟨#[77, 65, 82, 75]⟩ : ByteArray), (⟨#[82, 69, 81]⟩ : ByteArray), (⟨#[83, 69, 81]⟩ : ByteArray), (⟨#[65, 68, 67, 73]⟩ : ByteArray), (⟨#[83, 68, 66, 73]⟩ : ByteArray), (⟨#[83, 72, 76, 67]⟩ : ByteArray), (⟨#[83, 77, 66, 73]⟩ : ByteArray)] : List ByteArray)) (inner := [.string (⟨#[82, 69, 84]⟩ : ByteArray), .string (⟨#[68, 73, 83]⟩ : ByteArray), .string (⟨#[76, 68, 88, 65]⟩ : ByteArray), .string (⟨#[83, 84, 88, 68]⟩ : ByteArray), .string (⟨#[65, 68, 67]⟩ : ByteArray), .string (⟨#[83, 68, 66]⟩ : ByteArray), .string (⟨#[83, 72, 82, 67]⟩ : ByteArray), .string (⟨#[83, 77, 66]⟩ : ByteArray), .string (⟨#[83, 65, 86]⟩ : ByteArray), .string (⟨#[77, 65, 82, 75]⟩ : ByteArray), .string (⟨#[82, 69, 81]⟩ : ByteArray), .string (⟨#[83, 69, 81]⟩ : ByteArray), .string (⟨#[65, 68, 67, 73]⟩ : ByteArray), .string (⟨#[83, 68, 66, 73]⟩ : ByteArray), .string (⟨#[83, 72, 76, 67]⟩ : ByteArray), .string (⟨#[83, 77, 66, 73]⟩ : ByteArray)]) (ok := fun _ => True) (okp := fun _ => True) ?hr ?hp (fun _ hk => hk) trivial (Below.refl _ _) (Nat.le_refl _) (by simp) ?_; (case hd => rfl); (case hg => rfl); (case hr => first | (go_simp; done) | (go_simp; rfl)); (case hp => exact (Reps.one (show Kd.M Kd.string _ _ _ (⟨#[82, 69, 84]⟩ : ByteArray) [.string (⟨#[82, 69, 84]⟩ : ByteArray)] from rfl) (Reps.one (show Kd.M Kd.string _ _ _ (⟨#[68, 73, 83]⟩ : ByteArray) [.string (⟨#[68, 73, 83]⟩ : ByteArray)] from rfl) (Reps.one (show Kd.M Kd.string _ _ _ (⟨#[76, 68, 88, 65]⟩ : ByteArray) [.string (⟨#[76, 68, 88, 65]⟩ : ByteArray)] from rfl) (Reps.one (show Kd.M Kd.string _ _ _ (⟨#[83, 84, 88, 68]⟩ : ByteArray) [.string (⟨#[83, 84, 88, 68]⟩ : ByteArray)] from rfl) (Reps.one (show Kd.M Kd.string _ _ _ (⟨#[65, 68, 67]⟩ : ByteArray) [.string (⟨#[65, 68, 67]⟩ : ByteArray)] from rfl) (Reps.one (show Kd.M Kd.string _ _ _ (⟨#[83, 68, 66]⟩ : ByteArray) [.string (⟨#[83, 68, 66]⟩ : ByteArray)] from rfl) (Reps.one (show Kd.M Kd.string _ _ _ (⟨#[83, 72, 82, 67]⟩ : ByteArray) [.string (⟨#[83, 72, 82, 67]⟩ : ByteArray)] from rfl) (Reps.one (show Kd.M Kd.string _ _ _ (⟨#[83, 77, 66]⟩ : ByteArray) [.string (⟨#[83, 77, 66]⟩ : ByteArray)] from rfl) (Reps.one (show Kd.M Kd.string _ _ _ (⟨#[83, 65, 86]⟩ : ByteArray) [.string (⟨#[83, 65, 86]⟩ : ByteArray)] from rfl) (Reps.one (show Kd.M Kd.string _ _ _ (⟨#[77, 65, 82, 75]⟩ : ByteArray) [.string (⟨#[77, 65, 82, 75]⟩ : ByteArray)] from rfl) (Reps.one (show Kd.M Kd.string _ _ _ (⟨#[82, 69, 81]⟩ : ByteArray) [.string (⟨#[82, 69, 81]⟩ : ByteArray)] from rfl) (Reps.one (show Kd.M Kd.string _ _ _ (⟨#[83, 69, 81]⟩ : ByteArray) [.string (⟨#[83, 69, 81]⟩ : ByteArray)] from rfl) (Reps.one (show Kd.M Kd.string _ _ _ (⟨#[65, 68, 67, 73]⟩ : ByteArray) [.string (⟨#[65, 68, 67, 73]⟩ : ByteArray)] from rfl) (Reps.one (show Kd.M Kd.string _ _ _ (⟨#[83, 68, 66, 73]⟩ : ByteArray) [.string (⟨#[83, 68, 66, 73]⟩ : ByteArray)] from rfl) (Reps.one (show Kd.M Kd.string _ _ _ (⟨#[83, 72, 76, 67]⟩ : ByteArray) [.string (⟨#[83, 72, 76, 67]⟩ : ByteArray)] from rfl) (Reps.one (show Kd.M Kd.string _ _ _ (⟨#[83, 77, 66, 73]⟩ : ByteArray) [.string (⟨#[83, 77, 66, 73]⟩ : ByteArray)] from rfl) (Reps.none _ _)))))))))))))))))); intro v240 w24 ho25 hb hg_ hnew_; clear hg_ hnew_; (first | rw [← Ny239.out] at ho25 | (simp only [Int.reduceToNat] at ho25; rw [← Ny239.out] at ho25)); have n0_ := Aside0.mk (Kd.R_lower ho25 (below_size (by repeat (first | (with_reducible first | exact HB.out | apply below_alloc | apply pw_below_drewN | apply below_drew1) | exact HB.out)))); have n1_ := Aside0.mk (below_step (by repeat (first | (with_reducible first | exact HB.out | apply below_alloc | apply pw_below_drewN | apply below_drew1) | exact HB.out)) hb); clear HB; have HO241 := n0_; have HB := n1_; clear n0_ n1_; clear hb ho25))
         go_ret
         exact ⟨_, by first | rfl | (simp [errW_none, errW_some] <;> rfl) | (simp [*, errW_none, errW_some] <;> rfl), by (with_reducible repeat (first | apply Kd.R_alloc | apply Kd.R_drewN | apply Kd.R_drew)); exact HO241.out, by repeat (first | (with_reducible first | exact HB.out | apply below_alloc | apply pw_below_drewN | apply below_drew1) | exact HB.out)⟩
        ·rw [if_neg c23] at H
         have c23b0 : (a0 == 7) = false := beq_eq_false_iff_ne.mpr c23
         have c23b1 : (a0 != 7) = true := bne_iff_ne.mpr c23
         by_cases c26 : a0 = 8
         ·rw [if_pos c26] at H
          have c26b0 : (a0 == 8) = true := beq_iff_eq.mpr c26
          have c26b1 : (a0 != 8) = false := bne_eq_false_iff_eq.mpr c26
          clear c26
          obtain ⟨y242, hy242⟩ : ∃ y_ : List ByteArray, y_ = (([(⟨#[71, 76, 79]⟩ : ByteArray)] : List ByteArray)) := ⟨_, rfl⟩
          replace H : (some y242) = some r := by first | (rw [hy242]; with_reducible exact H) | (have H2_ := (Option.bind_some _ _).symm.trans H; rw [hy242]; with_reducible exact H2_) | (have H2_ := (Option.bind_some _ _).symm.trans H; with_reducible exact H2_) | with_reducible exact H | (rw [hy242]; exact H) | exact H
          have Ny242 := Aside0.mk hy242
          clear hy242
          obtain rfl := Option.some.inj H
          go_enter Tryd.func95, Tryd.ntmps95
          go_wp2_with (first | ((with_reducible refine gate_dst (N := 30) rfl ?_); refine Kd.R_lit Kd.string _ 9 ?hg (N := 30) ?hd (xs := ([(⟨#[71, 76, 79]⟩ : ByteArray)] : List ByteArray)) (inner := [.string (⟨#[71, 76, 79]⟩ : ByteArray)]) (ok := fun _ => True) (okp := fun _ => True) ?hr ?hp (fun _ hk => hk) trivial (Below.refl _ _) (Nat.le_refl _) (by simp) ?_; (case hd => rfl); (case hg => rfl); (case hr => first | (go_simp; done) | (go_simp; rfl)); (case hp => exact (Reps.one (show Kd.M Kd.string _ _ _ (⟨#[71, 76, 79]⟩ : ByteArray) [.string (⟨#[71, 76, 79]⟩ : ByteArray)] from rfl) (Reps.none _ _))); intro v243 w27 ho28 hb hg_ hnew_; clear hg_ hnew_; (first | rw [← Ny242.out] at ho28 | (simp only [Int.reduceToNat] at ho28; rw [← Ny242.out] at ho28)); have n0_ := Aside0.mk (Kd.R_lower ho28 (below_size (by repeat (first | (with_reducible first | exact HB.out | apply below_alloc | apply pw_below_drewN | apply below_drew1) | exact HB.out)))); have n1_ := Aside0.mk (below_step (by repeat (first | (with_reducible first | exact HB.out | apply below_alloc | apply pw_below_drewN | apply below_drew1) | exact HB.out)) hb); clear HB; have HO244 := n0_; have HB := n1_; clear n0_ n1_; clear hb ho28))
          go_ret
          exact ⟨_, by first | rfl | (simp [errW_none, errW_some] <;> rfl) | (simp [*, errW_none, errW_some] <;> rfl), by (with_reducible repeat (first | apply Kd.R_alloc | apply Kd.R_drewN | apply Kd.R_drew)); exact HO244.out, by repeat (first | (with_reducible first | exact HB.out | apply below_alloc | apply pw_below_drewN | apply below_drew1) | exact HB.out)⟩
         ·rw [if_neg c26] at H
          have c26b0 : (a0 == 8) = false := beq_eq_false_iff_ne.mpr c26
          have c26b1 : (a0 != 8) = true := bne_iff_ne.mpr c26
          by_cases c29 : a0 = 9
          ·rw [if_pos c29] at H
           have c29b0 : (a0 == 9) = true := beq_iff_eq.mpr c29
           have c29b1 : (a0 != 9) = false := bne_eq_false_iff_eq.mpr c29
           clear c29
           obtain ⟨y245, hy245⟩ : ∃ y_ : List ByteArray, y_ = (([(⟨#[71, 72, 73]⟩ : ByteArray)] : List ByteArray)) := ⟨_, rfl⟩
           replace H : (some y245) = some r := by first | (rw [hy245]; with_reducible exact H) | (have H2_ := (Option.bind_some _ _).symm.trans H; rw [hy245]; with_reducible exact H2_) | (have H2_ := (Option.bind_some _ _).symm.trans H; with_reducible exact H2_) | with_reducible exact H | (rw [hy245]; exact H) | exact H
           have Ny245 := Aside0.mk hy245
           clear hy245
           obtain rfl := Option.some.inj H
           go_enter Tryd.func95, Tryd.ntmps95
           go_wp2_with (first | ((with_reducible refine gate_dst (N := 33) rfl ?_); refine Kd.R_lit Kd.string _ 9 ?hg (N := 33) ?hd (xs := ([(⟨#[71, 72, 73]⟩ : ByteArray)] : List ByteArray)) (inner := [.string (⟨#[71, 72, 73]⟩ : ByteArray)]) (ok := fun _ => True) (okp := fun _ => True) ?hr ?hp (fun _ hk => hk) trivial (Below.refl _ _) (Nat.le_refl _) (by simp) ?_; (case hd => rfl); (case hg => rfl); (case hr => first | (go_simp; done) | (go_simp; rfl)); (case hp => exact (Reps.one (show Kd.M Kd.string _ _ _ (⟨#[71, 72, 73]⟩ : ByteArray) [.string (⟨#[71, 72, 73]⟩ : ByteArray)] from rfl) (Reps.none _ _))); intro v246 w30 ho31 hb hg_ hnew_; clear hg_ hnew_; (first | rw [← Ny245.out] at ho31 | (simp only [Int.reduceToNat] at ho31; rw [← Ny245.out] at ho31)); have n0_ := Aside0.mk (Kd.R_lower ho31 (below_size (by repeat (first | (with_reducible first | exact HB.out | apply below_alloc | apply pw_below_drewN | apply below_drew1) | exact HB.out)))); have n1_ := Aside0.mk (below_step (by repeat (first | (with_reducible first | exact HB.out | apply below_alloc | apply pw_below_drewN | apply below_drew1) | exact HB.out)) hb); clear HB; have HO247 := n0_; have HB := n1_; clear n0_ n1_; clear hb ho31))
           go_ret
           exact ⟨_, by first | rfl | (simp [errW_none, errW_some] <;> rfl) | (simp [*, errW_none, errW_some] <;> rfl), by (with_reducible repeat (first | apply Kd.R_alloc | apply Kd.R_drewN | apply Kd.R_drew)); exact HO247.out, by repeat (first | (with_reducible first | exact HB.out | apply below_alloc | apply pw_below_drewN | apply below_drew1) | exact HB.out)⟩
          ·rw [if_neg c29] at H
           have c29b0 : (a0 == 9) = false := beq_eq_false_iff_ne.mpr c29
           have c29b1 : (a0 != 9) = true := bne_iff_ne.mpr c29
           by_cases c32 : a0 = 10
           ·rw [if_pos c32] at H
            have c32b0 : (a0 == 10) = true := beq_iff_eq.mpr c32
            have c32b1 : (a0 != 10) = false := bne_eq_false_iff_eq.mpr c32
            clear c32
            obtain ⟨y248, hy248⟩ : ∃ y_ : List ByteArray, y_ = (([(⟨#[80, 76, 79]⟩ : ByteArray)] : List ByteArray)) := ⟨_, rfl⟩
            replace H : (some y248) = some r := by first | (rw [hy248]; with_reducible exact H) | (have H2_ := (Option.bind_some _ _).symm.trans H; rw [hy248]; with_reducible exact H2_) | (have H2_ := (Option.bind_some _ _).symm.trans H; with_reducible exact H2_) | with_reducible exact H | (rw [hy248]; exact H) | exact H
            have Ny248 := Aside0.mk hy248
            clear hy248
            obtain rfl := Option.some.inj H
            go_enter Tryd.func95, Tryd.ntmps95
            go_wp2_with (first | ((with_reducible refine gate_dst (N := 36) rfl ?_); refine Kd.R_lit Kd.string _ 9 ?hg (N := 36) ?hd (xs := ([(⟨#[80, 76, 79]⟩ : ByteArray)] : List ByteArray)) (inner := [.string (⟨#[80, 76, 79]⟩ : ByteArray)]) (ok := fun _ => True) (okp := fun _ => True) ?hr ?hp (fun _ hk => hk) trivial (Below.refl _ _) (Nat.le_refl _) (by simp) ?_; (case hd => rfl); (case hg => rfl); (case hr => first | (go_simp; done) | (go_simp; rfl)); (case hp => exact (Reps.one (show Kd.M Kd.string _ _ _ (⟨#[80, 76, 79]⟩ : ByteArray) [.string (⟨#[80, 76, 79]⟩ : ByteArray)] from rfl) (Reps.none _ _))); intro v249 w33 ho34 hb hg_ hnew_; clear hg_ hnew_; (first | rw [← Ny248.out] at ho34 | (simp only [Int.reduceToNat] at ho34; rw [← Ny248.out] at ho34)); have n0_ := Aside0.mk (Kd.R_lower ho34 (below_size (by repeat (first | (with_reducible first | exact HB.out | apply below_alloc | apply pw_below_drewN | apply below_drew1) | exact HB.out)))); have n1_ := Aside0.mk (below_step (by repeat (first | (with_reducible first | exact HB.out | apply below_alloc | apply pw_below_drewN | apply below_drew1) | exact HB.out)) hb); clear HB; have HO250 := n0_; have HB := n1_; clear n0_ n1_; clear hb ho34))
            go_ret
            exact ⟨_, by first | rfl | (simp [errW_none, errW_some] <;> rfl) | (simp [*, errW_none, errW_some] <;> rfl), by (with_reducible repeat (first | apply Kd.R_alloc | apply Kd.R_drewN | apply Kd.R_drew)); exact HO250.out, by repeat (first | (with_reducible first | exact HB.out | apply below_alloc | apply pw_below_drewN | apply below_drew1) | exact HB.out)⟩
           ·rw [if_neg c32] at H
            have c32b0 : (a0 == 10) = false := beq_eq_false_iff_ne.mpr c32
            have c32b1 : (a0 != 10) = true := bne_iff_ne.mpr c32
            by_cases c35 : a0 = 11
            ·rw [if_pos c35] at H
             have c35b0 : (a0 == 11) = true := beq_iff_eq.mpr c35
             have c35b1 : (a0 != 11) = false := bne_eq_false_iff_eq.mpr c35
             clear c35
             obtain ⟨y251, hy251⟩ : ∃ y_ : List ByteArray, y_ = (([(⟨#[80, 72, 73]⟩ : ByteArray)] : List ByteArray)) := ⟨_, rfl⟩
             replace H : (some y251) = some r := by first | (rw [hy251]; with_reducible exact H) | (have H2_ := (Option.bind_some _ _).symm.trans H; rw [hy251]; with_reducible exact H2_) | (have H2_ := (Option.bind_some _ _).symm.trans H; with_reducible exact H2_) | with_reducible exact H | (rw [hy251]; exact H) | exact H
             have Ny251 := Aside0.mk hy251
             clear hy251
             obtain rfl := Option.some.inj H
             go_enter Tryd.func95, Tryd.ntmps95
             go_wp2_with (first | ((with_reducible refine gate_dst (N := 39) rfl ?_); refine Kd.R_lit Kd.string _ 9 ?hg (N := 39) ?hd (xs := ([(⟨#[80, 72, 73]⟩ : ByteArray)] : List ByteArray)) (inner := [.string (⟨#[80, 72, 73]⟩ : ByteArray)]) (ok := fun _ => True) (okp := fun _ => True) ?hr ?hp (fun _ hk => hk) trivial (Below.refl _ _) (Nat.le_refl _) (by simp) ?_; (case hd => rfl); (case hg => rfl); (case hr => first | (go_simp; done) | (go_simp; rfl)); (case hp => exact (Reps.one (show Kd.M Kd.string _ _ _ (⟨#[80, 72, 73]⟩ : ByteArray) [.string (⟨#[80, 72, 73]⟩ : ByteArray)] from rfl) (Reps.none _ _))); intro v252 w36 ho37 hb hg_ hnew_; clear hg_ hnew_; (first | rw [← Ny251.out] at ho37 | (simp only [Int.reduceToNat] at ho37; rw [← Ny251.out] at ho37)); have n0_ := Aside0.mk (Kd.R_lower ho37 (below_size (by repeat (first | (with_reducible first | exact HB.out | apply below_alloc | apply pw_below_drewN | apply below_drew1) | exact HB.out)))); have n1_ := Aside0.mk (below_step (by repeat (first | (with_reducible first | exact HB.out | apply below_alloc | apply pw_below_drewN | apply below_drew1) | exact HB.out)) hb); clear HB; have HO253 := n0_; have HB := n1_; clear n0_ n1_; clear hb ho37))
             go_ret
             exact ⟨_, by first | rfl | (simp [errW_none, errW_some] <;> rfl) | (simp [*, errW_none, errW_some] <;> rfl), by (with_reducible repeat (first | apply Kd.R_alloc | apply Kd.R_drewN | apply Kd.R_drew)); exact HO253.out, by repeat (first | (with_reducible first | exact HB.out | apply below_alloc | apply pw_below_drewN | apply below_drew1) | exact HB.out)⟩
            ·rw [if_neg c35] at H
             have c35b0 : (a0 == 11) = false := beq_eq_false_iff_ne.mpr c35
             have c35b1 : (a0 != 11) = true := bne_iff_ne.mpr c35
             by_cases c38 : a0 = 12
             ·rw [if_pos c38] at H
              have c38b0 : (a0 == 12) = true := beq_iff_eq.mpr c38
              have c38b1 : (a0 != 12) = false := bne_eq_false_iff_eq.mpr c38
              clear c38
              obtain ⟨y254, hy254⟩ : ∃ y_ : List ByteArray, y_ = (([(⟨#[76, 66, 82]⟩ : ByteArray), (⟨#[76, 66, 81]⟩ : ByteArray), (⟨#[76, 66, 90]⟩ : ByteArray), (⟨#[76, 66, 68, 70]⟩ : ByteArray), (⟨#[78, 79, 80]⟩ : ByteArray), (⟨#[76, 83, 78, 81]⟩ : ByteArray), (⟨#[76, 83, 78, 90]⟩ : ByteArray), (⟨#[76, 83, 78, 70]⟩ : ByteArray), (⟨#[76, 83, 75, 80]⟩ : ByteArray), (⟨#[76, 66, 78, 81]⟩ : ByteArray), (⟨#[76, 66, 78, 90]⟩ : ByteArray), (⟨#[76, 66, 78, 70]⟩ : ByteArray), (⟨#[76, 83, 73, 69]⟩ : ByteArray), (⟨#[76, 83, 81]⟩ : ByteArray), (⟨#[76, 83, 90]⟩ : ByteArray), (⟨#[76, 83, 68, 70]⟩ : ByteArray)] : List ByteArray)) := ⟨_, rfl⟩
              replace H : (some y254) = some r := by first | (rw [hy254]; with_reducible exact H) | (have H2_ := (Option.bind_some _ _).symm.trans H; rw [hy254]; with_reducible exact H2_) | (have H2_ := (Option.bind_some _ _).symm.trans H; with_reducible exact H2_) | with_reducible exact H | (rw [hy254]; exact H) | exact H
              have Ny254 := Aside0.mk hy254
              clear hy254
              obtain rfl := Option.some.inj H
              go_enter Tryd.func95, Tryd.ntmps95
              go_wp2_with (first | ((with_reducible refine gate_dst (N := 42) rfl ?_); refine Kd.R_lit Kd.string _ 9 ?hg (N := 42) ?hd (xs := ([(⟨#[76, 66, 82]⟩ : ByteArray), (⟨#[76, 66, 81]⟩ : ByteArray), (⟨#[76, 66, 90]⟩ : ByteArray), (⟨#[76, 66, 68, 70]⟩ : ByteArray), (⟨#[78, 79, 80]⟩ : ByteArray), (⟨#[76, 83, 78, 81]⟩ : ByteArray), (⟨#[76, 83, 78, 90]⟩ : ByteArray), (⟨#[76, 83, 78, 70]⟩ : ByteArray), (⟨#[76, 83, 75, 80]⟩ : ByteArray), (⟨#[76, 66, 78, 81]⟩ : ByteArray), (⟨#[76, 66, 78, 90]⟩ : ByteArray), (⟨#[76, 66, 78, 70]⟩ : ByteArray), (⟨#[76, 83, 73, 69]⟩ : ByteArray), (⟨#[76, 83, 81]⟩ : ByteArray), (⟨#[76, 83, 90]⟩ : ByteArray), (⟨#[76, 83, 68, 70]⟩ : ByteArray)] : List ByteArray)) (inner := [.string (⟨#[76, 66, 82]⟩ : ByteArray), .string (⟨#[76, 66, 81]⟩ : ByteArray), .string (⟨#[76, 66, 90]⟩ : ByteArray), .string (⟨#[76, 66, 68, 70]⟩ : ByteArray), .string (⟨#[78, 79, 80]⟩ : ByteArray), .string (⟨#[76, 83, 78, 81]⟩ : ByteArray), .string (⟨#[76, 83, 78, 90]⟩ : ByteArray), .string (⟨#[76, 83, 78, 70]⟩ : ByteArray), .string (⟨#[76, 83, 75, 80]⟩ : ByteArray), .string (⟨#[76, 66, 78, 81]⟩ : ByteArray), .string (⟨#[76, 66, 78, 90]⟩ : ByteArray), .string (⟨#[76, 66, 78, 70]⟩ : ByteArray), .string (⟨#[76, 83, 73, 69]⟩ : ByteArray), .string (⟨#[76, 83, 81]⟩ : ByteArray), .string (⟨#[76, 83, 90]⟩ : ByteArray), .string (⟨#[76, 83, 68, 70]⟩ : ByteArray)]) (ok := fun _ => True) (okp := fun _ => True) ?hr ?hp (fun _ hk => hk) trivial (Below.refl _ _) (Nat.le_refl _) (by simp) ?_; (case hd => rfl); (case hg => rfl); (case hr => first | (go_simp; done) | (go_simp; rfl)); (case hp => exact (Reps.one (show Kd.M Kd.string _ _ _ (⟨#[76, 66, 82]⟩ : ByteArray) [.string (⟨#[76, 66, 82]⟩ : ByteArray)] from rfl) (Reps.one (show Kd.M Kd.string _ _ _ (⟨#[76, 66, 81]⟩ : ByteArray) [.string (⟨#[76, 66, 81]⟩ : ByteArray)] from rfl) (Reps.one (show Kd.M Kd.string _ _ _ (⟨#[76, 66, 90]⟩ : ByteArray) [.string (⟨#[76, 66, 90]⟩ : ByteArray)] from rfl) (Reps.one (show Kd.M Kd.string _ _ _ (⟨#[76, 66, 68, 70]⟩ : ByteArray) [.string (⟨#[76, 66, 68, 70]⟩ : ByteArray)] from rfl) (Reps.one (show Kd.M Kd.string _ _ _ (⟨#[78, 79, 80]⟩ : ByteArray) [.string (⟨#[78, 79, 80]⟩ : ByteArray)] from rfl) (Reps.one (show Kd.M Kd.string _ _ _ (⟨#[76, 83, 78, 81]⟩ : ByteArray) [.string (⟨#[76, 83, 78, 81]⟩ : ByteArray)] from rfl) (Reps.one (show Kd.M Kd.string _ _ _ (⟨#[76, 83, 78, 90]⟩ : ByteArray) [.string (⟨#[76, 83, 78, 90]⟩ : ByteArray)] from rfl) (Reps.one (show Kd.M Kd.string _ _ _ (⟨#[76, 83, 78, 70]⟩ : ByteArray) [.string (⟨#[76, 83, 78, 70]⟩ : ByteArray)] from rfl) (Reps.one (show Kd.M Kd.string _ _ _ (⟨#[76, 83, 75, 80]⟩ : ByteArray) [.string (⟨#[76, 83, 75, 80]⟩ : ByteArray)] from rfl) (Reps.one (show Kd.M Kd.string _ _ _ (⟨#[76, 66, 78, 81]⟩ : ByteArray) [.string (⟨#[76, 66, 78, 81]⟩ : ByteArray)] from rfl) (Reps.one (show Kd.M Kd.string _ _ _ (⟨#[76, 66, 78, 90]⟩ : ByteArray) [.string (⟨#[76, 66, 78, 90]⟩ : ByteArray)] from rfl) (Reps.one (show Kd.M Kd.string _ _ _ (⟨#[76, 66, 78, 70]⟩ : ByteArray) [.string (⟨#[76, 66, 78, 70]⟩ : ByteArray)] from rfl) (Reps.one (show Kd.M Kd.string _ _ _ (⟨#[76, 83, 73, 69]⟩ : ByteArray) [.string (⟨#[76, 83, 73, 69]⟩ : ByteArray)] from rfl) (Reps.one (show Kd.M Kd.string _ _ _ (⟨#[76, 83, 81]⟩ : ByteArray) [.string (⟨#[76, 83, 81]⟩ : ByteArray)] from rfl) (Reps.one (show Kd.M Kd.string _ _ _ (⟨#[76, 83, 90]⟩ : ByteArray) [.string (⟨#[76, 83, 90]⟩ : ByteArray)] from rfl) (Reps.one (show Kd.M Kd.string _ _ _ (⟨#[76, 83, 68, 70]⟩ : ByteArray) [.string (⟨#[76, 83, 68, 70]⟩ : ByteArray)] from rfl) (Reps.none _ _)))))))))))))))))); intro v255 w39 ho40 hb hg_ hnew_; clear hg_ hnew_; (first | rw [← Ny254.out] at ho40 | (simp only [Int.reduceToNat] at ho40; rw [← Ny254.out] at ho40)); have n0_ := Aside0.mk (Kd.R_lower ho40 (below_size (by repeat (first | (with_reducible first | exact HB.out | apply below_alloc | apply pw_below_drewN | apply below_drew1) | exact HB.out)))); have n1_ := Aside0.mk (below_step (by repeat (first | (with_reducible first | exact HB.out | apply below_alloc | apply pw_below_drewN | apply below_drew1) | exact HB.out)) hb); clear HB; have HO256 := n0_; have HB := n1_; clear n0_ n1_; clear hb ho40))
              go_ret
              exact ⟨_, by first | rfl | (simp [errW_none, errW_some] <;> rfl) | (simp [*, errW_none, errW_some] <;> rfl), by (with_reducible repeat (first | apply Kd.R_alloc | apply Kd.R_drewN | apply Kd.R_drew)); exact HO256.out, by repeat (first | (with_reducible first | exact HB.out | apply below_alloc | apply pw_below_drewN | apply below_drew1) | exact HB.out)⟩
             ·rw [if_neg c38] at H
              have c38b0 : (a0 == 12) = false := beq_eq_false_iff_ne.mpr c38
              have c38b1 : (a0 != 12) = true := bne_iff_ne.mpr c38
              by_cases c41 : a0 = 13
              ·rw [if_pos c41] at H
               have c41b0 : (a0 == 13) = true := beq_iff_eq.mpr c41
               have c41b1 : (a0 != 13) = false := bne_eq_false_iff_eq.mpr c41
               clear c41
               obtain ⟨y257, hy257⟩ : ∃ y_ : List ByteArray, y_ = (([(⟨#[83, 69, 80]⟩ : ByteArray)] : List ByteArray)) := ⟨_, rfl⟩
               replace H : (some y257) = some r := by first | (rw [hy257]; with_reducible exact H) | (have H2_ := (Option.bind_some _ _).symm.trans H; rw [hy257]; with_reducible exact H2_) | (have H2_ := (Option.bind_some _ _).symm.trans H; with_reducible exact H2_) | with_reducible exact H | (rw [hy257]; exact H) | exact H
               have Ny257 := Aside0.mk hy257
               clear hy257
               obtain rfl := Option.some.inj H
               go_enter Tryd.func95, Tryd.ntmps95
               go_wp2_with (first | ((with_reducible refine gate_dst (N := 45) rfl ?_); refine Kd.R_lit Kd.string _ 9 ?hg (N := 45) ?hd (xs := ([(⟨#[83, 69, 80]⟩ : ByteArray)] : List ByteArray)) (inner := [.string (⟨#[83, 69, 80]⟩ : ByteArray)]) (ok := fun _ => True) (okp := fun _ => True) ?hr ?hp (fun _ hk => hk) trivial (Below.refl _ _) (Nat.le_refl _) (by simp) ?_; (case hd => rfl); (case hg => rfl); (case hr => first | (go_simp; done) | (go_simp; rfl)); (case hp => exact (Reps.one (show Kd.M Kd.string _ _ _ (⟨#[83, 69, 80]⟩ : ByteArray) [.string (⟨#[83, 69, 80]⟩ : ByteArray)] from rfl) (Reps.none _ _))); intro v258 w42 ho43 hb hg_ hnew_; clear hg_ hnew_; (first | rw [← Ny257.out] at ho43 | (simp only [Int.reduceToNat] at ho43; rw [← Ny257.out] at ho43)); have n0_ := Aside0.mk (Kd.R_lower ho43 (below_size (by repeat (first | (with_reducible first | exact HB.out | apply below_alloc | apply pw_below_drewN | apply below_drew1) | exact HB.out)))); have n1_ := Aside0.mk (below_step (by repeat (first | (with_reducible first | exact HB.out | apply below_alloc | apply pw_below_drewN | apply below_drew1) | exact HB.out)) hb); clear HB; have HO259 := n0_; have HB := n1_; clear n0_ n1_; clear hb ho43))
               go_ret
               exact ⟨_, by first | rfl | (simp [errW_none, errW_some] <;> rfl) | (simp [*, errW_none, errW_some] <;> rfl), by (with_reducible repeat (first | apply Kd.R_alloc | apply Kd.R_drewN | apply Kd.R_drew)); exact HO259.out, by repeat (first | (with_reducible first | exact HB.out | apply below_alloc | apply pw_below_drewN | apply below_drew1) | exact HB.out)⟩
              ·rw [if_neg c41] at H
               have c41b0 : (a0 == 13) = false := beq_eq_false_iff_ne.mpr c41
               have c41b1 : (a0 != 13) = true := bne_iff_ne.mpr c41
               by_cases c44 : a0 = 14
               ·rw [if_pos c44] at H
                have c44b0 : (a0 == 14) = true := beq_iff_eq.mpr c44
                have c44b1 : (a0 != 14) = false := bne_eq_false_iff_eq.mpr c44
                clear c44
                obtain ⟨y260, hy260⟩ : ∃ y_ : List ByteArray, y_ = (([(⟨#[83, 69, 88]⟩ : ByteArray)] : List ByteArray)) := ⟨_, rfl⟩
                replace H : (some y260) = some r := by first | (rw [hy260]; with_reducible exact H) | (have H2_ := (Option.bind_some _ _).symm.trans H; rw [hy260]; with_reducible exact H2_) | (have H2_ := (Option.bind_some _ _).symm.trans H; with_reducible exact H2_) | with_reducible exact H | (rw [hy260]; exact H) | exact H
                have Ny260 := Aside0.mk hy260
                clear hy260
                obtain rfl := Option.some.inj H
                go_enter Tryd.func95, Tryd.ntmps95
                go_wp2_with (first | ((with_reducible refine gate_dst (N := 48) rfl ?_); refine Kd.R_lit Kd.string _ 9 ?hg (N := 48) ?hd (xs := ([(⟨#[83, 69, 88]⟩ : ByteArray)] : List ByteArray)) (inner := [.string (⟨#[83, 69, 88]⟩ : ByteArray)]) (ok := fun _ => True) (okp := fun _ => True) ?hr ?hp (fun _ hk => hk) trivial (Below.refl _ _) (Nat.le_refl _) (by simp) ?_; (case hd => rfl); (case hg => rfl); (case hr => first | (go_simp; done) | (go_simp; rfl)); (case hp => exact (Reps.one (show Kd.M Kd.string _ _ _ (⟨#[83, 69, 88]⟩ : ByteArray) [.string (⟨#[83, 69, 88]⟩ : ByteArray)] from rfl) (Reps.none _ _))); intro v261 w45 ho46 hb hg_ hnew_; clear hg_ hnew_; (first | rw [← Ny260.out] at ho46 | (simp only [Int.reduceToNat] at ho46; rw [← Ny260.out] at ho46)); have n0_ := Aside0.mk (Kd.R_lower ho46 (below_size (by repeat (first | (with_reducible first | exact HB.out | apply below_alloc | apply pw_below_drewN | apply below_drew1) | exact HB.out)))); have n1_ := Aside0.mk (below_step (by repeat (first | (with_reducible first | exact HB.out | apply below_alloc | apply pw_below_drewN | apply below_drew1) | exact HB.out)) hb); clear HB; have HO262 := n0_; have HB := n1_; clear n0_ n1_; clear hb ho46))
                go_ret
                exact ⟨_, by first | rfl | (simp [errW_none, errW_some] <;> rfl) | (simp [*, errW_none, errW_some] <;> rfl), by (with_reducible repeat (first | apply Kd.R_alloc | apply Kd.R_drewN | apply Kd.R_drew)); exact HO262.out, by repeat (first | (with_reducible first | exact HB.out | apply below_alloc | apply pw_below_drewN | apply below_drew1) | exact HB.out)⟩
               ·rw [if_neg c44] at H
                have c44b0 : (a0 == 14) = false := beq_eq_false_iff_ne.mpr c44
                have c44b1 : (a0 != 14) = true := bne_iff_ne.mpr c44
                obtain ⟨y263, hy263⟩ : ∃ y_ : List ByteArray, y_ = (([(⟨#[76, 68, 88]⟩ : ByteArray), (⟨#[79, 82]⟩ : ByteArray), (⟨#[65, 78, 68]⟩ : ByteArray), (⟨#[88, 79, 82]⟩ : ByteArray), (⟨#[65, 68, 68]⟩ : ByteArray), (⟨#[83, 68]⟩ : ByteArray), (⟨#[83, 72, 82]⟩ : ByteArray), (⟨#[83, 77]⟩ : ByteArray), (⟨#[76, 68, 73]⟩ : ByteArray), (⟨#[79, 82, 73]⟩ : ByteArray), (⟨#[65, 78, 73]⟩ : ByteArray), (⟨#[88, 82, 73]⟩ : ByteArray), (⟨#[65, 68, 73]⟩ : ByteArray), (⟨#[83, 68, 73]⟩ : ByteArray), (⟨#[83, 72, 76]⟩ : ByteArray), (⟨#[83, 77, 73]⟩ : ByteArray)] : List ByteArray)) := ⟨_, rfl⟩
                replace H : (some y263) = some r := by first | (rw [hy263]; with_reducible exact H) | (have H2_ := (Option.bind_some _ _).symm.trans H; rw [hy263]; with_reducible exact H2_) | (have H2_ := (Option.bind_some _ _).symm.trans H; with_reducible exact H2_) | with_reducible exact H | (rw [hy263]; exact H) | exact H
                have Ny263 := Aside0.mk hy263
                clear hy263
                obtain rfl := Option.some.inj H
                go_enter Tryd.func95, Tryd.ntmps95
                go_wp2_with (first | ((with_reducible refine gate_dst (N := 49) rfl ?_); refine Kd.R_lit Kd.string _ 9 ?hg (N := 49) ?hd (xs := ([(⟨#[76, 68, 88]⟩ : ByteArray), (⟨#[79, 82]⟩ : ByteArray), (⟨#[65, 78, 68]⟩ : ByteArray), (⟨#[88, 79, 82]⟩ : ByteArray), (⟨#[65, 68, 68]⟩ : ByteArray), (⟨#[83, 68]⟩ : ByteArray), (⟨#[83, 72, 82]⟩ : ByteArray), (⟨#[83, 77]⟩ : ByteArray), (⟨#[76, 68, 73]⟩ : ByteArray), (⟨#[79, 82, 73]⟩ : ByteArray), (⟨#[65, 78, 73]⟩ : ByteArray), (⟨#[88, 82, 73]⟩ : ByteArray), (⟨#[65, 68, 73]⟩ : ByteArray), (⟨#[83, 68, 73]⟩ : ByteArray), (⟨#[83, 72, 76]⟩ : ByteArray), (⟨#[83, 77, 73]⟩ : ByteArray)] : List ByteArray)) (inner := [.string (⟨#[76, 68, 88]⟩ : ByteArray), .string (⟨#[79, 82]⟩ : ByteArray), .string (⟨#[65, 78, 68]⟩ : ByteArray), .string (⟨#[88, 79, 82]⟩ : ByteArray), .string (⟨#[65, 68, 68]⟩ : ByteArray), .string (⟨#[83, 68]⟩ : ByteArray), .string (⟨#[83, 72, 82]⟩ : ByteArray), .string (⟨#[83, 77]⟩ : ByteArray), .string (⟨#[76, 68, 73]⟩ : ByteArray), .string (⟨#[79, 82, 73]⟩ : ByteArray), .string (⟨#[65, 78, 73]⟩ : ByteArray), .string (⟨#[88, 82, 73]⟩ : ByteArray), .string (⟨#[65, 68, 73]⟩ : ByteArray), .string (⟨#[83, 68, 73]⟩ : ByteArray), .string (⟨#[83, 72, 76]⟩ : ByteArray), .string (⟨#[83, 77, 73]⟩ : ByteArray)]) (ok := fun _ => True) (okp := fun _ => True) ?hr ?hp (fun _ hk => hk) trivial (Below.refl _ _) (Nat.le_refl _) (by simp) ?_; (case hd => rfl); (case hg => rfl); (case hr => first | (go_simp; done) | (go_simp; rfl)); (case hp => exact (Reps.one (show Kd.M Kd.string _ _ _ (⟨#[76, 68, 88]⟩ : ByteArray) [.string (⟨#[76, 68, 88]⟩ : ByteArray)] from rfl) (Reps.one (show Kd.M Kd.string _ _ _ (⟨#[79, 82]⟩ : ByteArray) [.string (⟨#[79, 82]⟩ : ByteArray)] from rfl) (Reps.one (show Kd.M Kd.string _ _ _ (⟨#[65, 78, 68]⟩ : ByteArray) [.string (⟨#[65, 78, 68]⟩ : ByteArray)] from rfl) (Reps.one (show Kd.M Kd.string _ _ _ (⟨#[88, 79, 82]⟩ : ByteArray) [.string (⟨#[88, 79, 82]⟩ : ByteArray)] from rfl) (Reps.one (show Kd.M Kd.string _ _ _ (⟨#[65, 68, 68]⟩ : ByteArray) [.string (⟨#[65, 68, 68]⟩ : ByteArray)] from rfl) (Reps.one (show Kd.M Kd.string _ _ _ (⟨#[83, 68]⟩ : ByteArray) [.string (⟨#[83, 68]⟩ : ByteArray)] from rfl) (Reps.one (show Kd.M Kd.string _ _ _ (⟨#[83, 72, 82]⟩ : ByteArray) [.string (⟨#[83, 72, 82]⟩ : ByteArray)] from rfl) (Reps.one (show Kd.M Kd.string _ _ _ (⟨#[83, 77]⟩ : ByteArray) [.string (⟨#[83, 77]⟩ : ByteArray)] from rfl) (Reps.one (show Kd.M Kd.string _ _ _ (⟨#[76, 68, 73]⟩ : ByteArray) [.string (⟨#[76, 68, 73]⟩ : ByteArray)] from rfl) (Reps.one (show Kd.M Kd.string _ _ _ (⟨#[79, 82, 73]⟩ : ByteArray) [.string (⟨#[79, 82, 73]⟩ : ByteArray)] from rfl) (Reps.one (show Kd.M Kd.string _ _ _ (⟨#[65, 78, 73]⟩ : ByteArray) [.string (⟨#[65, 78, 73]⟩ : ByteArray)] from rfl) (Reps.one (show Kd.M Kd.string _ _ _ (⟨#[88, 82, 73]⟩ : ByteArray) [.string (⟨#[88, 82, 73]⟩ : ByteArray)] from rfl) (Reps.one (show Kd.M Kd.string _ _ _ (⟨#[65, 68, 73]⟩ : ByteArray) [.string (⟨#[65, 68, 73]⟩ : ByteArray)] from rfl) (Reps.one (show Kd.M Kd.string _ _ _ (⟨#[83, 68, 73]⟩ : ByteArray) [.string (⟨#[83, 68, 73]⟩ : ByteArray)] from rfl) (Reps.one (show Kd.M Kd.string _ _ _ (⟨#[83, 72, 76]⟩ : ByteArray) [.string (⟨#[83, 72, 76]⟩ : ByteArray)] from rfl) (Reps.one (show Kd.M Kd.string _ _ _ (⟨#[83, 77, 73]⟩ : ByteArray) [.string (⟨#[83, 77, 73]⟩ : ByteArray)] from rfl) (Reps.none _ _)))))))))))))))))); intro v264 w47 ho48 hb hg_ hnew_; clear hg_ hnew_; (first | rw [← Ny263.out] at ho48 | (simp only [Int.reduceToNat] at ho48; rw [← Ny263.out] at ho48)); have n0_ := Aside0.mk (Kd.R_lower ho48 (below_size (by repeat (first | (with_reducible first | exact HB.out | apply below_alloc | apply pw_below_drewN | apply below_drew1) | exact HB.out)))); have n1_ := Aside0.mk (below_step (by repeat (first | (with_reducible first | exact HB.out | apply below_alloc | apply pw_below_drewN | apply below_drew1) | exact HB.out)) hb); clear HB; have HO265 := n0_; have HB := n1_; clear n0_ n1_; clear hb ho48))
                go_ret
                exact ⟨_, by first | rfl | (simp [errW_none, errW_some] <;> rfl) | (simp [*, errW_none, errW_some] <;> rfl), by (with_reducible repeat (first | apply Kd.R_alloc | apply Kd.R_drewN | apply Kd.R_drew)); exact HO265.out, by repeat (first | (with_reducible first | exact HB.out | apply below_alloc | apply pw_below_drewN | apply below_drew1) | exact HB.out)⟩
end Go.Proofs.YtjedbamcjgabpaaDoor.PSo
/- Written by a program of this session (gprint.py, over the kit's printer): functions of the seat YtjedbamcjgabpaaDoor and their contracts. No condition but each contract's own. -/
namespace Go.Proofs.YtjedbamcjgabpaaDoor.PSo
open Go.RowKit Go.Proofs.YtjedbamcjgabpaaDoorW.PrintWords Go.Proofs.YtjedbamcjgabpaaDoorW.PrintLast Go.Proofs.YtjedbamcjgabpaaDoorW.PrintMore
attribute [local go_sem] max2_int min2_int max_two min_two max_three min_three max_four min_four   -- for this text's walks alone
set_option linter.unusedVariables false
set_option linter.unusedSimpArgs false

/-! ### vesperref02_Name: function 72 -/
def vesperref02_Name.f (a0 : Int) : Option (ByteArray) := if a0 = 0 then (some (⟨#[73, 68, 76]⟩ : ByteArray)) else ((vesperref02_names.f ((Int.tdiv a0 16) % 256)).bind fun t266 => (if (t266.length : Int) = 1 then (if 0 < (t266.length : Int) then (some (rdOf ByteArray.empty t266 0)) else (none)) else (if 0 ≤ (wrap64 (Int.tmod a0 16)) then (if (wrap64 (Int.tmod a0 16)) < (t266.length : Int) then (some (rdOf ByteArray.empty t266 (wrap64 (Int.tmod a0 16)))) else (none)) else (none))))
set_option maxHeartbeats 8000000 in
set_option maxRecDepth 100000 in
theorem vesperref02_Name.calls (a0 : Int) (r : ByteArray) (w : World) (h : vesperref02_Name.f a0 = some r) :
 Calls Tryd.prog 72 #[.int .u8 a0] w fun e w' => e = .returned (.string r) ∧ Below w.heap.size w w' := by
 have HB := Aside0.mk (Below.refl w.heap.size w)
 have H : (if a0 = 0 then (some (⟨#[73, 68, 76]⟩ : ByteArray)) else ((vesperref02_names.f ((Int.tdiv a0 16) % 256)).bind fun t266 => (if (t266.length : Int) = 1 then (if 0 < (t266.length : Int) then (some (rdOf ByteArray.empty t266 0)) else (none)) else (if 0 ≤ (wrap64 (Int.tmod a0 16)) then (if (wrap64 (Int.tmod a0 16)) < (t266.length : Int) then (some (rdOf ByteArray.empty t266 (wrap64 (Int.tmod a0 16)))) else (none)) else (none))))) = some r := h
 clear h
 by_cases c2 : a0 = 0
 ·rw [if_pos c2] at H
  have c2b0 : (a0 == 0) = true := beq_iff_eq.mpr c2
  have c2b1 : (a0 != 0) = false := bne_eq_false_iff_eq.mpr c2
  clear c2
  obtain rfl := Option.some.inj H
  go_enter Tryd.func72, Tryd.ntmps72
  go_wp2
  go_ret
  exact ⟨by first | rfl | (simp [errW_none, errW_some] <;> rfl) | (simp [*, errW_none, errW_some] <;> rfl), by repeat (first | (with_reducible first | exact HB.out | apply below_alloc | apply pw_below_drewN | apply below_drew1) | exact HB.out)⟩
 ·rw [if_neg c2] at H
  have c2b0 : (a0 == 0) = false := beq_eq_false_iff_ne.mpr c2
  have c2b1 : (a0 != 0) = true := bne_iff_ne.mpr c2
  replace H := Option.bind_eq_some_iff.mp H
  obtain ⟨t266, A30, H⟩ := H
  replace H : (if (t266.length : Int) = 1 then (if 0 < (t266.length : Int) then (some (rdOf ByteArray.empty t266 0)) else (none)) else (if 0 ≤ (wrap64 (Int.tmod a0 16)) then (if (wrap64 (Int.tmod a0 16)) < (t266.length : Int) then (some (rdOf ByteArray.empty t266 (wrap64 (Int.tmod a0 16)))) else (none)) else (none))) = some r := H
  have A3 := Aside0.mk A30
  clear A30
  by_cases c4 : (t266.length : Int) = 1
  ·rw [if_pos c4] at H
   have c4b0 : ((t266.length : Int) == 1) = true := beq_iff_eq.mpr c4
   have c4b1 : ((t266.length : Int) != 1) = false := bne_eq_false_iff_eq.mpr c4
   clear c4
   by_cases c5 : 0 < (t266.length : Int)
   ·rw [if_pos c5] at H
    have c5b0 : decide (0 < (t266.length : Int)) = true := decide_eq_true c5
    have c5b1 : decide (0 < t266.length) = true := decide_eq_true (by omega)
    clear c5
    obtain rfl := Option.some.inj H
    go_enter Tryd.func72, Tryd.ntmps72
    go_wp2_with (first | ((with_reducible refine gate_callee (f := 95) rfl ?_); refine goesL_ (some 15) rfl rfl Tryd.func95 (by kernel_rfl) rfl #[.int .i64 ((Int.tdiv a0 16) % 256)] rfl (by (try simp only [List.map_toArray, List.map_cons, List.map_nil]); first | done | rfl | (simp only [List.length_drop, List.length_take]; rfl)) ?_; (with_reducible refine (vesperref02_names.calls ((Int.tdiv a0 16) % 256) t266 _ A3.out).mono ?_); rintro e w6 ⟨v267, rfl, ho0, hb⟩; refine ⟨_, rfl, ?_⟩; have n0_ := Aside0.mk (Kd.R_lower ho0 (below_size (by repeat (first | (with_reducible first | exact HB.out | apply below_alloc | apply pw_below_drewN | apply below_drew1) | exact HB.out)))); have n1_ := Aside0.mk (below_step (by repeat (first | (with_reducible first | exact HB.out | apply below_alloc | apply pw_below_drewN | apply below_drew1) | exact HB.out)) hb); clear HB; have HO268 := n0_; have HB := n1_; clear n0_ n1_; (try clear hb); (try clear hb2); (try clear hk); (try clear hi); (try clear ho0); obtain ⟨Ao7, co7, eo7⟩ := Kd.R_slice HO268.out; subst eo7; have p269 : 0 ≤ (0 : Int) := (by omega); have q269 : 0 < (t266.length : Int) := of_decide_eq_true (by first | (with_reducible assumption) | assumption); obtain ⟨ad269, e269, hx269_0⟩ := Kd.at_string (Kd.R_reads' HO268.out).2.2 0 p269 q269; cases e269; have qi269 : (0 < t266.length) = True := eq_true (by omega); (try rw [show ((0 : Int)).toNat = 0 from rfl] at hx269_0); (try rw [Addr.add_zero'] at hx269_0); replace p269 := eq_true p269; replace q269 := eq_true q269))
    go_ret
    exact ⟨by first | rfl | (simp [errW_none, errW_some] <;> rfl) | (simp [*, errW_none, errW_some] <;> rfl), by repeat (first | (with_reducible first | exact HB.out | apply below_alloc | apply pw_below_drewN | apply below_drew1) | exact HB.out)⟩
   ·rw [if_neg c5] at H
    exact absurd H (by simp)
  ·rw [if_neg c4] at H
   have c4b0 : ((t266.length : Int) == 1) = false := beq_eq_false_iff_ne.mpr c4
   have c4b1 : ((t266.length : Int) != 1) = true := bne_iff_ne.mpr c4
   obtain ⟨ji8, hji8⟩ : ∃ j_ : Int, (wrap64 (Int.tmod a0 16)) = j_ := ⟨_, rfl⟩
   replace H : (if 0 ≤ (ji8) then (if (ji8) < (t266.length : Int) then (some (rdOf ByteArray.empty t266 (ji8))) else (none)) else (none)) = some r := by first | (rw [hji8] at H; exact H) | (simp only [hji8] at H ⊢; exact H)
   (try rw [hji8] at A3)
   have hji8w : (IntKind.i64.wrap (Int.tmod a0 16)) = ji8 := (i64_w _).trans hji8
   by_cases c9 : 0 ≤ (ji8)
   ·rw [if_pos c9] at H
    have c9b0 : decide (0 ≤ (ji8)) = true := decide_eq_true c9
    clear c9
    by_cases c10 : (ji8) < (t266.length : Int)
    ·rw [if_pos c10] at H
     have c10b0 : decide ((ji8) < (t266.length : Int)) = true := decide_eq_true c10
     clear c10
     obtain rfl := Option.some.inj H
     go_enter Tryd.func72, Tryd.ntmps72
     go_wp2_with (first | ((with_reducible refine gate_callee (f := 95) rfl ?_); refine goesL_ (some 15) rfl rfl Tryd.func95 (by kernel_rfl) rfl #[.int .i64 ((Int.tdiv a0 16) % 256)] rfl (by (try simp only [List.map_toArray, List.map_cons, List.map_nil]); first | done | rfl | (simp only [List.length_drop, List.length_take]; rfl)) ?_; (with_reducible refine (vesperref02_names.calls ((Int.tdiv a0 16) % 256) t266 _ A3.out).mono ?_); rintro e w11 ⟨v267, rfl, ho0, hb⟩; refine ⟨_, rfl, ?_⟩; have n0_ := Aside0.mk (Kd.R_lower ho0 (below_size (by repeat (first | (with_reducible first | exact HB.out | apply below_alloc | apply pw_below_drewN | apply below_drew1) | exact HB.out)))); have n1_ := Aside0.mk (below_step (by repeat (first | (with_reducible first | exact HB.out | apply below_alloc | apply pw_below_drewN | apply below_drew1) | exact HB.out)) hb); clear HB; have HO268 := n0_; have HB := n1_; clear n0_ n1_; (try clear hb); (try clear hb2); (try clear hk); (try clear hi); (try clear ho0); obtain ⟨Ao12, co12, eo12⟩ := Kd.R_slice HO268.out; subst eo12; have p270 : 0 ≤ ((ji8) : Int) := of_decide_eq_true (by first | (with_reducible assumption) | assumption); have q270 : (ji8) < (t266.length : Int) := of_decide_eq_true (by first | (with_reducible assumption) | assumption); obtain ⟨ad270, e270, hx270_0⟩ := Kd.at_string (Kd.R_reads' HO268.out).2.2 (ji8) p270 q270; cases e270; replace p270 := eq_true p270; replace q270 := eq_true q270))
     go_ret
     exact ⟨by first | rfl | (simp [errW_none, errW_some] <;> rfl) | (simp only [← hji8]; first | rfl | (simp [errW_none, errW_some] <;> rfl)) | (simp [*, errW_none, errW_some] <;> rfl), by repeat (first | (with_reducible first | exact HB.out | apply below_alloc | apply pw_below_drewN | apply below_drew1) | exact HB.out)⟩
    ·rw [if_neg c10] at H
     exact absurd H (by simp)
   ·rw [if_neg c9] at H
    exact absurd H (by simp)
end Go.Proofs.YtjedbamcjgabpaaDoor.PSo
/- Written by a program of this session (gprint.py, over the kit's printer): functions of the seat YtjedbamcjgabpaaDoor and their contracts. No condition but each contract's own. -/
namespace Go.Proofs.YtjedbamcjgabpaaDoor.PSo
open Go.RowKit Go.Proofs.YtjedbamcjgabpaaDoorW.PrintWords Go.Proofs.YtjedbamcjgabpaaDoorW.PrintLast Go.Proofs.YtjedbamcjgabpaaDoorW.PrintMore
attribute [local go_sem] max2_int min2_int max_two min_two max_three min_three max_four min_four   -- for this text's walks alone
set_option linter.unusedVariables false
set_option linter.unusedSimpArgs false

/-! ### vesperref02_First: function 54 -/
def vesperref02_First.l0 : Nat → ByteArray → Int → Option (Int)
 | 0, _, _ => none
 | k + 1, x0, x3 => if x3 < 256 then ((vesperref02_Name.f ((x3) % 256)).bind fun t271 => (if t271.toList = x0.toList then (some x3) else (vesperref02_First.l0 k x0 (wrap64 (x3 + 1))))) else (some (-1))
def vesperref02_First.f (k : Nat) (a0 : ByteArray) : Option (Int) := vesperref02_First.l0 k a0 0
theorem vesperref02_First.mono_l : ∀ k, (∀ y0 y1, LeO (vesperref02_First.l0 k y0 y1) (vesperref02_First.l0 (k + 1) y0 y1))
 | 0 => fun _ _ r h => by simp [vesperref02_First.l0] at h
 | k + 1 => by
  have ih0 := vesperref02_First.mono_l k
  ·intro y0 y1
   unfold vesperref02_First.l0
   repeat' first
   | (with_reducible exact ih0 _ _)
   | (with_reducible exact LeO.refl _)
   | (with_reducible exact LeO.none _)
   | (with_reducible refine LeO.ite ?_ ?_)
   | (with_reducible refine LeO.bind ?_ (fun _ => ?_))
   | exact ih0 _ _
   | exact LeO.none _
   | refine LeO.ite ?_ ?_
   | refine LeO.bind ?_ (fun _ => ?_)
theorem vesperref02_First.mono : ∀ a0 k, LeO (vesperref02_First.f k a0) (vesperref02_First.f (k + 1) a0) := by
 intro a0 k
 have ih0 := vesperref02_First.mono_l k
 unfold vesperref02_First.f
 repeat' first
  | (with_reducible exact ih0 _ _)
  | (with_reducible exact LeO.refl _)
  | (with_reducible exact LeO.none _)
  | (with_reducible refine LeO.ite ?_ ?_)
  | (with_reducible refine LeO.bind ?_ (fun _ => ?_))
  | exact ih0 _ _
  | exact LeO.none _
  | refine LeO.ite ?_ ?_
  | refine LeO.bind ?_ (fun _ => ?_)
set_option maxHeartbeats 8000000 in
set_option maxRecDepth 100000 in
theorem vesperref02_First.calls (k : Nat) (a0 : ByteArray) (r : Int) (w : World) (h : vesperref02_First.f k a0 = some r) :
 Calls Tryd.prog 54 #[.string a0] w fun e w' => e = .returned (.int .i64 r) ∧ Below w.heap.size w w' := by
 have HB := Aside0.mk (Below.refl w.heap.size w)
 have H : (vesperref02_First.l0 k a0 0) = some r := h
 clear h
 have H' := Aside0.mk H
 clear H
 go_enter Tryd.func54, Tryd.ntmps54
 go_wp2
 go_loopg [3] k (fun kq v3 w' => ∃ (x3_1 : Int), v3 = .int .i64 x3_1 ∧ Aside0 (vesperref02_First.l0 kq a0 x3_1 = some r) ∧ Aside0 (kq ≤ k) ∧ Aside0 (Below w.heap.size w w'))
 case atStart => exact ⟨(0), (by first | rfl | (simp; done) | (simp [*]; done)), H', ⟨Nat.le_refl _⟩, ⟨by repeat (first | (with_reducible first | exact HB.out | apply below_alloc | apply pw_below_drewN | apply below_drew1) | exact HB.out)⟩⟩
 case round =>
  clear H'
  obtain ⟨x3_1, rfl, HA, HK1, HB⟩ := hrel
  cases gk with
  | zero => exact absurd HA.out (by simp [vesperref02_First.l0])
  | succ k1 =>
   have H := HA.out
   clear HA
   simp only [vesperref02_First.l0] at H
   by_cases c2 : x3_1 < 256
   ·rw [if_pos c2] at H
    have c2b0 : decide (x3_1 < 256) = true := decide_eq_true c2
    clear c2
    replace H := Option.bind_eq_some_iff.mp H
    obtain ⟨t271, A30, H⟩ := H
    replace H : (if t271.toList = a0.toList then (some x3_1) else (vesperref02_First.l0 k1 a0 (wrap64 (x3_1 + 1)))) = some r := H
    have A3 := Aside0.mk A30
    clear A30
    by_cases c4 : t271.toList = a0.toList
    ·rw [if_pos c4] at H
     have c4b0 : (t271.toList == a0.toList) = true := beq_iff_eq.mpr c4
     have c4b1 : (t271.toList != a0.toList) = false := bne_eq_false_iff_eq.mpr c4
     clear c4
     obtain rfl := Option.some.inj H
     go_wp2_with (first | ((with_reducible refine gate_callee (f := 72) rfl ?_); refine goesL_ (some 10) rfl rfl Tryd.func72 (by kernel_rfl) rfl #[.int .u8 ((x3_1) % 256)] rfl (by (try simp only [List.map_toArray, List.map_cons, List.map_nil]); first | done | rfl | (simp only [List.length_drop, List.length_take]; rfl)) ?_; (with_reducible refine (vesperref02_Name.calls ((x3_1) % 256) t271 _ A3.out).mono ?_); rintro e w5 ⟨rfl, hb⟩; refine ⟨_, rfl, ?_⟩; have n0_ := Aside0.mk (below_step (by repeat (first | (with_reducible first | exact HB.out | apply below_alloc | apply pw_below_drewN | apply below_drew1) | exact HB.out)) hb); clear HB; have HB := n0_; clear n0_; (try clear hb); (try clear hb2); (try clear hk); (try clear hi)))
     go_ret
     exact ⟨by first | rfl | (simp [errW_none, errW_some] <;> rfl) | (simp [*, errW_none, errW_some] <;> rfl), by repeat (first | (with_reducible first | exact HB.out | apply below_alloc | apply pw_below_drewN | apply below_drew1) | exact HB.out)⟩
    ·rw [if_neg c4] at H
     have c4b0 : (t271.toList == a0.toList) = false := beq_eq_false_iff_ne.mpr c4
     have c4b1 : (t271.toList != a0.toList) = true := bne_iff_ne.mpr c4
     have H' := Aside0.mk H
     clear H
     go_wp2_with (first | ((with_reducible refine gate_callee (f := 72) rfl ?_); refine goesL_ (some 10) rfl rfl Tryd.func72 (by kernel_rfl) rfl #[.int .u8 ((x3_1) % 256)] rfl (by (try simp only [List.map_toArray, List.map_cons, List.map_nil]); first | done | rfl | (simp only [List.length_drop, List.length_take]; rfl)) ?_; (with_reducible refine (vesperref02_Name.calls ((x3_1) % 256) t271 _ A3.out).mono ?_); rintro e w6 ⟨rfl, hb⟩; refine ⟨_, rfl, ?_⟩; have n0_ := Aside0.mk (below_step (by repeat (first | (with_reducible first | exact HB.out | apply below_alloc | apply pw_below_drewN | apply below_drew1) | exact HB.out)) hb); clear HB; have HB := n0_; clear n0_; (try clear hb); (try clear hb2); (try clear hk); (try clear hi)))
     go_roundg k1
     case measure => have := HK1.out; omega
     case rel => exact ⟨(wrap64 (x3_1 + 1)), (by first | rfl | (simp; done) | (simp [*]; done)), H', ⟨by have := HK1.out; omega⟩, ⟨by repeat (first | (with_reducible first | exact HB.out | apply below_alloc | apply pw_below_drewN | apply below_drew1) | exact HB.out)⟩⟩
   ·rw [if_neg c2] at H
    have c2b0 : decide (x3_1 < 256) = false := decide_eq_false c2
    clear c2
    obtain rfl := Option.some.inj H
    go_wp2
    go_ret
    exact ⟨by first | rfl | (simp [errW_none, errW_some] <;> rfl) | (simp [*, errW_none, errW_some] <;> rfl), by repeat (first | (with_reducible first | exact HB.out | apply below_alloc | apply pw_below_drewN | apply below_drew1) | exact HB.out)⟩
end Go.Proofs.YtjedbamcjgabpaaDoor.PSo
/- Written by a program of this session (gprint.py, over the kit's printer): functions of the seat YtjedbamcjgabpaaDoor and their contracts. No condition but each contract's own. -/
namespace Go.Proofs.YtjedbamcjgabpaaDoor.PSo
open Go.RowKit Go.Proofs.YtjedbamcjgabpaaDoorW.PrintWords Go.Proofs.YtjedbamcjgabpaaDoorW.PrintLast Go.Proofs.YtjedbamcjgabpaaDoorW.PrintMore
attribute [local go_sem] max2_int min2_int max_two min_two max_three min_three max_four min_four   -- for this text's walks alone
set_option linter.unusedVariables false
set_option linter.unusedSimpArgs false

/-! ### vesperref02_FormOf: function 73 -/
mutual
def vesperref02_FormOf.j0 : Nat → Int → Int → Bool → Option (Int)
 | 0, _, _, _ => none
 | k + 1, x4, x11, x16 => if x16 = true then (some 2) else (if x11 = 3 then (if x4 = 8 then (some 1) else (some 5)) else (if x11 = 6 then (if (Int.tmod x4 8) = 0 then (some 1) else (some 3)) else (if x11 = 7 then (if x4 = 12 then (vesperref02_FormOf.j1 k true) else (if x4 = 13 then (vesperref02_FormOf.j1 k true) else (vesperref02_FormOf.j1 k (x4 == 15)))) else (if x11 = 12 then (if x4 ≤ 3 then (vesperref02_FormOf.j2 k true) else (if x4 ≥ 9 then (vesperref02_FormOf.j2 k (decide (x4 ≤ 11))) else (vesperref02_FormOf.j2 k false))) else (if x4 ≥ 8 then (if x4 = 14 then (some 1) else (some 4)) else (some 1))))))
def vesperref02_FormOf.j1 : Nat → Bool → Option (Int)
 | 0, _ => none
 | k + 1, x47 => if x47 = true then (some 4) else (some 1)
def vesperref02_FormOf.j2 : Nat → Bool → Option (Int)
 | 0, _ => none
 | k + 1, x59 => if x59 = true then (some 6) else (some 1)
end
def vesperref02_FormOf.f (k : Nat) (a0 : Int) : Option (Int) := if ((Int.tdiv a0 16) % 256) = 0 then (if (wrap64 (Int.tmod a0 16)) = 0 then (some 1) else (some 2)) else (if ((Int.tdiv a0 16) % 256) = 1 then (vesperref02_FormOf.j0 k (wrap64 (Int.tmod a0 16)) ((Int.tdiv a0 16) % 256) (((Int.tdiv a0 16) % 256) == 1)) else (if ((Int.tdiv a0 16) % 256) = 2 then (vesperref02_FormOf.j0 k (wrap64 (Int.tmod a0 16)) ((Int.tdiv a0 16) % 256) (((Int.tdiv a0 16) % 256) == 2)) else (if ((Int.tdiv a0 16) % 256) = 4 then (vesperref02_FormOf.j0 k (wrap64 (Int.tmod a0 16)) ((Int.tdiv a0 16) % 256) (((Int.tdiv a0 16) % 256) == 4)) else (if ((Int.tdiv a0 16) % 256) = 5 then (vesperref02_FormOf.j0 k (wrap64 (Int.tmod a0 16)) ((Int.tdiv a0 16) % 256) (((Int.tdiv a0 16) % 256) == 5)) else (if ((Int.tdiv a0 16) % 256) = 8 then (vesperref02_FormOf.j0 k (wrap64 (Int.tmod a0 16)) ((Int.tdiv a0 16) % 256) (((Int.tdiv a0 16) % 256) == 8)) else (if ((Int.tdiv a0 16) % 256) = 9 then (vesperref02_FormOf.j0 k (wrap64 (Int.tmod a0 16)) ((Int.tdiv a0 16) % 256) (((Int.tdiv a0 16) % 256) == 9)) else (if ((Int.tdiv a0 16) % 256) = 10 then (vesperref02_FormOf.j0 k (wrap64 (Int.tmod a0 16)) ((Int.tdiv a0 16) % 256) (((Int.tdiv a0 16) % 256) == 10)) else (if ((Int.tdiv a0 16) % 256) = 11 then (vesperref02_FormOf.j0 k (wrap64 (Int.tmod a0 16)) ((Int.tdiv a0 16) % 256) (((Int.tdiv a0 16) % 256) == 11)) else (if ((Int.tdiv a0 16) % 256) = 13 then (vesperref02_FormOf.j0 k (wrap64 (Int.tmod a0 16)) ((Int.tdiv a0 16) % 256) (((Int.tdiv a0 16) % 256) == 13)) else (vesperref02_FormOf.j0 k (wrap64 (Int.tmod a0 16)) ((Int.tdiv a0 16) % 256) (((Int.tdiv a0 16) % 256) == 14)))))))))))
theorem vesperref02_FormOf.mono_l : ∀ k, (∀ y0 y1 y2, LeO (vesperref02_FormOf.j0 k y0 y1 y2) (vesperref02_FormOf.j0 (k + 1) y0 y1 y2)) ∧ (∀ y0, LeO (vesperref02_FormOf.j1 k y0) (vesperref02_FormOf.j1 (k + 1) y0)) ∧ (∀ y0, LeO (vesperref02_FormOf.j2 k y0) (vesperref02_FormOf.j2 (k + 1) y0))
 | 0 => ⟨fun _ _ _ r h => by simp [vesperref02_FormOf.j0] at h, fun _ r h => by simp [vesperref02_FormOf.j1] at h, fun _ r h => by simp [vesperref02_FormOf.j2] at h⟩
 | k + 1 => by
  obtain ⟨ih0, ih1, ih2⟩ := vesperref02_FormOf.mono_l k
  refine ⟨?_, ?_, ?_⟩
  ·intro y0 y1 y2
   unfold vesperref02_FormOf.j0
   repeat' first
   | (with_reducible exact ih0 _ _ _)
   | (with_reducible exact ih1 _)
   | (with_reducible exact ih2 _)
   | (with_reducible exact LeO.refl _)
   | (with_reducible exact LeO.none _)
   | (with_reducible refine LeO.ite ?_ ?_)
   | (with_reducible refine LeO.bind ?_ (fun _ => ?_))
   | exact ih0 _ _ _
   | exact ih1 _
   | exact ih2 _
   | exact LeO.none _
   | refine LeO.ite ?_ ?_
   | refine LeO.bind ?_ (fun _ => ?_)
  ·intro y0
   unfold vesperref02_FormOf.j1
   repeat' first
   | (with_reducible exact ih0 _ _ _)
   | (with_reducible exact ih1 _)
   | (with_reducible exact ih2 _)
   | (with_reducible exact LeO.refl _)
   | (with_reducible exact LeO.none _)
   | (with_reducible refine LeO.ite ?_ ?_)
   | (with_reducible refine LeO.bind ?_ (fun _ => ?_))
   | exact ih0 _ _ _
   | exact ih1 _
   | exact ih2 _
   | exact LeO.none _
   | refine LeO.ite ?_ ?_
   | refine LeO.bind ?_ (fun _ => ?_)
  ·intro y0
   unfold vesperref02_FormOf.j2
   repeat' first
   | (with_reducible exact ih0 _ _ _)
   | (with_reducible exact ih1 _)
   | (with_reducible exact ih2 _)
   | (with_reducible exact LeO.refl _)
   | (with_reducible exact LeO.none _)
   | (with_reducible refine LeO.ite ?_ ?_)
   | (with_reducible refine LeO.bind ?_ (fun _ => ?_))
   | exact ih0 _ _ _
   | exact ih1 _
   | exact ih2 _
   | exact LeO.none _
   | refine LeO.ite ?_ ?_
   | refine LeO.bind ?_ (fun _ => ?_)
theorem vesperref02_FormOf.mono : ∀ a0 k, LeO (vesperref02_FormOf.f k a0) (vesperref02_FormOf.f (k + 1) a0) := by
 intro a0 k
 obtain ⟨ih0, ih1, ih2⟩ := vesperref02_FormOf.mono_l k
 unfold vesperref02_FormOf.f
 repeat' first
  | (with_reducible exact ih0 _ _ _)
  | (with_reducible exact ih1 _)
  | (with_reducible exact ih2 _)
  | (with_reducible exact LeO.refl _)
  | (with_reducible exact LeO.none _)
  | (with_reducible refine LeO.ite ?_ ?_)
  | (with_reducible refine LeO.bind ?_ (fun _ => ?_))
  | exact ih0 _ _ _
  | exact ih1 _
  | exact ih2 _
  | exact LeO.none _
  | refine LeO.ite ?_ ?_
  | refine LeO.bind ?_ (fun _ => ?_)
set_option maxHeartbeats 8000000 in
set_option maxRecDepth 100000 in
theorem vesperref02_FormOf.calls (k : Nat) (a0 : Int) (r : Int) (w : World) (h : vesperref02_FormOf.f k a0 = some r) :
 Calls Tryd.prog 73 #[.int .u8 a0] w fun e w' => e = .returned (.int .u8 r) ∧ Drawn0 w w' := by
 have H : (if ((Int.tdiv a0 16) % 256) = 0 then (if (wrap64 (Int.tmod a0 16)) = 0 then (some 1) else (some 2)) else (if ((Int.tdiv a0 16) % 256) = 1 then (vesperref02_FormOf.j0 k (wrap64 (Int.tmod a0 16)) ((Int.tdiv a0 16) % 256) (((Int.tdiv a0 16) % 256) == 1)) else (if ((Int.tdiv a0 16) % 256) = 2 then (vesperref02_FormOf.j0 k (wrap64 (Int.tmod a0 16)) ((Int.tdiv a0 16) % 256) (((Int.tdiv a0 16) % 256) == 2)) else (if ((Int.tdiv a0 16) % 256) = 4 then (vesperref02_FormOf.j0 k (wrap64 (Int.tmod a0 16)) ((Int.tdiv a0 16) % 256) (((Int.tdiv a0 16) % 256) == 4)) else (if ((Int.tdiv a0 16) % 256) = 5 then (vesperref02_FormOf.j0 k (wrap64 (Int.tmod a0 16)) ((Int.tdiv a0 16) % 256) (((Int.tdiv a0 16) % 256) == 5)) else (if ((Int.tdiv a0 16) % 256) = 8 then (vesperref02_FormOf.j0 k (wrap64 (Int.tmod a0 16)) ((Int.tdiv a0 16) % 256) (((Int.tdiv a0 16) % 256) == 8)) else (if ((Int.tdiv a0 16) % 256) = 9 then (vesperref02_FormOf.j0 k (wrap64 (Int.tmod a0 16)) ((Int.tdiv a0 16) % 256) (((Int.tdiv a0 16) % 256) == 9)) else (if ((Int.tdiv a0 16) % 256) = 10 then (vesperref02_FormOf.j0 k (wrap64 (Int.tmod a0 16)) ((Int.tdiv a0 16) % 256) (((Int.tdiv a0 16) % 256) == 10)) else (if ((Int.tdiv a0 16) % 256) = 11 then (vesperref02_FormOf.j0 k (wrap64 (Int.tmod a0 16)) ((Int.tdiv a0 16) % 256) (((Int.tdiv a0 16) % 256) == 11)) else (if ((Int.tdiv a0 16) % 256) = 13 then (vesperref02_FormOf.j0 k (wrap64 (Int.tmod a0 16)) ((Int.tdiv a0 16) % 256) (((Int.tdiv a0 16) % 256) == 13)) else (vesperref02_FormOf.j0 k (wrap64 (Int.tmod a0 16)) ((Int.tdiv a0 16) % 256) (((Int.tdiv a0 16) % 256) == 14)))))))))))) = some r := h
 clear h
 by_cases c2 : ((Int.tdiv a0 16) % 256) = 0
 ·rw [if_pos c2] at H
  have c2b0 : (((Int.tdiv a0 16) % 256) == 0) = true := beq_iff_eq.mpr c2
  have c2b1 : (((Int.tdiv a0 16) % 256) != 0) = false := bne_eq_false_iff_eq.mpr c2
  clear c2
  by_cases c3 : (wrap64 (Int.tmod a0 16)) = 0
  ·rw [if_pos c3] at H
   have c3b0 : ((wrap64 (Int.tmod a0 16)) == 0) = true := beq_iff_eq.mpr c3
   have c3b1 : ((wrap64 (Int.tmod a0 16)) != 0) = false := bne_eq_false_iff_eq.mpr c3
   clear c3
   obtain rfl := Option.some.inj H
   go_enter Tryd.func73, Tryd.ntmps73
   go_wp2
   go_ret
   exact ⟨by first | rfl | (simp; done) | (simp [*]; done), by repeat (first | exact Drawn0.refl _ | apply Drawn0.step)⟩
  ·rw [if_neg c3] at H
   have c3b0 : ((wrap64 (Int.tmod a0 16)) == 0) = false := beq_eq_false_iff_ne.mpr c3
   have c3b1 : ((wrap64 (Int.tmod a0 16)) != 0) = true := bne_iff_ne.mpr c3
   obtain rfl := Option.some.inj H
   go_enter Tryd.func73, Tryd.ntmps73
   go_wp2
   go_ret
   exact ⟨by first | rfl | (simp; done) | (simp [*]; done), by repeat (first | exact Drawn0.refl _ | apply Drawn0.step)⟩
 ·rw [if_neg c2] at H
  have c2b0 : (((Int.tdiv a0 16) % 256) == 0) = false := beq_eq_false_iff_ne.mpr c2
  have c2b1 : (((Int.tdiv a0 16) % 256) != 0) = true := bne_iff_ne.mpr c2
  have HC4 := Aside0.mk H
  clear H
  go_enter Tryd.func73, Tryd.ntmps73
  go_upto_if 16 with (fail)
  go_cut [16] (fun v16 wc => ∃ (kq : Nat) (x16_3 : Bool), v16 = .bool x16_3 ∧ Aside0 (vesperref02_FormOf.j0 kq (wrap64 (Int.tmod a0 16)) ((Int.tdiv a0 16) % 256) x16_3 = some r) ∧ Aside0 (kq ≤ k) ∧ Drawn0 w wc)
  case first =>
   have H := HC4.out
   clear HC4
   by_cases c5 : ((Int.tdiv a0 16) % 256) = 1
   ·rw [if_pos c5] at H
    have c5b0 : (((Int.tdiv a0 16) % 256) == 1) = true := beq_iff_eq.mpr c5
    have c5b1 : (((Int.tdiv a0 16) % 256) != 1) = false := bne_eq_false_iff_eq.mpr c5
    clear c5
    (first | rw [c5b0] | (simp only [i64_w, i32_w]; rw [c5b0]) | skip)
    have H' := Aside0.mk H
    clear H
    go_wp2
    go_meet
    case rel => exact ⟨_, ((((Int.tdiv a0 16) % 256) == 1)), (by first | rfl | (simp; done) | (simp [*]; done)), H', ⟨by first | omega | exact Nat.le_refl _⟩, by repeat (first | exact Drawn0.refl _ | apply Drawn0.step)⟩
   ·rw [if_neg c5] at H
    have c5b0 : (((Int.tdiv a0 16) % 256) == 1) = false := beq_eq_false_iff_ne.mpr c5
    have c5b1 : (((Int.tdiv a0 16) % 256) != 1) = true := bne_iff_ne.mpr c5
    (first | rw [c5b0] | (simp only [i64_w, i32_w]; rw [c5b0]) | skip)
    by_cases c6 : ((Int.tdiv a0 16) % 256) = 2
    ·rw [if_pos c6] at H
     have c6b0 : (((Int.tdiv a0 16) % 256) == 2) = true := beq_iff_eq.mpr c6
     have c6b1 : (((Int.tdiv a0 16) % 256) != 2) = false := bne_eq_false_iff_eq.mpr c6
     clear c6
     have H' := Aside0.mk H
     clear H
     go_wp2
     go_meet
     case rel => exact ⟨_, ((((Int.tdiv a0 16) % 256) == 2)), (by first | rfl | (simp; done) | (simp [*]; done)), H', ⟨by first | omega | exact Nat.le_refl _⟩, by repeat (first | exact Drawn0.refl _ | apply Drawn0.step)⟩
    ·rw [if_neg c6] at H
     have c6b0 : (((Int.tdiv a0 16) % 256) == 2) = false := beq_eq_false_iff_ne.mpr c6
     have c6b1 : (((Int.tdiv a0 16) % 256) != 2) = true := bne_iff_ne.mpr c6
     by_cases c7 : ((Int.tdiv a0 16) % 256) = 4
     ·rw [if_pos c7] at H
      have c7b0 : (((Int.tdiv a0 16) % 256) == 4) = true := beq_iff_eq.mpr c7
      have c7b1 : (((Int.tdiv a0 16) % 256) != 4) = false := bne_eq_false_iff_eq.mpr c7
      clear c7
      have H' := Aside0.mk H
      clear H
      go_wp2
      go_meet
      case rel => exact ⟨_, ((((Int.tdiv a0 16) % 256) == 4)), (by first | rfl | (simp; done) | (simp [*]; done)), H', ⟨by first | omega | exact Nat.le_refl _⟩, by repeat (first | exact Drawn0.refl _ | apply Drawn0.step)⟩
     ·rw [if_neg c7] at H
      have c7b0 : (((Int.tdiv a0 16) % 256) == 4) = false := beq_eq_false_iff_ne.mpr c7
      have c7b1 : (((Int.tdiv a0 16) % 256) != 4) = true := bne_iff_ne.mpr c7
      by_cases c8 : ((Int.tdiv a0 16) % 256) = 5
      ·rw [if_pos c8] at H
       have c8b0 : (((Int.tdiv a0 16) % 256) == 5) = true := beq_iff_eq.mpr c8
       have c8b1 : (((Int.tdiv a0 16) % 256) != 5) = false := bne_eq_false_iff_eq.mpr c8
       clear c8
       have H' := Aside0.mk H
       clear H
       go_wp2
       go_meet
       case rel => exact ⟨_, ((((Int.tdiv a0 16) % 256) == 5)), (by first | rfl | (simp; done) | (simp [*]; done)), H', ⟨by first | omega | exact Nat.le_refl _⟩, by repeat (first | exact Drawn0.refl _ | apply Drawn0.step)⟩
      ·rw [if_neg c8] at H
       have c8b0 : (((Int.tdiv a0 16) % 256) == 5) = false := beq_eq_false_iff_ne.mpr c8
       have c8b1 : (((Int.tdiv a0 16) % 256) != 5) = true := bne_iff_ne.mpr c8
       by_cases c9 : ((Int.tdiv a0 16) % 256) = 8
       ·rw [if_pos c9] at H
        have c9b0 : (((Int.tdiv a0 16) % 256) == 8) = true := beq_iff_eq.mpr c9
        have c9b1 : (((Int.tdiv a0 16) % 256) != 8) = false := bne_eq_false_iff_eq.mpr c9
        clear c9
        have H' := Aside0.mk H
        clear H
        go_wp2
        go_meet
        case rel => exact ⟨_, ((((Int.tdiv a0 16) % 256) == 8)), (by first | rfl | (simp; done) | (simp [*]; done)), H', ⟨by first | omega | exact Nat.le_refl _⟩, by repeat (first | exact Drawn0.refl _ | apply Drawn0.step)⟩
       ·rw [if_neg c9] at H
        have c9b0 : (((Int.tdiv a0 16) % 256) == 8) = false := beq_eq_false_iff_ne.mpr c9
        have c9b1 : (((Int.tdiv a0 16) % 256) != 8) = true := bne_iff_ne.mpr c9
        by_cases c10 : ((Int.tdiv a0 16) % 256) = 9
        ·rw [if_pos c10] at H
         have c10b0 : (((Int.tdiv a0 16) % 256) == 9) = true := beq_iff_eq.mpr c10
         have c10b1 : (((Int.tdiv a0 16) % 256) != 9) = false := bne_eq_false_iff_eq.mpr c10
         clear c10
         have H' := Aside0.mk H
         clear H
         go_wp2
         go_meet
         case rel => exact ⟨_, ((((Int.tdiv a0 16) % 256) == 9)), (by first | rfl | (simp; done) | (simp [*]; done)), H', ⟨by first | omega | exact Nat.le_refl _⟩, by repeat (first | exact Drawn0.refl _ | apply Drawn0.step)⟩
        ·rw [if_neg c10] at H
         have c10b0 : (((Int.tdiv a0 16) % 256) == 9) = false := beq_eq_false_iff_ne.mpr c10
         have c10b1 : (((Int.tdiv a0 16) % 256) != 9) = true := bne_iff_ne.mpr c10
         by_cases c11 : ((Int.tdiv a0 16) % 256) = 10
         ·rw [if_pos c11] at H
          have c11b0 : (((Int.tdiv a0 16) % 256) == 10) = true := beq_iff_eq.mpr c11
          have c11b1 : (((Int.tdiv a0 16) % 256) != 10) = false := bne_eq_false_iff_eq.mpr c11
          clear c11
          have H' := Aside0.mk H
          clear H
          go_wp2
          go_meet
          case rel => exact ⟨_, ((((Int.tdiv a0 16) % 256) == 10)), (by first | rfl | (simp; done) | (simp [*]; done)), H', ⟨by first | omega | exact Nat.le_refl _⟩, by repeat (first | exact Drawn0.refl _ | apply Drawn0.step)⟩
         ·rw [if_neg c11] at H
          have c11b0 : (((Int.tdiv a0 16) % 256) == 10) = false := beq_eq_false_iff_ne.mpr c11
          have c11b1 : (((Int.tdiv a0 16) % 256) != 10) = true := bne_iff_ne.mpr c11
          by_cases c12 : ((Int.tdiv a0 16) % 256) = 11
          ·rw [if_pos c12] at H
           have c12b0 : (((Int.tdiv a0 16) % 256) == 11) = true := beq_iff_eq.mpr c12
           have c12b1 : (((Int.tdiv a0 16) % 256) != 11) = false := bne_eq_false_iff_eq.mpr c12
           clear c12
           have H' := Aside0.mk H
           clear H
           go_wp2
           go_meet
           case rel => exact ⟨_, ((((Int.tdiv a0 16) % 256) == 11)), (by first | rfl | (simp; done) | (simp [*]; done)), H', ⟨by first | omega | exact Nat.le_refl _⟩, by repeat (first | exact Drawn0.refl _ | apply Drawn0.step)⟩
          ·rw [if_neg c12] at H
           have c12b0 : (((Int.tdiv a0 16) % 256) == 11) = false := beq_eq_false_iff_ne.mpr c12
           have c12b1 : (((Int.tdiv a0 16) % 256) != 11) = true := bne_iff_ne.mpr c12
           by_cases c13 : ((Int.tdiv a0 16) % 256) = 13
           ·rw [if_pos c13] at H
            have c13b0 : (((Int.tdiv a0 16) % 256) == 13) = true := beq_iff_eq.mpr c13
            have c13b1 : (((Int.tdiv a0 16) % 256) != 13) = false := bne_eq_false_iff_eq.mpr c13
            clear c13
            have H' := Aside0.mk H
            clear H
            go_wp2
            go_meet
            case rel => exact ⟨_, ((((Int.tdiv a0 16) % 256) == 13)), (by first | rfl | (simp; done) | (simp [*]; done)), H', ⟨by first | omega | exact Nat.le_refl _⟩, by repeat (first | exact Drawn0.refl _ | apply Drawn0.step)⟩
           ·rw [if_neg c13] at H
            have c13b0 : (((Int.tdiv a0 16) % 256) == 13) = false := beq_eq_false_iff_ne.mpr c13
            have c13b1 : (((Int.tdiv a0 16) % 256) != 13) = true := bne_iff_ne.mpr c13
            have H' := Aside0.mk H
            clear H
            go_wp2
            go_meet
            case rel => exact ⟨_, ((((Int.tdiv a0 16) % 256) == 14)), (by first | rfl | (simp; done) | (simp [*]; done)), H', ⟨by first | omega | exact Nat.le_refl _⟩, by repeat (first | exact Drawn0.refl _ | apply Drawn0.step)⟩
  case rest =>
   clear HC4
   try clear c1
   try clear c2
   try clear c2b0
   try clear c2b1
   try clear p2
   try clear c3
   try clear c3b0
   try clear c3b1
   try clear c5
   try clear c5b0
   try clear c5b1
   try clear c6
   try clear c6b0
   try clear c6b1
   try clear p6
   try clear c7
   try clear c7b0
   try clear c7b1
   try clear c8
   try clear c8b0
   try clear c8b1
   try clear c9
   try clear c9b0
   try clear c9b1
   try clear c10
   try clear c10b0
   try clear c10b1
   try clear c11
   try clear c11b0
   try clear c11b1
   try clear c12
   try clear c12b0
   try clear c12b1
   try clear c13
   try clear c13b0
   try clear c13b1
   obtain ⟨kq, x16_3, rfl, HA, HJ3, ⟨mc3, rfl⟩⟩ := hcut
   cases kq with
   | zero => exact absurd HA.out (by simp [vesperref02_FormOf.j0])
   | succ kj3 =>
    have H := HA.out
    clear HA
    simp only [vesperref02_FormOf.j0] at H
    by_cases c14 : x16_3 = true
    ·subst c14
     have H1 : (some 2) = some r := by rw [if_pos rfl] at H; exact H
     clear H
     have H := H1
     clear H1
     obtain rfl := Option.some.inj H
     go_wp2
     go_ret
     exact ⟨by first | rfl | (simp; done) | (simp [*]; done), by repeat (first | exact Drawn0.refl _ | apply Drawn0.step)⟩
    ·replace c14 := Bool.eq_false_iff.mpr c14
     subst c14
     have H1 : (if ((Int.tdiv a0 16) % 256) = 3 then (if (wrap64 (Int.tmod a0 16)) = 8 then (some 1) else (some 5)) else (if ((Int.tdiv a0 16) % 256) = 6 then (if (Int.tmod (wrap64 (Int.tmod a0 16)) 8) = 0 then (some 1) else (some 3)) else (if ((Int.tdiv a0 16) % 256) = 7 then (if (wrap64 (Int.tmod a0 16)) = 12 then (vesperref02_FormOf.j1 kj3 true) else (if (wrap64 (Int.tmod a0 16)) = 13 then (vesperref02_FormOf.j1 kj3 true) else (vesperref02_FormOf.j1 kj3 ((wrap64 (Int.tmod a0 16)) == 15)))) else (if ((Int.tdiv a0 16) % 256) = 12 then (if (wrap64 (Int.tmod a0 16)) ≤ 3 then (vesperref02_FormOf.j2 kj3 true) else (if (wrap64 (Int.tmod a0 16)) ≥ 9 then (vesperref02_FormOf.j2 kj3 (decide ((wrap64 (Int.tmod a0 16)) ≤ 11))) else (vesperref02_FormOf.j2 kj3 false))) else (if (wrap64 (Int.tmod a0 16)) ≥ 8 then (if (wrap64 (Int.tmod a0 16)) = 14 then (some 1) else (some 4)) else (some 1)))))) = some r := by rw [if_neg (show ¬ (false = true) by decide)] at H; exact H
     clear H
     have H := H1
     clear H1
     by_cases c15 : ((Int.tdiv a0 16) % 256) = 3
     ·rw [if_pos c15] at H
      have c15b0 : (((Int.tdiv a0 16) % 256) == 3) = true := beq_iff_eq.mpr c15
      have c15b1 : (((Int.tdiv a0 16) % 256) != 3) = false := bne_eq_false_iff_eq.mpr c15
      clear c15
      by_cases c16 : (wrap64 (Int.tmod a0 16)) = 8
      ·rw [if_pos c16] at H
       have c16b0 : ((wrap64 (Int.tmod a0 16)) == 8) = true := beq_iff_eq.mpr c16
       have c16b1 : ((wrap64 (Int.tmod a0 16)) != 8) = false := bne_eq_false_iff_eq.mpr c16
       clear c16
       obtain rfl := Option.some.inj H
       go_wp2
       go_ret
       exact ⟨by first | rfl | (simp; done) | (simp [*]; done), by repeat (first | exact Drawn0.refl _ | apply Drawn0.step)⟩
      ·rw [if_neg c16] at H
       have c16b0 : ((wrap64 (Int.tmod a0 16)) == 8) = false := beq_eq_false_iff_ne.mpr c16
       have c16b1 : ((wrap64 (Int.tmod a0 16)) != 8) = true := bne_iff_ne.mpr c16
       obtain rfl := Option.some.inj H
       go_wp2
       go_ret
       exact ⟨by first | rfl | (simp; done) | (simp [*]; done), by repeat (first | exact Drawn0.refl _ | apply Drawn0.step)⟩
     ·rw [if_neg c15] at H
      have c15b0 : (((Int.tdiv a0 16) % 256) == 3) = false := beq_eq_false_iff_ne.mpr c15
      have c15b1 : (((Int.tdiv a0 16) % 256) != 3) = true := bne_iff_ne.mpr c15
      by_cases c17 : ((Int.tdiv a0 16) % 256) = 6
      ·rw [if_pos c17] at H
       have c17b0 : (((Int.tdiv a0 16) % 256) == 6) = true := beq_iff_eq.mpr c17
       have c17b1 : (((Int.tdiv a0 16) % 256) != 6) = false := bne_eq_false_iff_eq.mpr c17
       clear c17
       by_cases c18 : (Int.tmod (wrap64 (Int.tmod a0 16)) 8) = 0
       ·rw [if_pos c18] at H
        have c18b0 : ((Int.tmod (wrap64 (Int.tmod a0 16)) 8) == 0) = true := beq_iff_eq.mpr c18
        have c18b1 : ((Int.tmod (wrap64 (Int.tmod a0 16)) 8) != 0) = false := bne_eq_false_iff_eq.mpr c18
        clear c18
        obtain rfl := Option.some.inj H
        go_wp2
        go_ret
        exact ⟨by first | rfl | (simp; done) | (simp [*]; done), by repeat (first | exact Drawn0.refl _ | apply Drawn0.step)⟩
       ·rw [if_neg c18] at H
        have c18b0 : ((Int.tmod (wrap64 (Int.tmod a0 16)) 8) == 0) = false := beq_eq_false_iff_ne.mpr c18
        have c18b1 : ((Int.tmod (wrap64 (Int.tmod a0 16)) 8) != 0) = true := bne_iff_ne.mpr c18
        obtain rfl := Option.some.inj H
        go_wp2
        go_ret
        exact ⟨by first | rfl | (simp; done) | (simp [*]; done), by repeat (first | exact Drawn0.refl _ | apply Drawn0.step)⟩
      ·rw [if_neg c17] at H
       have c17b0 : (((Int.tdiv a0 16) % 256) == 6) = false := beq_eq_false_iff_ne.mpr c17
       have c17b1 : (((Int.tdiv a0 16) % 256) != 6) = true := bne_iff_ne.mpr c17
       by_cases c19 : ((Int.tdiv a0 16) % 256) = 7
       ·rw [if_pos c19] at H
        have c19b0 : (((Int.tdiv a0 16) % 256) == 7) = true := beq_iff_eq.mpr c19
        have c19b1 : (((Int.tdiv a0 16) % 256) != 7) = false := bne_eq_false_iff_eq.mpr c19
        clear c19
        have HC20 := Aside0.mk H
        clear H
        go_upto_region 28 with (fail)
        go_cut [47] (fun v47 wc => ∃ (kq : Nat) (x47_19 : Bool), v47 = .bool x47_19 ∧ Aside0 (vesperref02_FormOf.j1 kq x47_19 = some r) ∧ Aside0 (kq ≤ kj3) ∧ Drawn0 w wc)
        case first =>
         have H := HC20.out
         clear HC20
         by_cases c21 : (wrap64 (Int.tmod a0 16)) = 12
         ·rw [if_pos c21] at H
          have c21b0 : ((wrap64 (Int.tmod a0 16)) == 12) = true := beq_iff_eq.mpr c21
          have c21b1 : ((wrap64 (Int.tmod a0 16)) != 12) = false := bne_eq_false_iff_eq.mpr c21
          clear c21
          (first | rw [c21b0] | (simp only [i64_w, i32_w]; rw [c21b0]) | skip)
          have H' := Aside0.mk H
          clear H
          go_wp2
          go_meet
          case rel => exact ⟨_, (true), (by first | rfl | (simp; done) | (simp [*]; done)), H', ⟨by have := HJ3.out; first | omega | exact Nat.le_refl _⟩, by repeat (first | exact Drawn0.refl _ | apply Drawn0.step)⟩
         ·rw [if_neg c21] at H
          have c21b0 : ((wrap64 (Int.tmod a0 16)) == 12) = false := beq_eq_false_iff_ne.mpr c21
          have c21b1 : ((wrap64 (Int.tmod a0 16)) != 12) = true := bne_iff_ne.mpr c21
          (first | rw [c21b0] | (simp only [i64_w, i32_w]; rw [c21b0]) | skip)
          by_cases c22 : (wrap64 (Int.tmod a0 16)) = 13
          ·rw [if_pos c22] at H
           have c22b0 : ((wrap64 (Int.tmod a0 16)) == 13) = true := beq_iff_eq.mpr c22
           have c22b1 : ((wrap64 (Int.tmod a0 16)) != 13) = false := bne_eq_false_iff_eq.mpr c22
           clear c22
           have H' := Aside0.mk H
           clear H
           go_wp2
           go_meet
           case rel => exact ⟨_, (true), (by first | rfl | (simp; done) | (simp [*]; done)), H', ⟨by have := HJ3.out; first | omega | exact Nat.le_refl _⟩, by repeat (first | exact Drawn0.refl _ | apply Drawn0.step)⟩
          ·rw [if_neg c22] at H
           have c22b0 : ((wrap64 (Int.tmod a0 16)) == 13) = false := beq_eq_false_iff_ne.mpr c22
           have c22b1 : ((wrap64 (Int.tmod a0 16)) != 13) = true := bne_iff_ne.mpr c22
           have H' := Aside0.mk H
           clear H
           go_wp2
           go_meet
           case rel => exact ⟨_, (((wrap64 (Int.tmod a0 16)) == 15)), (by first | rfl | (simp; done) | (simp [*]; done)), H', ⟨by have := HJ3.out; first | omega | exact Nat.le_refl _⟩, by repeat (first | exact Drawn0.refl _ | apply Drawn0.step)⟩
        case rest =>
         clear HC20
         try clear c1
         try clear c2
         try clear c2b0
         try clear c2b1
         try clear p2
         try clear c3
         try clear c3b0
         try clear c3b1
         try clear c5
         try clear c5b0
         try clear c5b1
         try clear c6
         try clear c6b0
         try clear c6b1
         try clear p6
         try clear c7
         try clear c7b0
         try clear c7b1
         try clear c8
         try clear c8b0
         try clear c8b1
         try clear c9
         try clear c9b0
         try clear c9b1
         try clear c10
         try clear c10b0
         try clear c10b1
         try clear c11
         try clear c11b0
         try clear c11b1
         try clear c12
         try clear c12b0
         try clear c12b1
         try clear c13
         try clear c13b0
         try clear c13b1
         try clear c14
         try clear c15
         try clear c15b0
         try clear c15b1
         try clear c16
         try clear c16b0
         try clear c16b1
         try clear c17
         try clear c17b0
         try clear c17b1
         try clear c18
         try clear c18b0
         try clear c18b1
         try clear c19
         try clear c19b0
         try clear c19b1
         try clear c21
         try clear c21b0
         try clear c21b1
         try clear c22
         try clear c22b0
         try clear c22b1
         try clear p2
         try clear p6
         obtain ⟨kq, x47_19, rfl, HA, HJ19, ⟨mc19, rfl⟩⟩ := hcut
         cases kq with
         | zero => exact absurd HA.out (by simp [vesperref02_FormOf.j1])
         | succ kj19 =>
          have H := HA.out
          clear HA
          simp only [vesperref02_FormOf.j1] at H
          by_cases c23 : x47_19 = true
          ·subst c23
           have H1 : (some 4) = some r := by rw [if_pos rfl] at H; exact H
           clear H
           have H := H1
           clear H1
           obtain rfl := Option.some.inj H
           go_wp2
           go_ret
           exact ⟨by first | rfl | (simp; done) | (simp [*]; done), by repeat (first | exact Drawn0.refl _ | apply Drawn0.step)⟩
          ·replace c23 := Bool.eq_false_iff.mpr c23
           subst c23
           have H1 : (some 1) = some r := by rw [if_neg (show ¬ (false = true) by decide)] at H; exact H
           clear H
           have H := H1
           clear H1
           obtain rfl := Option.some.inj H
           go_wp2
           go_ret
           exact ⟨by first | rfl | (simp; done) | (simp [*]; done), by repeat (first | exact Drawn0.refl _ | apply Drawn0.step)⟩
       ·rw [if_neg c19] at H
        have c19b0 : (((Int.tdiv a0 16) % 256) == 7) = false := beq_eq_false_iff_ne.mpr c19
        have c19b1 : (((Int.tdiv a0 16) % 256) != 7) = true := bne_iff_ne.mpr c19
        by_cases c24 : ((Int.tdiv a0 16) % 256) = 12
        ·rw [if_pos c24] at H
         have c24b0 : (((Int.tdiv a0 16) % 256) == 12) = true := beq_iff_eq.mpr c24
         have c24b1 : (((Int.tdiv a0 16) % 256) != 12) = false := bne_eq_false_iff_eq.mpr c24
         clear c24
         have HC25 := Aside0.mk H
         clear H
         go_upto_region 32 with (fail)
         go_cut [59] (fun v59 wc => ∃ (kq : Nat) (x59_24 : Bool), v59 = .bool x59_24 ∧ Aside0 (vesperref02_FormOf.j2 kq x59_24 = some r) ∧ Aside0 (kq ≤ kj3) ∧ Drawn0 w wc)
         case first =>
          have H := HC25.out
          clear HC25
          by_cases c26 : (wrap64 (Int.tmod a0 16)) ≤ 3
          ·rw [if_pos c26] at H
           have c26b0 : decide ((wrap64 (Int.tmod a0 16)) ≤ 3) = true := decide_eq_true c26
           clear c26
           (first | rw [c26b0] | (simp only [i64_w, i32_w]; rw [c26b0]) | skip)
           have H' := Aside0.mk H
           clear H
           go_wp2
           go_meet
           case rel => exact ⟨_, (true), (by first | rfl | (simp; done) | (simp [*]; done)), H', ⟨by have := HJ3.out; first | omega | exact Nat.le_refl _⟩, by repeat (first | exact Drawn0.refl _ | apply Drawn0.step)⟩
          ·rw [if_neg c26] at H
           have c26b0 : decide ((wrap64 (Int.tmod a0 16)) ≤ 3) = false := decide_eq_false c26
           clear c26
           (first | rw [c26b0] | (simp only [i64_w, i32_w]; rw [c26b0]) | skip)
           by_cases c27 : (wrap64 (Int.tmod a0 16)) ≥ 9
           ·rw [if_pos c27] at H
            have c27b0 : decide (9 ≤ (wrap64 (Int.tmod a0 16))) = true := decide_eq_true c27
            clear c27
            have H' := Aside0.mk H
            clear H
            go_wp2
            go_meet
            case rel => exact ⟨_, (decide ((wrap64 (Int.tmod a0 16)) ≤ 11)), (by first | rfl | (simp; done) | (simp [*]; done)), H', ⟨by have := HJ3.out; first | omega | exact Nat.le_refl _⟩, by repeat (first | exact Drawn0.refl _ | apply Drawn0.step)⟩
           ·rw [if_neg c27] at H
            have c27b0 : decide (9 ≤ (wrap64 (Int.tmod a0 16))) = false := decide_eq_false c27
            clear c27
            have H' := Aside0.mk H
            clear H
            go_wp2
            go_meet
            case rel => exact ⟨_, (false), (by first | rfl | (simp; done) | (simp [*]; done)), H', ⟨by have := HJ3.out; first | omega | exact Nat.le_refl _⟩, by repeat (first | exact Drawn0.refl _ | apply Drawn0.step)⟩
         case rest =>
          clear HC25
          try clear c1
          try clear c2
          try clear c2b0
          try clear c2b1
          try clear p2
          try clear c3
          try clear c3b0
          try clear c3b1
          try clear c5
          try clear c5b0
          try clear c5b1
          try clear c6
          try clear c6b0
          try clear c6b1
          try clear p6
          try clear c7
          try clear c7b0
          try clear c7b1
          try clear c8
          try clear c8b0
          try clear c8b1
          try clear c9
          try clear c9b0
          try clear c9b1
          try clear c10
          try clear c10b0
          try clear c10b1
          try clear c11
          try clear c11b0
          try clear c11b1
          try clear c12
          try clear c12b0
          try clear c12b1
          try clear c13
          try clear c13b0
          try clear c13b1
          try clear c14
          try clear c15
          try clear c15b0
          try clear c15b1
          try clear c16
          try clear c16b0
          try clear c16b1
          try clear c17
          try clear c17b0
          try clear c17b1
          try clear c18
          try clear c18b0
          try clear c18b1
          try clear c19
          try clear c19b0
          try clear c19b1
          try clear c21
          try clear c21b0
          try clear c21b1
          try clear c22
          try clear c22b0
          try clear c22b1
          try clear c23
          try clear c24
          try clear c24b0
          try clear c24b1
          try clear c26
          try clear c26b0
          try clear c27
          try clear c27b0
          try clear p2
          try clear p6
          obtain ⟨kq, x59_24, rfl, HA, HJ24, ⟨mc24, rfl⟩⟩ := hcut
          cases kq with
          | zero => exact absurd HA.out (by simp [vesperref02_FormOf.j2])
          | succ kj24 =>
           have H := HA.out
           clear HA
           simp only [vesperref02_FormOf.j2] at H
           by_cases c28 : x59_24 = true
           ·subst c28
            have H1 : (some 6) = some r := by rw [if_pos rfl] at H; exact H
            clear H
            have H := H1
            clear H1
            obtain rfl := Option.some.inj H
            go_wp2
            go_ret
            exact ⟨by first | rfl | (simp; done) | (simp [*]; done), by repeat (first | exact Drawn0.refl _ | apply Drawn0.step)⟩
           ·replace c28 := Bool.eq_false_iff.mpr c28
            subst c28
            have H1 : (some 1) = some r := by rw [if_neg (show ¬ (false = true) by decide)] at H; exact H
            clear H
            have H := H1
            clear H1
            obtain rfl := Option.some.inj H
            go_wp2
            go_ret
            exact ⟨by first | rfl | (simp; done) | (simp [*]; done), by repeat (first | exact Drawn0.refl _ | apply Drawn0.step)⟩
        ·rw [if_neg c24] at H
         have c24b0 : (((Int.tdiv a0 16) % 256) == 12) = false := beq_eq_false_iff_ne.mpr c24
         have c24b1 : (((Int.tdiv a0 16) % 256) != 12) = true := bne_iff_ne.mpr c24
         by_cases c29 : (wrap64 (Int.tmod a0 16)) ≥ 8
         ·rw [if_pos c29] at H
          have c29b0 : decide (8 ≤ (wrap64 (Int.tmod a0 16))) = true := decide_eq_true c29
          clear c29
          by_cases c30 : (wrap64 (Int.tmod a0 16)) = 14
          ·rw [if_pos c30] at H
           have c30b0 : ((wrap64 (Int.tmod a0 16)) == 14) = true := beq_iff_eq.mpr c30
           have c30b1 : ((wrap64 (Int.tmod a0 16)) != 14) = false := bne_eq_false_iff_eq.mpr c30
           clear c30
           obtain rfl := Option.some.inj H
           go_wp2
           go_ret
           exact ⟨by first | rfl | (simp; done) | (simp [*]; done), by repeat (first | exact Drawn0.refl _ | apply Drawn0.step)⟩
          ·rw [if_neg c30] at H
           have c30b0 : ((wrap64 (Int.tmod a0 16)) == 14) = false := beq_eq_false_iff_ne.mpr c30
           have c30b1 : ((wrap64 (Int.tmod a0 16)) != 14) = true := bne_iff_ne.mpr c30
           obtain rfl := Option.some.inj H
           go_wp2
           go_ret
           exact ⟨by first | rfl | (simp; done) | (simp [*]; done), by repeat (first | exact Drawn0.refl _ | apply Drawn0.step)⟩
         ·rw [if_neg c29] at H
          have c29b0 : decide (8 ≤ (wrap64 (Int.tmod a0 16))) = false := decide_eq_false c29
          clear c29
          obtain rfl := Option.some.inj H
          go_wp2
          go_ret
          exact ⟨by first | rfl | (simp; done) | (simp [*]; done), by repeat (first | exact Drawn0.refl _ | apply Drawn0.step)⟩
end Go.Proofs.YtjedbamcjgabpaaDoor.PSo
/- Written by a program of this session (gprint.py, over the kit's printer): functions of the seat YtjedbamcjgabpaaDoor and their contracts. No condition but each contract's own. -/
namespace Go.Proofs.YtjedbamcjgabpaaDoor.PSo
open Go.RowKit Go.Proofs.YtjedbamcjgabpaaDoorW.PrintWords Go.Proofs.YtjedbamcjgabpaaDoorW.PrintLast Go.Proofs.YtjedbamcjgabpaaDoorW.PrintMore
attribute [local go_sem] max2_int min2_int max_two min_two max_three min_three max_four min_four   -- for this text's walks alone
set_option linter.unusedVariables false
set_option linter.unusedSimpArgs false

/-! ### vesperref02_Long: function 74 -/
def vesperref02_Long.f (a0 : Int) : Option (Bool) := some (((Int.tdiv a0 16) % 256) == 12)
set_option maxHeartbeats 8000000 in
set_option maxRecDepth 100000 in
theorem vesperref02_Long.calls (a0 : Int) (r : Bool) (w : World) (h : vesperref02_Long.f a0 = some r) :
 Calls Tryd.prog 74 #[.int .u8 a0] w fun e w' => e = .returned (.bool r) ∧ Drawn0 w w' := by
 have H : (some (((Int.tdiv a0 16) % 256) == 12)) = some r := h
 clear h
 obtain rfl := Option.some.inj H
 go_enter Tryd.func74, Tryd.ntmps74
 go_wp2
 go_ret
 exact ⟨by first | rfl | (simp; done) | (simp [*]; done), by repeat (first | exact Drawn0.refl _ | apply Drawn0.step)⟩
end Go.Proofs.YtjedbamcjgabpaaDoor.PSo
/- Written by a program of this session (gprint.py, over the kit's printer): functions of the seat YtjedbamcjgabpaaDoor and their contracts. No condition but each contract's own. -/
namespace Go.Proofs.YtjedbamcjgabpaaDoor.PSo
open Go.RowKit Go.Proofs.YtjedbamcjgabpaaDoorW.PrintWords Go.Proofs.YtjedbamcjgabpaaDoorW.PrintLast Go.Proofs.YtjedbamcjgabpaaDoorW.PrintMore
attribute [local go_sem] max2_int min2_int max_two min_two max_three min_three max_four min_four   -- for this text's walks alone
set_option linter.unusedVariables false
set_option linter.unusedSimpArgs false

/-! ### vesperref02_Info: function 55 -/
def vesperref02_Info.f (k : Nat) (a0 : Int) : Option (ByteArray × Int × Int × Int) := (vesperref02_FormOf.f k a0).bind fun t273 => ((vesperref02_Long.f a0).bind fun t274 => (if t274 = true then ((vesperref02_Name.f a0).bind fun t275 => ((vesperref02_Bytes.f k t273).bind fun t276 => (some (t275, t273, t276, 3)))) else ((vesperref02_Name.f a0).bind fun t277 => ((vesperref02_Bytes.f k t273).bind fun t278 => (some (t277, t273, t278, 2))))))
theorem vesperref02_Info.mono : ∀ a0 k, LeO (vesperref02_Info.f k a0) (vesperref02_Info.f (k + 1) a0) := by
 intro a0 k
 unfold vesperref02_Info.f
 repeat' first
  | (with_reducible exact vesperref02_Bytes.mono _ _)
  | (with_reducible exact vesperref02_FormOf.mono _ _)
  | (with_reducible exact LeO.refl _)
  | (with_reducible exact LeO.none _)
  | (with_reducible refine LeO.ite ?_ ?_)
  | (with_reducible refine LeO.bind ?_ (fun _ => ?_))
  | exact vesperref02_Bytes.mono _ _
  | exact vesperref02_FormOf.mono _ _
  | exact LeO.none _
  | refine LeO.ite ?_ ?_
  | refine LeO.bind ?_ (fun _ => ?_)
set_option maxHeartbeats 8000000 in
set_option maxRecDepth 100000 in
theorem vesperref02_Info.calls (k : Nat) (a0 : Int) (r1 : ByteArray) (r2 : Int) (r3 : Int) (r4 : Int) (w : World) (h : vesperref02_Info.f k a0 = some (r1, r2, r3, r4)) :
 Calls Tryd.prog 55 #[.int .u8 a0] w fun e w' => e = .returned (.agg #[.string r1, .int .u8 r2, .int .i64 r3, .int .i64 r4]) ∧ Below w.heap.size w w' := by
 have hu72 := Tryd.underlying72
 have HB := Aside0.mk (Below.refl w.heap.size w)
 have H : ((vesperref02_FormOf.f k a0).bind fun t273 => ((vesperref02_Long.f a0).bind fun t274 => (if t274 = true then ((vesperref02_Name.f a0).bind fun t275 => ((vesperref02_Bytes.f k t273).bind fun t276 => (some (t275, t273, t276, 3)))) else ((vesperref02_Name.f a0).bind fun t277 => ((vesperref02_Bytes.f k t273).bind fun t278 => (some (t277, t273, t278, 2))))))) = some (r1, r2, r3, r4) := h
 clear h
 replace H := Option.bind_eq_some_iff.mp H
 obtain ⟨t273, A20, H⟩ := H
 replace H : ((vesperref02_Long.f a0).bind fun t274 => (if t274 = true then ((vesperref02_Name.f a0).bind fun t275 => ((vesperref02_Bytes.f k t273).bind fun t276 => (some (t275, t273, t276, 3)))) else ((vesperref02_Name.f a0).bind fun t277 => ((vesperref02_Bytes.f k t273).bind fun t278 => (some (t277, t273, t278, 2)))))) = some (r1, r2, r3, r4) := H
 have A2 := Aside0.mk A20
 clear A20
 replace H := Option.bind_eq_some_iff.mp H
 obtain ⟨t274, A30, H⟩ := H
 replace H : (if t274 = true then ((vesperref02_Name.f a0).bind fun t275 => ((vesperref02_Bytes.f k t273).bind fun t276 => (some (t275, t273, t276, 3)))) else ((vesperref02_Name.f a0).bind fun t277 => ((vesperref02_Bytes.f k t273).bind fun t278 => (some (t277, t273, t278, 2))))) = some (r1, r2, r3, r4) := H
 have A3 := Aside0.mk A30
 clear A30
 by_cases c4 : t274 = true
 ·subst c4
  have H1 : ((vesperref02_Name.f a0).bind fun t275 => ((vesperref02_Bytes.f k t273).bind fun t276 => (some (t275, t273, t276, 3)))) = some (r1, r2, r3, r4) := by rw [if_pos rfl] at H; exact H
  clear H
  have H := H1
  clear H1
  replace H := Option.bind_eq_some_iff.mp H
  obtain ⟨t275, A50, H⟩ := H
  replace H : ((vesperref02_Bytes.f k t273).bind fun t276 => (some (t275, t273, t276, 3))) = some (r1, r2, r3, r4) := H
  have A5 := Aside0.mk A50
  clear A50
  replace H := Option.bind_eq_some_iff.mp H
  obtain ⟨t276, A60, H⟩ := H
  replace H : (some (t275, t273, t276, 3)) = some (r1, r2, r3, r4) := H
  have A6 := Aside0.mk A60
  clear A60
  simp only [Option.some.injEq, Prod.mk.injEq] at H
  obtain ⟨rfl, rfl, rfl, rfl⟩ := H
  go_enter Tryd.func55, Tryd.ntmps55
  go_wp2_with (first | ((with_reducible refine gate_dst (N := 2) rfl ?_); refine box_event ?hg (N := 2) ?hd (cs := #[.string (⟨#[]⟩ : ByteArray), .int .u8 0, .int .i64 0, .int .i64 0]) (t := 72) ?hr ?_; (case hd => rfl); (case hg => rfl); (case hr => first | (go_simp; done) | (go_simp; rfl)); intro gb272 hg w7 hbox hb; have n0_ := Aside0.mk (below_step (by repeat (first | (with_reducible first | exact HB.out | apply below_alloc | apply pw_below_drewN | apply below_drew1) | exact HB.out)) hb); have n1_ := Aside0.mk (hbox); have n2_ := Aside0.mk ((by rw [hg]; exact (below_size (by repeat (first | (with_reducible first | exact HB.out | apply below_alloc | apply pw_below_drewN | apply below_drew1) | exact HB.out))) : w.heap.size ≤ gb272)); have n3_ := Aside0.mk ((by rw [hg]; exact (below_size (by repeat (first | (with_reducible first | exact HB.out | apply below_alloc | apply pw_below_drewN | apply below_drew1) | exact HB.out))) : w.heap.size ≤ gb272)); clear HB; have HB := n0_; have BK272 := n1_; have GW272 := n2_; have GE272 := n3_; clear n0_ n1_ n2_ n3_; clear hb hbox hg) | ((with_reducible refine gate_callee (f := 73) rfl ?_); refine goesL_ (some 6) rfl rfl Tryd.func73 (by kernel_rfl) rfl #[.int .u8 a0] rfl (by (try simp only [List.map_toArray, List.map_cons, List.map_nil]); first | done | rfl | (simp only [List.length_drop, List.length_take]; rfl)) ?_; (with_reducible refine (vesperref02_FormOf.calls k a0 t273 _ A2.out).mono ?_); rintro e w' ⟨rfl, ⟨nd, rfl⟩⟩; refine ⟨_, rfl, ?_⟩; (try (rw [drewN_self w7]; generalize hq_ : World.drewN w7 _ = w7; have n0_ : Aside0 (w7.heap[gb272]? = some (.cells #[.string (⟨#[]⟩ : ByteArray), .int .u8 0, .int .i64 0, .int .i64 0] 72 (0, 0))) := ⟨by rw [← hq_]; exact (by (with_reducible repeat (first | refine blk_drewN ?_ _ | refine blk_drew ?_ | refine blk_alloc ?_ _)); exact BK272.out)⟩; have n1_ : Aside0 (Below w.heap.size w w7) := ⟨by rw [← hq_]; exact (by repeat (first | (with_reducible first | exact HB.out | apply below_alloc | apply pw_below_drewN | apply below_drew1 | refine below_set ?_ GE272.out) | exact HB.out))⟩; clear BK272 HB hq_; have BK272 := n0_; have HB := n1_; clear n0_ n1_))) | ((with_reducible refine gate_callee (f := 74) rfl ?_); refine goesL_ (some 8) rfl rfl Tryd.func74 (by kernel_rfl) rfl #[.int .u8 a0] rfl (by (try simp only [List.map_toArray, List.map_cons, List.map_nil]); first | done | rfl | (simp only [List.length_drop, List.length_take]; rfl)) ?_; (with_reducible refine (vesperref02_Long.calls a0 true _ A3.out).mono ?_); rintro e w' ⟨rfl, ⟨nd, rfl⟩⟩; refine ⟨_, rfl, ?_⟩; (try (rw [drewN_self w7]; generalize hq_ : World.drewN w7 _ = w7; have n0_ : Aside0 (w7.heap[gb272]? = some (.cells #[.string (⟨#[]⟩ : ByteArray), .int .u8 0, .int .i64 0, .int .i64 0] 72 (0, 0))) := ⟨by rw [← hq_]; exact (by (with_reducible repeat (first | refine blk_drewN ?_ _ | refine blk_drew ?_ | refine blk_alloc ?_ _)); exact BK272.out)⟩; have n1_ : Aside0 (Below w.heap.size w w7) := ⟨by rw [← hq_]; exact (by repeat (first | (with_reducible first | exact HB.out | apply below_alloc | apply pw_below_drewN | apply below_drew1 | refine below_set ?_ GE272.out) | exact HB.out))⟩; clear BK272 HB hq_; have BK272 := n0_; have HB := n1_; clear n0_ n1_))) | ((with_reducible refine gate_callee (f := 72) rfl ?_); refine goesL_ (some 10) rfl rfl Tryd.func72 (by kernel_rfl) rfl #[.int .u8 a0] rfl (by (try simp only [List.map_toArray, List.map_cons, List.map_nil]); first | done | rfl | (simp only [List.length_drop, List.length_take]; rfl)) ?_; (with_reducible refine (vesperref02_Name.calls a0 t275 _ A5.out).mono ?_); rintro e w8 ⟨rfl, hb⟩; refine ⟨_, rfl, ?_⟩; have n0_ := Aside0.mk (blk_below (g := gb272) (o := .cells #[.string (⟨#[]⟩ : ByteArray), .int .u8 0, .int .i64 0, .int .i64 0] 72 (0, 0)) (by (with_reducible repeat (first | refine blk_drewN ?_ _ | refine blk_drew ?_ | refine blk_alloc ?_ _)); exact BK272.out) hb); have n1_ := Aside0.mk (below_step (by repeat (first | (with_reducible first | exact HB.out | apply below_alloc | apply pw_below_drewN | apply below_drew1 | refine below_set ?_ GE272.out) | exact HB.out)) hb); clear BK272; clear HB; have BK272 := n0_; have HB := n1_; clear n0_ n1_; (try clear hb); (try clear hb2); (try clear hk); (try clear hi)) | ((with_reducible refine gate_callee (f := 75) rfl ?_); refine goesL_ (some 13) rfl rfl Tryd.func75 (by kernel_rfl) rfl #[.int .u8 t273] rfl (by (try simp only [List.map_toArray, List.map_cons, List.map_nil]); first | done | rfl | (simp only [List.length_drop, List.length_take]; rfl)) ?_; (with_reducible refine (vesperref02_Bytes.calls k t273 t276 _ A6.out).mono ?_); rintro e w' ⟨rfl, ⟨nd, rfl⟩⟩; refine ⟨_, rfl, ?_⟩; (try (rw [drewN_self w8]; generalize hq_ : World.drewN w8 _ = w8; have n0_ : Aside0 (w8.heap[gb272]? = some (.cells #[.string (⟨#[]⟩ : ByteArray), .int .u8 0, .int .i64 0, .int .i64 0] 72 (0, 0))) := ⟨by rw [← hq_]; exact (by (with_reducible repeat (first | refine blk_drewN ?_ _ | refine blk_drew ?_ | refine blk_alloc ?_ _)); exact BK272.out)⟩; have n1_ : Aside0 (Below w.heap.size w w8) := ⟨by rw [← hq_]; exact (by repeat (first | (with_reducible first | exact HB.out | apply below_alloc | apply pw_below_drewN | apply below_drew1 | refine below_set ?_ GE272.out) | exact HB.out))⟩; clear BK272 HB hq_; have BK272 := n0_; have HB := n1_; clear n0_ n1_)); have hcz9_0 : w8.cell? ⟨gb272, 0, none⟩ = some (.string (⟨#[]⟩ : ByteArray)) := (blk_cell BK272.out 0).trans rfl; have hcz9_1 : w8.cell? ⟨gb272, 1, none⟩ = some (.int .u8 0) := (blk_cell BK272.out 1).trans rfl; have hcz9_2 : w8.cell? ⟨gb272, 2, none⟩ = some (.int .i64 0) := (blk_cell BK272.out 2).trans rfl; have hcz9_3 : w8.cell? ⟨gb272, 3, none⟩ = some (.int .i64 0) := (blk_cell BK272.out 3).trans rfl; have hfz9_0 := blk_frozen BK272.out 0; have hfz9_1 := blk_frozen BK272.out 1; have hfz9_2 := blk_frozen BK272.out 2; have hfz9_3 := blk_frozen BK272.out 3))
  refine bodyPost_ret (results_cell_row rfl _ _ gb272 72 #[.string t275, .int .u8 t273, .int .i64 t276, .int .i64 3] (0, 0) _ rfl (by (with_reducible repeat (first | refine blk_drewN ?_ _ | refine blk_drew ?_ | refine blk_alloc ?_ _)); refine blk_put (cs := #[.string t275, .int .u8 t273, .int .i64 t276, .int .i64 0]) ?_ 3 _ rfl; (with_reducible repeat (first | refine blk_drewN ?_ _ | refine blk_drew ?_ | refine blk_alloc ?_ _)); refine blk_put (cs := #[.string t275, .int .u8 t273, .int .i64 0, .int .i64 0]) ?_ 2 _ rfl; (with_reducible repeat (first | refine blk_drewN ?_ _ | refine blk_drew ?_ | refine blk_alloc ?_ _)); refine blk_put (cs := #[.string t275, .int .u8 0, .int .i64 0, .int .i64 0]) ?_ 1 _ rfl; (with_reducible repeat (first | refine blk_drewN ?_ _ | refine blk_drew ?_ | refine blk_alloc ?_ _)); refine blk_put (cs := #[.string (⟨#[]⟩ : ByteArray), .int .u8 0, .int .i64 0, .int .i64 0]) ?_ 0 _ rfl; (with_reducible repeat (first | refine blk_drewN ?_ _ | refine blk_drew ?_ | refine blk_alloc ?_ _)); exact BK272.out) Tryd.underlying72 rfl (by kernel_rfl)) rfl ?_
  exact ⟨by first | rfl | (simp [errW_none, errW_some] <;> rfl) | (simp [*, errW_none, errW_some] <;> rfl), by repeat (first | (with_reducible first | exact HB.out | apply below_alloc | apply pw_below_drewN | apply below_drew1 | refine below_set ?_ GE272.out) | exact HB.out)⟩
 ·replace c4 := Bool.eq_false_iff.mpr c4
  subst c4
  have H1 : ((vesperref02_Name.f a0).bind fun t277 => ((vesperref02_Bytes.f k t273).bind fun t278 => (some (t277, t273, t278, 2)))) = some (r1, r2, r3, r4) := by rw [if_neg (show ¬ (false = true) by decide)] at H; exact H
  clear H
  have H := H1
  clear H1
  replace H := Option.bind_eq_some_iff.mp H
  obtain ⟨t277, A100, H⟩ := H
  replace H : ((vesperref02_Bytes.f k t273).bind fun t278 => (some (t277, t273, t278, 2))) = some (r1, r2, r3, r4) := H
  have A10 := Aside0.mk A100
  clear A100
  replace H := Option.bind_eq_some_iff.mp H
  obtain ⟨t278, A110, H⟩ := H
  replace H : (some (t277, t273, t278, 2)) = some (r1, r2, r3, r4) := H
  have A11 := Aside0.mk A110
  clear A110
  simp only [Option.some.injEq, Prod.mk.injEq] at H
  obtain ⟨rfl, rfl, rfl, rfl⟩ := H
  go_enter Tryd.func55, Tryd.ntmps55
  go_wp2_with (first | ((with_reducible refine gate_dst (N := 2) rfl ?_); refine box_event ?hg (N := 2) ?hd (cs := #[.string (⟨#[]⟩ : ByteArray), .int .u8 0, .int .i64 0, .int .i64 0]) (t := 72) ?hr ?_; (case hd => rfl); (case hg => rfl); (case hr => first | (go_simp; done) | (go_simp; rfl)); intro gb272 hg w12 hbox hb; have n0_ := Aside0.mk (below_step (by repeat (first | (with_reducible first | exact HB.out | apply below_alloc | apply pw_below_drewN | apply below_drew1) | exact HB.out)) hb); have n1_ := Aside0.mk (hbox); have n2_ := Aside0.mk ((by rw [hg]; exact (below_size (by repeat (first | (with_reducible first | exact HB.out | apply below_alloc | apply pw_below_drewN | apply below_drew1) | exact HB.out))) : w.heap.size ≤ gb272)); have n3_ := Aside0.mk ((by rw [hg]; exact (below_size (by repeat (first | (with_reducible first | exact HB.out | apply below_alloc | apply pw_below_drewN | apply below_drew1) | exact HB.out))) : w.heap.size ≤ gb272)); clear HB; have HB := n0_; have BK272 := n1_; have GW272 := n2_; have GE272 := n3_; clear n0_ n1_ n2_ n3_; clear hb hbox hg) | ((with_reducible refine gate_callee (f := 73) rfl ?_); refine goesL_ (some 6) rfl rfl Tryd.func73 (by kernel_rfl) rfl #[.int .u8 a0] rfl (by (try simp only [List.map_toArray, List.map_cons, List.map_nil]); first | done | rfl | (simp only [List.length_drop, List.length_take]; rfl)) ?_; (with_reducible refine (vesperref02_FormOf.calls k a0 t273 _ A2.out).mono ?_); rintro e w' ⟨rfl, ⟨nd, rfl⟩⟩; refine ⟨_, rfl, ?_⟩; (try (rw [drewN_self w12]; generalize hq_ : World.drewN w12 _ = w12; have n0_ : Aside0 (w12.heap[gb272]? = some (.cells #[.string (⟨#[]⟩ : ByteArray), .int .u8 0, .int .i64 0, .int .i64 0] 72 (0, 0))) := ⟨by rw [← hq_]; exact (by (with_reducible repeat (first | refine blk_drewN ?_ _ | refine blk_drew ?_ | refine blk_alloc ?_ _)); exact BK272.out)⟩; have n1_ : Aside0 (Below w.heap.size w w12) := ⟨by rw [← hq_]; exact (by repeat (first | (with_reducible first | exact HB.out | apply below_alloc | apply pw_below_drewN | apply below_drew1 | refine below_set ?_ GE272.out) | exact HB.out))⟩; clear BK272 HB hq_; have BK272 := n0_; have HB := n1_; clear n0_ n1_))) | ((with_reducible refine gate_callee (f := 74) rfl ?_); refine goesL_ (some 8) rfl rfl Tryd.func74 (by kernel_rfl) rfl #[.int .u8 a0] rfl (by (try simp only [List.map_toArray, List.map_cons, List.map_nil]); first | done | rfl | (simp only [List.length_drop, List.length_take]; rfl)) ?_; (with_reducible refine (vesperref02_Long.calls a0 false _ A3.out).mono ?_); rintro e w' ⟨rfl, ⟨nd, rfl⟩⟩; refine ⟨_, rfl, ?_⟩; (try (rw [drewN_self w12]; generalize hq_ : World.drewN w12 _ = w12; have n0_ : Aside0 (w12.heap[gb272]? = some (.cells #[.string (⟨#[]⟩ : ByteArray), .int .u8 0, .int .i64 0, .int .i64 0] 72 (0, 0))) := ⟨by rw [← hq_]; exact (by (with_reducible repeat (first | refine blk_drewN ?_ _ | refine blk_drew ?_ | refine blk_alloc ?_ _)); exact BK272.out)⟩; have n1_ : Aside0 (Below w.heap.size w w12) := ⟨by rw [← hq_]; exact (by repeat (first | (with_reducible first | exact HB.out | apply below_alloc | apply pw_below_drewN | apply below_drew1 | refine below_set ?_ GE272.out) | exact HB.out))⟩; clear BK272 HB hq_; have BK272 := n0_; have HB := n1_; clear n0_ n1_))) | ((with_reducible refine gate_callee (f := 72) rfl ?_); refine goesL_ (some 10) rfl rfl Tryd.func72 (by kernel_rfl) rfl #[.int .u8 a0] rfl (by (try simp only [List.map_toArray, List.map_cons, List.map_nil]); first | done | rfl | (simp only [List.length_drop, List.length_take]; rfl)) ?_; (with_reducible refine (vesperref02_Name.calls a0 t277 _ A10.out).mono ?_); rintro e w13 ⟨rfl, hb⟩; refine ⟨_, rfl, ?_⟩; have n0_ := Aside0.mk (blk_below (g := gb272) (o := .cells #[.string (⟨#[]⟩ : ByteArray), .int .u8 0, .int .i64 0, .int .i64 0] 72 (0, 0)) (by (with_reducible repeat (first | refine blk_drewN ?_ _ | refine blk_drew ?_ | refine blk_alloc ?_ _)); exact BK272.out) hb); have n1_ := Aside0.mk (below_step (by repeat (first | (with_reducible first | exact HB.out | apply below_alloc | apply pw_below_drewN | apply below_drew1 | refine below_set ?_ GE272.out) | exact HB.out)) hb); clear BK272; clear HB; have BK272 := n0_; have HB := n1_; clear n0_ n1_; (try clear hb); (try clear hb2); (try clear hk); (try clear hi)) | ((with_reducible refine gate_callee (f := 75) rfl ?_); refine goesL_ (some 13) rfl rfl Tryd.func75 (by kernel_rfl) rfl #[.int .u8 t273] rfl (by (try simp only [List.map_toArray, List.map_cons, List.map_nil]); first | done | rfl | (simp only [List.length_drop, List.length_take]; rfl)) ?_; (with_reducible refine (vesperref02_Bytes.calls k t273 t278 _ A11.out).mono ?_); rintro e w' ⟨rfl, ⟨nd, rfl⟩⟩; refine ⟨_, rfl, ?_⟩; (try (rw [drewN_self w13]; generalize hq_ : World.drewN w13 _ = w13; have n0_ : Aside0 (w13.heap[gb272]? = some (.cells #[.string (⟨#[]⟩ : ByteArray), .int .u8 0, .int .i64 0, .int .i64 0] 72 (0, 0))) := ⟨by rw [← hq_]; exact (by (with_reducible repeat (first | refine blk_drewN ?_ _ | refine blk_drew ?_ | refine blk_alloc ?_ _)); exact BK272.out)⟩; have n1_ : Aside0 (Below w.heap.size w w13) := ⟨by rw [← hq_]; exact (by repeat (first | (with_reducible first | exact HB.out | apply below_alloc | apply pw_below_drewN | apply below_drew1 | refine below_set ?_ GE272.out) | exact HB.out))⟩; clear BK272 HB hq_; have BK272 := n0_; have HB := n1_; clear n0_ n1_)); have hcz14_0 : w13.cell? ⟨gb272, 0, none⟩ = some (.string (⟨#[]⟩ : ByteArray)) := (blk_cell BK272.out 0).trans rfl; have hcz14_1 : w13.cell? ⟨gb272, 1, none⟩ = some (.int .u8 0) := (blk_cell BK272.out 1).trans rfl; have hcz14_2 : w13.cell? ⟨gb272, 2, none⟩ = some (.int .i64 0) := (blk_cell BK272.out 2).trans rfl; have hcz14_3 : w13.cell? ⟨gb272, 3, none⟩ = some (.int .i64 0) := (blk_cell BK272.out 3).trans rfl; have hfz14_0 := blk_frozen BK272.out 0; have hfz14_1 := blk_frozen BK272.out 1; have hfz14_2 := blk_frozen BK272.out 2; have hfz14_3 := blk_frozen BK272.out 3))
  refine bodyPost_ret (results_cell_row rfl _ _ gb272 72 #[.string t277, .int .u8 t273, .int .i64 t278, .int .i64 2] (0, 0) _ rfl (by (with_reducible repeat (first | refine blk_drewN ?_ _ | refine blk_drew ?_ | refine blk_alloc ?_ _)); refine blk_put (cs := #[.string t277, .int .u8 t273, .int .i64 t278, .int .i64 0]) ?_ 3 _ rfl; (with_reducible repeat (first | refine blk_drewN ?_ _ | refine blk_drew ?_ | refine blk_alloc ?_ _)); refine blk_put (cs := #[.string t277, .int .u8 t273, .int .i64 0, .int .i64 0]) ?_ 2 _ rfl; (with_reducible repeat (first | refine blk_drewN ?_ _ | refine blk_drew ?_ | refine blk_alloc ?_ _)); refine blk_put (cs := #[.string t277, .int .u8 0, .int .i64 0, .int .i64 0]) ?_ 1 _ rfl; (with_reducible repeat (first | refine blk_drewN ?_ _ | refine blk_drew ?_ | refine blk_alloc ?_ _)); refine blk_put (cs := #[.string (⟨#[]⟩ : ByteArray), .int .u8 0, .int .i64 0, .int .i64 0]) ?_ 0 _ rfl; (with_reducible repeat (first | refine blk_drewN ?_ _ | refine blk_drew ?_ | refine blk_alloc ?_ _)); exact BK272.out) Tryd.underlying72 rfl (by kernel_rfl)) rfl ?_
  exact ⟨by first | rfl | (simp [errW_none, errW_some] <;> rfl) | (simp [*, errW_none, errW_some] <;> rfl), by repeat (first | (with_reducible first | exact HB.out | apply below_alloc | apply pw_below_drewN | apply below_drew1 | refine below_set ?_ GE272.out) | exact HB.out)⟩
end Go.Proofs.YtjedbamcjgabpaaDoor.PSo
/- Written by a program of this session (gprint.py, over the kit's printer): functions of the seat YtjedbamcjgabpaaDoor and their contracts. No condition but each contract's own. -/
namespace Go.Proofs.YtjedbamcjgabpaaDoor.PSo
open Go.RowKit Go.Proofs.YtjedbamcjgabpaaDoorW.PrintWords Go.Proofs.YtjedbamcjgabpaaDoorW.PrintLast Go.Proofs.YtjedbamcjgabpaaDoorW.PrintMore
attribute [local go_sem] max2_int min2_int max_two min_two max_three min_three max_four min_four   -- for this text's walks alone
set_option linter.unusedVariables false
set_option linter.unusedSimpArgs false

/-! ### vesperref02_Find: function 35 -/
def vesperref02_Find.f (k : Nat) (a0 : ByteArray) : Option (ByteArray × Int × Int × Int × Bool) := (vesperref02_First.f k a0).bind fun t280 => (if t280 < 0 then (some ((⟨#[]⟩ : ByteArray), 0, 0, 0, false)) else ((vesperref02_Info.f k ((t280) % 256)).bind fun bt281 => (some (bt281.1, bt281.2.1, bt281.2.2.1, bt281.2.2.2, true))))
theorem vesperref02_Find.mono : ∀ a0 k, LeO (vesperref02_Find.f k a0) (vesperref02_Find.f (k + 1) a0) := by
 intro a0 k
 unfold vesperref02_Find.f
 repeat' first
  | (with_reducible exact vesperref02_First.mono _ _)
  | (with_reducible exact vesperref02_Info.mono _ _)
  | (with_reducible exact LeO.refl _)
  | (with_reducible exact LeO.none _)
  | (with_reducible refine LeO.ite ?_ ?_)
  | (with_reducible refine LeO.bind ?_ (fun _ => ?_))
  | exact vesperref02_First.mono _ _
  | exact vesperref02_Info.mono _ _
  | exact LeO.none _
  | refine LeO.ite ?_ ?_
  | refine LeO.bind ?_ (fun _ => ?_)
set_option maxHeartbeats 8000000 in
set_option maxRecDepth 100000 in
theorem vesperref02_Find.calls (k : Nat) (a0 : ByteArray) (r1 : ByteArray) (r2 : Int) (r3 : Int) (r4 : Int) (r5 : Bool) (w : World) (h : vesperref02_Find.f k a0 = some (r1, r2, r3, r4, r5)) :
 Calls Tryd.prog 35 #[.string a0] w fun e w' => e = .returned (.tuple #[.agg #[.string r1, .int .u8 r2, .int .i64 r3, .int .i64 r4], .bool r5]) ∧ Below w.heap.size w w' := by
 have hu72 := Tryd.underlying72
 have HB := Aside0.mk (Below.refl w.heap.size w)
 have H : ((vesperref02_First.f k a0).bind fun t280 => (if t280 < 0 then (some ((⟨#[]⟩ : ByteArray), 0, 0, 0, false)) else ((vesperref02_Info.f k ((t280) % 256)).bind fun bt281 => (some (bt281.1, bt281.2.1, bt281.2.2.1, bt281.2.2.2, true))))) = some (r1, r2, r3, r4, r5) := h
 clear h
 replace H := Option.bind_eq_some_iff.mp H
 obtain ⟨t280, A20, H⟩ := H
 replace H : (if t280 < 0 then (some ((⟨#[]⟩ : ByteArray), 0, 0, 0, false)) else ((vesperref02_Info.f k ((t280) % 256)).bind fun bt281 => (some (bt281.1, bt281.2.1, bt281.2.2.1, bt281.2.2.2, true)))) = some (r1, r2, r3, r4, r5) := H
 have A2 := Aside0.mk A20
 clear A20
 by_cases c3 : t280 < 0
 ·rw [if_pos c3] at H
  have c3b0 : decide (t280 < 0) = true := decide_eq_true c3
  clear c3
  simp only [Option.some.injEq, Prod.mk.injEq] at H
  obtain ⟨rfl, rfl, rfl, rfl, rfl⟩ := H
  go_enter Tryd.func35, Tryd.ntmps35
  go_wp2_with (first | ((with_reducible refine gate_dst (N := 2) rfl ?_); refine box_event ?hg (N := 2) ?hd (cs := #[.string (⟨#[]⟩ : ByteArray), .int .u8 0, .int .i64 0, .int .i64 0]) (t := 72) ?hr ?_; (case hd => rfl); (case hg => rfl); (case hr => first | (go_simp; done) | (go_simp; rfl)); intro gb279 hg w4 hbox hb; have n0_ := Aside0.mk (below_step (by repeat (first | (with_reducible first | exact HB.out | apply below_alloc | apply pw_below_drewN | apply below_drew1) | exact HB.out)) hb); have n1_ := Aside0.mk (hbox); have n2_ := Aside0.mk ((by rw [hg]; exact (below_size (by repeat (first | (with_reducible first | exact HB.out | apply below_alloc | apply pw_below_drewN | apply below_drew1) | exact HB.out))) : w.heap.size ≤ gb279)); have n3_ := Aside0.mk ((by rw [hg]; exact (below_size (by repeat (first | (with_reducible first | exact HB.out | apply below_alloc | apply pw_below_drewN | apply below_drew1) | exact HB.out))) : w.heap.size ≤ gb279)); clear HB; have HB := n0_; have BK279 := n1_; have GW279 := n2_; have GE279 := n3_; clear n0_ n1_ n2_ n3_; clear hb hbox hg) | ((with_reducible refine gate_callee (f := 54) rfl ?_); refine goesL_ (some 6) rfl rfl Tryd.func54 (by kernel_rfl) rfl #[.string a0] rfl (by (try simp only [List.map_toArray, List.map_cons, List.map_nil]); first | done | rfl | (simp only [List.length_drop, List.length_take]; rfl)) ?_; (with_reducible refine (vesperref02_First.calls k a0 t280 _ A2.out).mono ?_); rintro e w5 ⟨rfl, hb⟩; refine ⟨_, rfl, ?_⟩; have n0_ := Aside0.mk (blk_below (g := gb279) (o := .cells #[.string (⟨#[]⟩ : ByteArray), .int .u8 0, .int .i64 0, .int .i64 0] 72 (0, 0)) (by (with_reducible repeat (first | refine blk_drewN ?_ _ | refine blk_drew ?_ | refine blk_alloc ?_ _)); exact BK279.out) hb); have n1_ := Aside0.mk (below_step (by repeat (first | (with_reducible first | exact HB.out | apply below_alloc | apply pw_below_drewN | apply below_drew1 | refine below_set ?_ GE279.out) | exact HB.out)) hb); clear BK279; clear HB; have BK279 := n0_; have HB := n1_; clear n0_ n1_; (try clear hb); (try clear hb2); (try clear hk); (try clear hi); have hcz6_0 : w5.cell? ⟨gb279, 0, none⟩ = some (.string (⟨#[]⟩ : ByteArray)) := (blk_cell BK279.out 0).trans rfl; have hcz6_1 : w5.cell? ⟨gb279, 1, none⟩ = some (.int .u8 0) := (blk_cell BK279.out 1).trans rfl; have hcz6_2 : w5.cell? ⟨gb279, 2, none⟩ = some (.int .i64 0) := (blk_cell BK279.out 2).trans rfl; have hcz6_3 : w5.cell? ⟨gb279, 3, none⟩ = some (.int .i64 0) := (blk_cell BK279.out 3).trans rfl; have hfz6_0 := blk_frozen BK279.out 0; have hfz6_1 := blk_frozen BK279.out 1; have hfz6_2 := blk_frozen BK279.out 2; have hfz6_3 := blk_frozen BK279.out 3))
  refine bodyPost_ret (results_ct rfl _ _ gb279 72 #[.string (⟨#[]⟩ : ByteArray), .int .u8 0, .int .i64 0, .int .i64 0] (0, 0) _ rfl (by (with_reducible repeat (first | refine blk_drewN ?_ _ | refine blk_drew ?_ | refine blk_alloc ?_ _)); refine blk_put (cs := #[.string (⟨#[]⟩ : ByteArray), .int .u8 0, .int .i64 0, .int .i64 0]) ?_ 3 _ rfl; (with_reducible repeat (first | refine blk_drewN ?_ _ | refine blk_drew ?_ | refine blk_alloc ?_ _)); refine blk_put (cs := #[.string (⟨#[]⟩ : ByteArray), .int .u8 0, .int .i64 0, .int .i64 0]) ?_ 2 _ rfl; (with_reducible repeat (first | refine blk_drewN ?_ _ | refine blk_drew ?_ | refine blk_alloc ?_ _)); refine blk_put (cs := #[.string (⟨#[]⟩ : ByteArray), .int .u8 0, .int .i64 0, .int .i64 0]) ?_ 1 _ rfl; (with_reducible repeat (first | refine blk_drewN ?_ _ | refine blk_drew ?_ | refine blk_alloc ?_ _)); refine blk_put (cs := #[.string (⟨#[]⟩ : ByteArray), .int .u8 0, .int .i64 0, .int .i64 0]) ?_ 0 _ rfl; (with_reducible repeat (first | refine blk_drewN ?_ _ | refine blk_drew ?_ | refine blk_alloc ?_ _)); exact BK279.out) Tryd.underlying72 rfl (by kernel_rfl)) rfl ?_
  exact ⟨by first | rfl | (simp [errW_none, errW_some] <;> rfl) | (simp [*, errW_none, errW_some] <;> rfl), by repeat (first | (with_reducible first | exact HB.out | apply below_alloc | apply pw_below_drewN | apply below_drew1 | refine below_set ?_ GE279.out) | exact HB.out)⟩
 ·rw [if_neg c3] at H
  have c3b0 : decide (t280 < 0) = false := decide_eq_false c3
  clear c3
  replace H := Option.bind_eq_some_iff.mp H
  obtain ⟨⟨t281, t282, t283, t284⟩, A70, H⟩ := H
  replace H : (some (t281, t282, t283, t284, true)) = some (r1, r2, r3, r4, r5) := H
  have A7 := Aside0.mk A70
  clear A70
  simp only [Option.some.injEq, Prod.mk.injEq] at H
  obtain ⟨rfl, rfl, rfl, rfl, rfl⟩ := H
  go_enter Tryd.func35, Tryd.ntmps35
  go_wp2_with (first | ((with_reducible refine gate_dst (N := 2) rfl ?_); refine box_event ?hg (N := 2) ?hd (cs := #[.string (⟨#[]⟩ : ByteArray), .int .u8 0, .int .i64 0, .int .i64 0]) (t := 72) ?hr ?_; (case hd => rfl); (case hg => rfl); (case hr => first | (go_simp; done) | (go_simp; rfl)); intro gb279 hg w8 hbox hb; have n0_ := Aside0.mk (below_step (by repeat (first | (with_reducible first | exact HB.out | apply below_alloc | apply pw_below_drewN | apply below_drew1) | exact HB.out)) hb); have n1_ := Aside0.mk (hbox); have n2_ := Aside0.mk ((by rw [hg]; exact (below_size (by repeat (first | (with_reducible first | exact HB.out | apply below_alloc | apply pw_below_drewN | apply below_drew1) | exact HB.out))) : w.heap.size ≤ gb279)); have n3_ := Aside0.mk ((by rw [hg]; exact (below_size (by repeat (first | (with_reducible first | exact HB.out | apply below_alloc | apply pw_below_drewN | apply below_drew1) | exact HB.out))) : w.heap.size ≤ gb279)); clear HB; have HB := n0_; have BK279 := n1_; have GW279 := n2_; have GE279 := n3_; clear n0_ n1_ n2_ n3_; clear hb hbox hg) | ((with_reducible refine gate_callee (f := 54) rfl ?_); refine goesL_ (some 6) rfl rfl Tryd.func54 (by kernel_rfl) rfl #[.string a0] rfl (by (try simp only [List.map_toArray, List.map_cons, List.map_nil]); first | done | rfl | (simp only [List.length_drop, List.length_take]; rfl)) ?_; (with_reducible refine (vesperref02_First.calls k a0 t280 _ A2.out).mono ?_); rintro e w9 ⟨rfl, hb⟩; refine ⟨_, rfl, ?_⟩; have n0_ := Aside0.mk (blk_below (g := gb279) (o := .cells #[.string (⟨#[]⟩ : ByteArray), .int .u8 0, .int .i64 0, .int .i64 0] 72 (0, 0)) (by (with_reducible repeat (first | refine blk_drewN ?_ _ | refine blk_drew ?_ | refine blk_alloc ?_ _)); exact BK279.out) hb); have n1_ := Aside0.mk (below_step (by repeat (first | (with_reducible first | exact HB.out | apply below_alloc | apply pw_below_drewN | apply below_drew1 | refine below_set ?_ GE279.out) | exact HB.out)) hb); clear BK279; clear HB; have BK279 := n0_; have HB := n1_; clear n0_ n1_; (try clear hb); (try clear hb2); (try clear hk); (try clear hi)) | ((with_reducible refine gate_callee (f := 55) rfl ?_); refine goesL_ (some 12) rfl rfl Tryd.func55 (by kernel_rfl) rfl #[.int .u8 ((t280) % 256)] rfl (by (try simp only [List.map_toArray, List.map_cons, List.map_nil]); first | done | rfl | (simp only [List.length_drop, List.length_take]; rfl)) ?_; (with_reducible refine (vesperref02_Info.calls k ((t280) % 256) t281 t282 t283 t284 _ A7.out).mono ?_); rintro e w10 ⟨rfl, hb⟩; refine ⟨_, rfl, ?_⟩; have n0_ := Aside0.mk (blk_below (g := gb279) (o := .cells #[.string (⟨#[]⟩ : ByteArray), .int .u8 0, .int .i64 0, .int .i64 0] 72 (0, 0)) (by (with_reducible repeat (first | refine blk_drewN ?_ _ | refine blk_drew ?_ | refine blk_alloc ?_ _)); exact BK279.out) hb); have n1_ := Aside0.mk (below_step (by repeat (first | (with_reducible first | exact HB.out | apply below_alloc | apply pw_below_drewN | apply below_drew1 | refine below_set ?_ GE279.out) | exact HB.out)) hb); clear BK279; clear HB; have BK279 := n0_; have HB := n1_; clear n0_ n1_; (try clear hb); (try clear hb2); (try clear hk); (try clear hi); have hcz11_0 : w10.cell? ⟨gb279, 0, none⟩ = some (.string (⟨#[]⟩ : ByteArray)) := (blk_cell BK279.out 0).trans rfl; have hcz11_1 : w10.cell? ⟨gb279, 1, none⟩ = some (.int .u8 0) := (blk_cell BK279.out 1).trans rfl; have hcz11_2 : w10.cell? ⟨gb279, 2, none⟩ = some (.int .i64 0) := (blk_cell BK279.out 2).trans rfl; have hcz11_3 : w10.cell? ⟨gb279, 3, none⟩ = some (.int .i64 0) := (blk_cell BK279.out 3).trans rfl; have hfz11_0 := blk_frozen BK279.out 0; have hfz11_1 := blk_frozen BK279.out 1; have hfz11_2 := blk_frozen BK279.out 2; have hfz11_3 := blk_frozen BK279.out 3))
  refine bodyPost_ret (results_ct rfl _ _ gb279 72 #[.string t281, .int .u8 t282, .int .i64 t283, .int .i64 t284] (0, 0) _ rfl (by (with_reducible repeat (first | refine blk_drewN ?_ _ | refine blk_drew ?_ | refine blk_alloc ?_ _)); refine blk_put (cs := #[.string t281, .int .u8 t282, .int .i64 t283, .int .i64 0]) ?_ 3 _ rfl; (with_reducible repeat (first | refine blk_drewN ?_ _ | refine blk_drew ?_ | refine blk_alloc ?_ _)); refine blk_put (cs := #[.string t281, .int .u8 t282, .int .i64 0, .int .i64 0]) ?_ 2 _ rfl; (with_reducible repeat (first | refine blk_drewN ?_ _ | refine blk_drew ?_ | refine blk_alloc ?_ _)); refine blk_put (cs := #[.string t281, .int .u8 0, .int .i64 0, .int .i64 0]) ?_ 1 _ rfl; (with_reducible repeat (first | refine blk_drewN ?_ _ | refine blk_drew ?_ | refine blk_alloc ?_ _)); refine blk_put (cs := #[.string (⟨#[]⟩ : ByteArray), .int .u8 0, .int .i64 0, .int .i64 0]) ?_ 0 _ rfl; (with_reducible repeat (first | refine blk_drewN ?_ _ | refine blk_drew ?_ | refine blk_alloc ?_ _)); exact BK279.out) Tryd.underlying72 rfl (by kernel_rfl)) rfl ?_
  exact ⟨by first | rfl | (simp [errW_none, errW_some] <;> rfl) | (simp [*, errW_none, errW_some] <;> rfl), by repeat (first | (with_reducible first | exact HB.out | apply below_alloc | apply pw_below_drewN | apply below_drew1 | refine below_set ?_ GE279.out) | exact HB.out)⟩
end Go.Proofs.YtjedbamcjgabpaaDoor.PSo
