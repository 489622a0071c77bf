/- Written by a program of this session (gprint.py, over the kit's printer): functions of the seat YtbffmfeflcdgbaaDoor and their contracts. No condition but each contract's own. -/
import Derived.Test.YtbffmfeflcdgbaaDoorPObx0
import Derived.Test.YtbffmfeflcdgbaaDoorPObx9
namespace Go.Proofs.YtbffmfeflcdgbaaDoor.POb
open Go.RowKit Go.Proofs.YtbffmfeflcdgbaaDoorW.PrintWords Go.Proofs.YtbffmfeflcdgbaaDoorW.PrintLast Go.Proofs.YtbffmfeflcdgbaaDoorW.PrintMore
attribute [local go_sem] max2_int min2_int max_two min_two max_three min_three max_four min_four   -- for this text's walks alone
set_option linter.unusedVariables false
set_option linter.unusedSimpArgs false

/-! ### vesperref02_names: function 51 -/
def vesperref02_names.f (a0 : Int) : Option (List ByteArray) := if a0 = 0 then (some (([(⟨#[76, 68, 78]⟩ : ByteArray)] : List ByteArray))) else (if a0 = 1 then (some (([(⟨#[73, 78, 67]⟩ : ByteArray)] : List ByteArray))) else (if a0 = 2 then (some (([(⟨#[68, 69, 67]⟩ : ByteArray)] : List ByteArray))) else (if a0 = 3 then (some (([(⟨#[66, 82]⟩ : ByteArray), (⟨#[66, 81]⟩ : ByteArray), (⟨#[66, 90]⟩ : ByteArray), (⟨#[66, 68, 70]⟩ : ByteArray), (⟨#[66, 49]⟩ : ByteArray), (⟨#[66, 50]⟩ : ByteArray), (⟨#[66, 51]⟩ : ByteArray), (⟨#[66, 52]⟩ : ByteArray), (⟨#[83, 75, 80]⟩ : ByteArray), (⟨#[66, 78, 81]⟩ : ByteArray), (⟨#[66, 78, 90]⟩ : ByteArray), (⟨#[66, 78, 70]⟩ : ByteArray), (⟨#[66, 78, 49]⟩ : ByteArray), (⟨#[66, 78, 50]⟩ : ByteArray), (⟨#[66, 78, 51]⟩ : ByteArray), (⟨#[66, 78, 52]⟩ : ByteArray)] : List ByteArray))) else (if a0 = 4 then (some (([(⟨#[76, 68, 65]⟩ : ByteArray)] : List ByteArray))) else (if a0 = 5 then (some (([(⟨#[83, 84, 82]⟩ : ByteArray)] : List ByteArray))) else (if a0 = 6 then (some (([(⟨#[73, 82, 88]⟩ : ByteArray), (⟨#[79, 85, 84]⟩ : ByteArray), (⟨#[79, 85, 84]⟩ : ByteArray), (⟨#[79, 85, 84]⟩ : ByteArray), (⟨#[79, 85, 84]⟩ : ByteArray), (⟨#[79, 85, 84]⟩ : ByteArray), (⟨#[79, 85, 84]⟩ : ByteArray), (⟨#[79, 85, 84]⟩ : ByteArray), (⟨#[78, 85, 76]⟩ : ByteArray), (⟨#[73, 78, 80]⟩ : ByteArray), (⟨#[73, 78, 80]⟩ : ByteArray), (⟨#[73, 78, 80]⟩ : ByteArray), (⟨#[73, 78, 80]⟩ : ByteArray), (⟨#[73, 78, 80]⟩ : ByteArray), (⟨#[73, 78, 80]⟩ : ByteArray), (⟨#[73, 78, 80]⟩ : ByteArray)] : List ByteArray))) else (if a0 = 7 then (some (([(⟨#[82, 69, 84]⟩ : ByteArray), (⟨#[68, 73, 83]⟩ : ByteArray), (⟨#[76, 68, 88, 65]⟩ : ByteArray), (⟨#[83, 84, 88, 68]⟩ : ByteArray), (⟨#[65, 68, 67]⟩ : ByteArray), (⟨#[83, 68, 66]⟩ : ByteArray), (⟨#[83, 72, 82, 67]⟩ : ByteArray), (⟨#[83, 77, 66]⟩ : ByteArray), (⟨#[83, 65, 86]⟩ : ByteArray), (⟨#[77, 65, 82, 75]⟩ : ByteArray), (⟨#[82, 69, 81]⟩ : ByteArray), (⟨#[83, 69, 81]⟩ : ByteArray), (⟨#[65, 68, 67, 73]⟩ : ByteArray), (⟨#[83, 68, 66, 73]⟩ : ByteArray), (⟨#[83, 72, 76, 67]⟩ : ByteArray), (⟨#[83, 77, 66, 73]⟩ : ByteArray)] : List ByteArray))) else (if a0 = 8 then (some (([(⟨#[71, 76, 79]⟩ : ByteArray)] : List ByteArray))) else (if a0 = 9 then (some (([(⟨#[71, 72, 73]⟩ : ByteArray)] : List ByteArray))) else (if a0 = 10 then (some (([(⟨#[80, 76, 79]⟩ : ByteArray)] : List ByteArray))) else (if a0 = 11 then (some (([(⟨#[80, 72, 73]⟩ : ByteArray)] : List ByteArray))) else (if a0 = 12 then (some (([(⟨#[76, 66, 82]⟩ : ByteArray), (⟨#[76, 66, 81]⟩ : ByteArray), (⟨#[76, 66, 90]⟩ : ByteArray), (⟨#[76, 66, 68, 70]⟩ : ByteArray), (⟨#[78, 79, 80]⟩ : ByteArray), (⟨#[76, 83, 78, 81]⟩ : ByteArray), (⟨#[76, 83, 78, 90]⟩ : ByteArray), (⟨#[76, 83, 78, 70]⟩ : ByteArray), (⟨#[76, 83, 75, 80]⟩ : ByteArray), (⟨#[76, 66, 78, 81]⟩ : ByteArray), (⟨#[76, 66, 78, 90]⟩ : ByteArray), (⟨#[76, 66, 78, 70]⟩ : ByteArray), (⟨#[76, 83, 73, 69]⟩ : ByteArray), (⟨#[76, 83, 81]⟩ : ByteArray), (⟨#[76, 83, 90]⟩ : ByteArray), (⟨#[76, 83, 68, 70]⟩ : ByteArray)] : List ByteArray))) else (if a0 = 13 then (some (([(⟨#[83, 69, 80]⟩ : ByteArray)] : List ByteArray))) else (if a0 = 14 then (some (([(⟨#[83, 69, 88]⟩ : ByteArray)] : List ByteArray))) else (some (([(⟨#[76, 68, 88]⟩ : ByteArray), (⟨#[79, 82]⟩ : ByteArray), (⟨#[65, 78, 68]⟩ : ByteArray), (⟨#[88, 79, 82]⟩ : ByteArray), (⟨#[65, 68, 68]⟩ : ByteArray), (⟨#[83, 68]⟩ : ByteArray), (⟨#[83, 72, 82]⟩ : ByteArray), (⟨#[83, 77]⟩ : ByteArray), (⟨#[76, 68, 73]⟩ : ByteArray), (⟨#[79, 82, 73]⟩ : ByteArray), (⟨#[65, 78, 73]⟩ : ByteArray), (⟨#[88, 82, 73]⟩ : ByteArray), (⟨#[65, 68, 73]⟩ : ByteArray), (⟨#[83, 68, 73]⟩ : ByteArray), (⟨#[83, 72, 76]⟩ : ByteArray), (⟨#[83, 77, 73]⟩ : ByteArray)] : List ByteArray)))))))))))))))))
set_option maxHeartbeats 8000000 in
set_option maxRecDepth 100000 in
theorem vesperref02_names.calls (a0 : Int) (r : List ByteArray) (w : World) (h : vesperref02_names.f a0 = some r) :
 Calls Tryd.prog 51 #[.int .i64 a0] w fun e w' => ∃ v0_ : Value, e = .returned (v0_) ∧ Kd.R Kd.string 9 w' w.heap.size (fun _ => True) v0_ r ∧ Below w.heap.size w w' := by
 have HB := Aside0.mk (Below.refl w.heap.size w)
 have H : (if a0 = 0 then (some (([(⟨#[76, 68, 78]⟩ : ByteArray)] : List ByteArray))) else (if a0 = 1 then (some (([(⟨#[73, 78, 67]⟩ : ByteArray)] : List ByteArray))) else (if a0 = 2 then (some (([(⟨#[68, 69, 67]⟩ : ByteArray)] : List ByteArray))) else (if a0 = 3 then (some (([(⟨#[66, 82]⟩ : ByteArray), (⟨#[66, 81]⟩ : ByteArray), (⟨#[66, 90]⟩ : ByteArray), (⟨#[66, 68, 70]⟩ : ByteArray), (⟨#[66, 49]⟩ : ByteArray), (⟨#[66, 50]⟩ : ByteArray), (⟨#[66, 51]⟩ : ByteArray), (⟨#[66, 52]⟩ : ByteArray), (⟨#[83, 75, 80]⟩ : ByteArray), (⟨#[66, 78, 81]⟩ : ByteArray), (⟨#[66, 78, 90]⟩ : ByteArray), (⟨#[66, 78, 70]⟩ : ByteArray), (⟨#[66, 78, 49]⟩ : ByteArray), (⟨#[66, 78, 50]⟩ : ByteArray), (⟨#[66, 78, 51]⟩ : ByteArray), (⟨#[66, 78, 52]⟩ : ByteArray)] : List ByteArray))) else (if a0 = 4 then (some (([(⟨#[76, 68, 65]⟩ : ByteArray)] : List ByteArray))) else (if a0 = 5 then (some (([(⟨#[83, 84, 82]⟩ : ByteArray)] : List ByteArray))) else (if a0 = 6 then (some (([(⟨#[73, 82, 88]⟩ : ByteArray), (⟨#[79, 85, 84]⟩ : ByteArray), (⟨#[79, 85, 84]⟩ : ByteArray), (⟨#[79, 85, 84]⟩ : ByteArray), (⟨#[79, 85, 84]⟩ : ByteArray), (⟨#[79, 85, 84]⟩ : ByteArray), (⟨#[79, 85, 84]⟩ : ByteArray), (⟨#[79, 85, 84]⟩ : ByteArray), (⟨#[78, 85, 76]⟩ : ByteArray), (⟨#[73, 78, 80]⟩ : ByteArray), (⟨#[73, 78, 80]⟩ : ByteArray), (⟨#[73, 78, 80]⟩ : ByteArray), (⟨#[73, 78, 80]⟩ : ByteArray), (⟨#[73, 78, 80]⟩ : ByteArray), (⟨#[73, 78, 80]⟩ : ByteArray), (⟨#[73, 78, 80]⟩ : ByteArray)] : List ByteArray))) else (if a0 = 7 then (some (([(⟨#[82, 69, 84]⟩ : ByteArray), (⟨#[68, 73, 83]⟩ : ByteArray), (⟨#[76, 68, 88, 65]⟩ : ByteArray), (⟨#[83, 84, 88, 68]⟩ : ByteArray), (⟨#[65, 68, 67]⟩ : ByteArray), (⟨#[83, 68, 66]⟩ : ByteArray), (⟨#[83, 72, 82, 67]⟩ : ByteArray), (⟨#[83, 77, 66]⟩ : ByteArray), (⟨#[83, 65, 86]⟩ : ByteArray), (⟨#[77, 65, 82, 75]⟩ : ByteArray), (⟨#[82, 69, 81]⟩ : ByteArray), (⟨#[83, 69, 81]⟩ : ByteArray), (⟨#[65, 68, 67, 73]⟩ : ByteArray), (⟨#[83, 68, 66, 73]⟩ : ByteArray), (⟨#[83, 72, 76, 67]⟩ : ByteArray), (⟨#[83, 77, 66, 73]⟩ : ByteArray)] : List ByteArray))) else (if a0 = 8 then (some (([(⟨#[71, 76, 79]⟩ : ByteArray)] : List ByteArray))) else (if a0 = 9 then (some (([(⟨#[71, 72, 73]⟩ : ByteArray)] : List ByteArray))) else (if a0 = 10 then (some (([(⟨#[80, 76, 79]⟩ : ByteArray)] : List ByteArray))) else (if a0 = 11 then (some (([(⟨#[80, 72, 73]⟩ : ByteArray)] : List ByteArray))) else (if a0 = 12 then (some (([(⟨#[76, 66, 82]⟩ : ByteArray), (⟨#[76, 66, 81]⟩ : ByteArray), (⟨#[76, 66, 90]⟩ : ByteArray), (⟨#[76, 66, 68, 70]⟩ : ByteArray), (⟨#[78, 79, 80]⟩ : ByteArray), (⟨#[76, 83, 78, 81]⟩ : ByteArray), (⟨#[76, 83, 78, 90]⟩ : ByteArray), (⟨#[76, 83, 78, 70]⟩ : ByteArray), (⟨#[76, 83, 75, 80]⟩ : ByteArray), (⟨#[76, 66, 78, 81]⟩ : ByteArray), (⟨#[76, 66, 78, 90]⟩ : ByteArray), (⟨#[76, 66, 78, 70]⟩ : ByteArray), (⟨#[76, 83, 73, 69]⟩ : ByteArray), (⟨#[76, 83, 81]⟩ : ByteArray), (⟨#[76, 83, 90]⟩ : ByteArray), (⟨#[76, 83, 68, 70]⟩ : ByteArray)] : List ByteArray))) else (if a0 = 13 then (some (([(⟨#[83, 69, 80]⟩ : ByteArray)] : List ByteArray))) else (if a0 = 14 then (some (([(⟨#[83, 69, 88]⟩ : ByteArray)] : List ByteArray))) else (some (([(⟨#[76, 68, 88]⟩ : ByteArray), (⟨#[79, 82]⟩ : ByteArray), (⟨#[65, 78, 68]⟩ : ByteArray), (⟨#[88, 79, 82]⟩ : ByteArray), (⟨#[65, 68, 68]⟩ : ByteArray), (⟨#[83, 68]⟩ : ByteArray), (⟨#[83, 72, 82]⟩ : ByteArray), (⟨#[83, 77]⟩ : ByteArray), (⟨#[76, 68, 73]⟩ : ByteArray), (⟨#[79, 82, 73]⟩ : ByteArray), (⟨#[65, 78, 73]⟩ : ByteArray), (⟨#[88, 82, 73]⟩ : ByteArray), (⟨#[65, 68, 73]⟩ : ByteArray), (⟨#[83, 68, 73]⟩ : ByteArray), (⟨#[83, 72, 76]⟩ : ByteArray), (⟨#[83, 77, 73]⟩ : ByteArray)] : List ByteArray)))))))))))))))))) = some r := h
 clear h
 by_cases c2 : a0 = 0
 ·rw [if_pos c2] at H
  have c2b0 : (a0 == 0) = true := beq_iff_eq.mpr c2
  have c2b1 : (a0 != 0) = false := bne_eq_false_iff_eq.mpr c2
  clear c2
  obtain ⟨y169, hy169⟩ : ∃ y_ : List ByteArray, y_ = (([(⟨#[76, 68, 78]⟩ : ByteArray)] : List ByteArray)) := ⟨_, rfl⟩
  replace H : (some y169) = some r := by first | (rw [hy169]; with_reducible exact H) | (have H2_ := (Option.bind_some _ _).symm.trans H; rw [hy169]; with_reducible exact H2_) | (have H2_ := (Option.bind_some _ _).symm.trans H; with_reducible exact H2_) | with_reducible exact H | (rw [hy169]; exact H) | exact H
  have Ny169 := Aside0.mk hy169
  clear hy169
  obtain rfl := Option.some.inj H
  go_enter Tryd.func51, Tryd.ntmps51
  go_wp2_with (first | ((with_reducible refine gate_dst (N := 6) rfl ?_); refine Kd.R_lit Kd.string _ 9 ?hg (N := 6) ?hd (xs := ([(⟨#[76, 68, 78]⟩ : ByteArray)] : List ByteArray)) (inner := [.string (⟨#[76, 68, 78]⟩ : ByteArray)]) (ok := fun _ => True) (okp := fun _ => True) ?hr ?hp (fun _ hk => hk) trivial (Below.refl _ _) (Nat.le_refl _) (by simp) ?_; (case hd => rfl); (case hg => rfl); (case hr => first | (go_simp; done) | (go_simp; rfl)); (case hp => exact (Reps.one (show Kd.M Kd.string _ _ _ (⟨#[76, 68, 78]⟩ : ByteArray) [.string (⟨#[76, 68, 78]⟩ : ByteArray)] from rfl) (Reps.none _ _))); intro v170 w3 ho4 hb hg_ hnew_; clear hg_ hnew_; (first | rw [← Ny169.out] at ho4 | (simp only [Int.reduceToNat] at ho4; rw [← Ny169.out] at ho4)); have n0_ := Aside0.mk (Kd.R_lower ho4 (below_size bw)); have n1_ := Aside0.mk (below_step bw hb); clear HB; have HO171 := n0_; have HB := n1_; clear n0_ n1_; clear hb ho4))
  go_ret
  exact ⟨_, ew, by (with_reducible repeat (first | apply Kd.R_alloc | apply Kd.R_drewN | apply Kd.R_drew)); exact HO171.out, bw⟩
 rw [if_neg c2] at H
 have c2b0 : (a0 == 0) = false := beq_eq_false_iff_ne.mpr c2
 have c2b1 : (a0 != 0) = true := bne_iff_ne.mpr c2
 by_cases c5 : a0 = 1
 ·rw [if_pos c5] at H
  have c5b0 : (a0 == 1) = true := beq_iff_eq.mpr c5
  have c5b1 : (a0 != 1) = false := bne_eq_false_iff_eq.mpr c5
  clear c5
  obtain ⟨y172, hy172⟩ : ∃ y_ : List ByteArray, y_ = (([(⟨#[73, 78, 67]⟩ : ByteArray)] : List ByteArray)) := ⟨_, rfl⟩
  replace H : (some y172) = some r := by first | (rw [hy172]; with_reducible exact H) | (have H2_ := (Option.bind_some _ _).symm.trans H; rw [hy172]; with_reducible exact H2_) | (have H2_ := (Option.bind_some _ _).symm.trans H; with_reducible exact H2_) | with_reducible exact H | (rw [hy172]; exact H) | exact H
  have Ny172 := Aside0.mk hy172
  clear hy172
  obtain rfl := Option.some.inj H
  go_enter Tryd.func51, Tryd.ntmps51
  go_wp2_with (first | ((with_reducible refine gate_dst (N := 9) rfl ?_); refine Kd.R_lit Kd.string _ 9 ?hg (N := 9) ?hd (xs := ([(⟨#[73, 78, 67]⟩ : ByteArray)] : List ByteArray)) (inner := [.string (⟨#[73, 78, 67]⟩ : ByteArray)]) (ok := fun _ => True) (okp := fun _ => True) ?hr ?hp (fun _ hk => hk) trivial (Below.refl _ _) (Nat.le_refl _) (by simp) ?_; (case hd => rfl); (case hg => rfl); (case hr => first | (go_simp; done) | (go_simp; rfl)); (case hp => exact (Reps.one (show Kd.M Kd.string _ _ _ (⟨#[73, 78, 67]⟩ : ByteArray) [.string (⟨#[73, 78, 67]⟩ : ByteArray)] from rfl) (Reps.none _ _))); intro v173 w6 ho7 hb hg_ hnew_; clear hg_ hnew_; (first | rw [← Ny172.out] at ho7 | (simp only [Int.reduceToNat] at ho7; rw [← Ny172.out] at ho7)); have n0_ := Aside0.mk (Kd.R_lower ho7 (below_size bw)); have n1_ := Aside0.mk (below_step bw hb); clear HB; have HO174 := n0_; have HB := n1_; clear n0_ n1_; clear hb ho7))
  go_ret
  exact ⟨_, ew, by (with_reducible repeat (first | apply Kd.R_alloc | apply Kd.R_drewN | apply Kd.R_drew)); exact HO174.out, bw⟩
 rw [if_neg c5] at H
 have c5b0 : (a0 == 1) = false := beq_eq_false_iff_ne.mpr c5
 have c5b1 : (a0 != 1) = true := bne_iff_ne.mpr c5
 by_cases c8 : a0 = 2
 ·rw [if_pos c8] at H
  have c8b0 : (a0 == 2) = true := beq_iff_eq.mpr c8
  have c8b1 : (a0 != 2) = false := bne_eq_false_iff_eq.mpr c8
  clear c8
  obtain ⟨y175, hy175⟩ : ∃ y_ : List ByteArray, y_ = (([(⟨#[68, 69, 67]⟩ : ByteArray)] : List ByteArray)) := ⟨_, rfl⟩
  replace H : (some y175) = some r := by first | (rw [hy175]; with_reducible exact H) | (have H2_ := (Option.bind_some _ _).symm.trans H; rw [hy175]; with_reducible exact H2_) | (have H2_ := (Option.bind_some _ _).symm.trans H; with_reducible exact H2_) | with_reducible exact H | (rw [hy175]; exact H) | exact H
  have Ny175 := Aside0.mk hy175
  clear hy175
  obtain rfl := Option.some.inj H
  go_enter Tryd.func51, Tryd.ntmps51
  go_wp2_with (first | ((with_reducible refine gate_dst (N := 12) rfl ?_); refine Kd.R_lit Kd.string _ 9 ?hg (N := 12) ?hd (xs := ([(⟨#[68, 69, 67]⟩ : ByteArray)] : List ByteArray)) (inner := [.string (⟨#[68, 69, 67]⟩ : ByteArray)]) (ok := fun _ => True) (okp := fun _ => True) ?hr ?hp (fun _ hk => hk) trivial (Below.refl _ _) (Nat.le_refl _) (by simp) ?_; (case hd => rfl); (case hg => rfl); (case hr => first | (go_simp; done) | (go_simp; rfl)); (case hp => exact (Reps.one (show Kd.M Kd.string _ _ _ (⟨#[68, 69, 67]⟩ : ByteArray) [.string (⟨#[68, 69, 67]⟩ : ByteArray)] from rfl) (Reps.none _ _))); intro v176 w9 ho10 hb hg_ hnew_; clear hg_ hnew_; (first | rw [← Ny175.out] at ho10 | (simp only [Int.reduceToNat] at ho10; rw [← Ny175.out] at ho10)); have n0_ := Aside0.mk (Kd.R_lower ho10 (below_size bw)); have n1_ := Aside0.mk (below_step bw hb); clear HB; have HO177 := n0_; have HB := n1_; clear n0_ n1_; clear hb ho10))
  go_ret
  exact ⟨_, ew, by (with_reducible repeat (first | apply Kd.R_alloc | apply Kd.R_drewN | apply Kd.R_drew)); exact HO177.out, bw⟩
 rw [if_neg c8] at H
 have c8b0 : (a0 == 2) = false := beq_eq_false_iff_ne.mpr c8
 have c8b1 : (a0 != 2) = true := bne_iff_ne.mpr c8
 by_cases c11 : a0 = 3
 ·rw [if_pos c11] at H
  have c11b0 : (a0 == 3) = true := beq_iff_eq.mpr c11
  have c11b1 : (a0 != 3) = false := bne_eq_false_iff_eq.mpr c11
  clear c11
  obtain ⟨y178, hy178⟩ : ∃ y_ : List ByteArray, y_ = (([(⟨#[66, 82]⟩ : ByteArray), (⟨#[66, 81]⟩ : ByteArray), (⟨#[66, 90]⟩ : ByteArray), (⟨#[66, 68, 70]⟩ : ByteArray), (⟨#[66, 49]⟩ : ByteArray), (⟨#[66, 50]⟩ : ByteArray), (⟨#[66, 51]⟩ : ByteArray), (⟨#[66, 52]⟩ : ByteArray), (⟨#[83, 75, 80]⟩ : ByteArray), (⟨#[66, 78, 81]⟩ : ByteArray), (⟨#[66, 78, 90]⟩ : ByteArray), (⟨#[66, 78, 70]⟩ : ByteArray), (⟨#[66, 78, 49]⟩ : ByteArray), (⟨#[66, 78, 50]⟩ : ByteArray), (⟨#[66, 78, 51]⟩ : ByteArray), (⟨#[66, 78, 52]⟩ : ByteArray)] : List ByteArray)) := ⟨_, rfl⟩
  replace H : (some y178) = some r := by first | (rw [hy178]; with_reducible exact H) | (have H2_ := (Option.bind_some _ _).symm.trans H; rw [hy178]; with_reducible exact H2_) | (have H2_ := (Option.bind_some _ _).symm.trans H; with_reducible exact H2_) | with_reducible exact H | (rw [hy178]; exact H) | exact H
  have Ny178 := Aside0.mk hy178
  clear hy178
  obtain rfl := Option.some.inj H
  go_enter Tryd.func51, Tryd.ntmps51
  go_wp2_with (first | ((with_reducible refine gate_dst (N := 15) rfl ?_); refine Kd.R_lit Kd.string _ 9 ?hg (N := 15) ?hd (xs := ([(⟨#[66, 82]⟩ : ByteArray), (⟨#[66, 81]⟩ : ByteArray), (⟨#[66, 90]⟩ : ByteArray), (⟨#[66, 68, 70]⟩ : ByteArray), (⟨#[66, 49]⟩ : ByteArray), (⟨#[66, 50]⟩ : ByteArray), (⟨#[66, 51]⟩ : ByteArray), (⟨#[66, 52]⟩ : ByteArray), (⟨#[83, 75, 80]⟩ : ByteArray), (⟨#[66, 78, 81]⟩ : ByteArray), (⟨#[66, 78, 90]⟩ : ByteArray), (⟨#[66, 78, 70]⟩ : ByteArray), (⟨#[66, 78, 49]⟩ : ByteArray), (⟨#[66, 78, 50]⟩ : ByteArray), (⟨#[66, 78, 51]⟩ : ByteArray), (⟨#[66, 78, 52]⟩ : ByteArray)] : List ByteArray)) (inner := [.string (⟨#[66, 82]⟩ : ByteArray), .string (⟨#[66, 81]⟩ : ByteArray), .string (⟨#[66, 90]⟩ : ByteArray), .string (⟨#[66, 68, 70]⟩ : ByteArray), .string (⟨#[66, 49]⟩ : ByteArray), .string (⟨#[66, 50]⟩ : ByteArray), .string (⟨#[66, 51]⟩ : ByteArray), .string (⟨#[66, 52]⟩ : ByteArray), .string (⟨#[83, 75, 80]⟩ : ByteArray), .string (⟨#[66, 78, 81]⟩ : ByteArray), .string (⟨#[66, 78, 90]⟩ : ByteArray), .string (⟨#[66, 78, 70]⟩ : ByteArray), .string (⟨#[66, 78, 49]⟩ : ByteArray), .string (⟨#[66, 78, 50]⟩ : ByteArray), .string (⟨#[66, 78, 51]⟩ : ByteArray), .string (⟨#[66, 78, 52]⟩ : ByteArray)]) (ok := fun _ => True) (okp := fun _ => True) ?hr ?hp (fun _ hk => hk) trivial (Below.refl _ _) (Nat.le_refl _) (by simp) ?_; (case hd => rfl); (case hg => rfl); (case hr => first | (go_simp; done) | (go_simp; rfl)); (case hp => exact (Reps.one (show Kd.M Kd.string _ _ _ (⟨#[66, 82]⟩ : ByteArray) [.string (⟨#[66, 82]⟩ : ByteArray)] from rfl) (Reps.one (show Kd.M Kd.string _ _ _ (⟨#[66, 81]⟩ : ByteArray) [.string (⟨#[66, 81]⟩ : ByteArray)] from rfl) (Reps.one (show Kd.M Kd.string _ _ _ (⟨#[66, 90]⟩ : ByteArray) [.string (⟨#[66, 90]⟩ : ByteArray)] from rfl) (Reps.one (show Kd.M Kd.string _ _ _ (⟨#[66, 68, 70]⟩ : ByteArray) [.string (⟨#[66, 68, 70]⟩ : ByteArray)] from rfl) (Reps.one (show Kd.M Kd.string _ _ _ (⟨#[66, 49]⟩ : ByteArray) [.string (⟨#[66, 49]⟩ : ByteArray)] from rfl) (Reps.one (show Kd.M Kd.string _ _ _ (⟨#[66, 50]⟩ : ByteArray) [.string (⟨#[66, 50]⟩ : ByteArray)] from rfl) (Reps.one (show Kd.M Kd.string _ _ _ (⟨#[66, 51]⟩ : ByteArray) [.string (⟨#[66, 51]⟩ : ByteArray)] from rfl) (Reps.one (show Kd.M Kd.string _ _ _ (⟨#[66, 52]⟩ : ByteArray) [.string (⟨#[66, 52]⟩ : ByteArray)] from rfl) (Reps.one (show Kd.M Kd.string _ _ _ (⟨#[83, 75, 80]⟩ : ByteArray) [.string (⟨#[83, 75, 80]⟩ : ByteArray)] from rfl) (Reps.one (show Kd.M Kd.string _ _ _ (⟨#[66, 78, 81]⟩ : ByteArray) [.string (⟨#[66, 78, 81]⟩ : ByteArray)] from rfl) (Reps.one (show Kd.M Kd.string _ _ _ (⟨#[66, 78, 90]⟩ : ByteArray) [.string (⟨#[66, 78, 90]⟩ : ByteArray)] from rfl) (Reps.one (show Kd.M Kd.string _ _ _ (⟨#[66, 78, 70]⟩ : ByteArray) [.string (⟨#[66, 78, 70]⟩ : ByteArray)] from rfl) (Reps.one (show Kd.M Kd.string _ _ _ (⟨#[66, 78, 49]⟩ : ByteArray) [.string (⟨#[66, 78, 49]⟩ : ByteArray)] from rfl) (Reps.one (show Kd.M Kd.string _ _ _ (⟨#[66, 78, 50]⟩ : ByteArray) [.string (⟨#[66, 78, 50]⟩ : ByteArray)] from rfl) (Reps.one (show Kd.M Kd.string _ _ _ (⟨#[66, 78, 51]⟩ : ByteArray) [.string (⟨#[66, 78, 51]⟩ : ByteArray)] from rfl) (Reps.one (show Kd.M Kd.string _ _ _ (⟨#[66, 78, 52]⟩ : ByteArray) [.string (⟨#[66, 78, 52]⟩ : ByteArray)] from rfl) (Reps.none _ _)))))))))))))))))); intro v179 w12 ho13 hb hg_ hnew_; clear hg_ hnew_; (first | rw [← Ny178.out] at ho13 | (simp only [Int.reduceToNat] at ho13; rw [← Ny178.out] at ho13)); have n0_ := Aside0.mk (Kd.R_lower ho13 (below_size bw)); have n1_ := Aside0.mk (below_step bw hb); clear HB; have HO180 := n0_; have HB := n1_; clear n0_ n1_; clear hb ho13))
  go_ret
  exact ⟨_, ew, by (with_reducible repeat (first | apply Kd.R_alloc | apply Kd.R_drewN | apply Kd.R_drew)); exact HO180.out, bw⟩
 rw [if_neg c11] at H
 have c11b0 : (a0 == 3) = false := beq_eq_false_iff_ne.mpr c11
 have c11b1 : (a0 != 3) = true := bne_iff_ne.mpr c11
 by_cases c14 : a0 = 4
 ·rw [if_pos c14] at H
  have c14b0 : (a0 == 4) = true := beq_iff_eq.mpr c14
  have c14b1 : (a0 != 4) = false := bne_eq_false_iff_eq.mpr c14
  clear c14
  obtain ⟨y181, hy181⟩ : ∃ y_ : List ByteArray, y_ = (([(⟨#[76, 68, 65]⟩ : ByteArray)] : List ByteArray)) := ⟨_, rfl⟩
  replace H : (some y181) = some r := by first | (rw [hy181]; with_reducible exact H) | (have H2_ := (Option.bind_some _ _).symm.trans H; rw [hy181]; with_reducible exact H2_) | (have H2_ := (Option.bind_some _ _).symm.trans H; with_reducible exact H2_) | with_reducible exact H | (rw [hy181]; exact H) | exact H
  have Ny181 := Aside0.mk hy181
  clear hy181
  obtain rfl := Option.some.inj H
  go_enter Tryd.func51, Tryd.ntmps51
  go_wp2_with (first | ((with_reducible refine gate_dst (N := 18) rfl ?_); refine Kd.R_lit Kd.string _ 9 ?hg (N := 18) ?hd (xs := ([(⟨#[76, 68, 65]⟩ : ByteArray)] : List ByteArray)) (inner := [.string (⟨#[76, 68, 65]⟩ : ByteArray)]) (ok := fun _ => True) (okp := fun _ => True) ?hr ?hp (fun _ hk => hk) trivial (Below.refl _ _) (Nat.le_refl _) (by simp) ?_; (case hd => rfl); (case hg => rfl); (case hr => first | (go_simp; done) | (go_simp; rfl)); (case hp => exact (Reps.one (show Kd.M Kd.string _ _ _ (⟨#[76, 68, 65]⟩ : ByteArray) [.string (⟨#[76, 68, 65]⟩ : ByteArray)] from rfl) (Reps.none _ _))); intro v182 w15 ho16 hb hg_ hnew_; clear hg_ hnew_; (first | rw [← Ny181.out] at ho16 | (simp only [Int.reduceToNat] at ho16; rw [← Ny181.out] at ho16)); have n0_ := Aside0.mk (Kd.R_lower ho16 (below_size bw)); have n1_ := Aside0.mk (below_step bw hb); clear HB; have HO183 := n0_; have HB := n1_; clear n0_ n1_; clear hb ho16))
  go_ret
  exact ⟨_, ew, by (with_reducible repeat (first | apply Kd.R_alloc | apply Kd.R_drewN | apply Kd.R_drew)); exact HO183.out, bw⟩
 rw [if_neg c14] at H
 have c14b0 : (a0 == 4) = false := beq_eq_false_iff_ne.mpr c14
 have c14b1 : (a0 != 4) = true := bne_iff_ne.mpr c14
 by_cases c17 : a0 = 5
 ·rw [if_pos c17] at H
  have c17b0 : (a0 == 5) = true := beq_iff_eq.mpr c17
  have c17b1 : (a0 != 5) = false := bne_eq_false_iff_eq.mpr c17
  clear c17
  obtain ⟨y184, hy184⟩ : ∃ y_ : List ByteArray, y_ = (([(⟨#[83, 84, 82]⟩ : ByteArray)] : List ByteArray)) := ⟨_, rfl⟩
  replace H : (some y184) = some r := by first | (rw [hy184]; with_reducible exact H) | (have H2_ := (Option.bind_some _ _).symm.trans H; rw [hy184]; with_reducible exact H2_) | (have H2_ := (Option.bind_some _ _).symm.trans H; with_reducible exact H2_) | with_reducible exact H | (rw [hy184]; exact H) | exact H
  have Ny184 := Aside0.mk hy184
  clear hy184
  obtain rfl := Option.some.inj H
  go_enter Tryd.func51, Tryd.ntmps51
  go_wp2_with (first | ((with_reducible refine gate_dst (N := 21) rfl ?_); refine Kd.R_lit Kd.string _ 9 ?hg (N := 21) ?hd (xs := ([(⟨#[83, 84, 82]⟩ : ByteArray)] : List ByteArray)) (inner := [.string (⟨#[83, 84, 82]⟩ : ByteArray)]) (ok := fun _ => True) (okp := fun _ => True) ?hr ?hp (fun _ hk => hk) trivial (Below.refl _ _) (Nat.le_refl _) (by simp) ?_; (case hd => rfl); (case hg => rfl); (case hr => first | (go_simp; done) | (go_simp; rfl)); (case hp => exact (Reps.one (show Kd.M Kd.string _ _ _ (⟨#[83, 84, 82]⟩ : ByteArray) [.string (⟨#[83, 84, 82]⟩ : ByteArray)] from rfl) (Reps.none _ _))); intro v185 w18 ho19 hb hg_ hnew_; clear hg_ hnew_; (first | rw [← Ny184.out] at ho19 | (simp only [Int.reduceToNat] at ho19; rw [← Ny184.out] at ho19)); have n0_ := Aside0.mk (Kd.R_lower ho19 (below_size bw)); have n1_ := Aside0.mk (below_step bw hb); clear HB; have HO186 := n0_; have HB := n1_; clear n0_ n1_; clear hb ho19))
  go_ret
  exact ⟨_, ew, by (with_reducible repeat (first | apply Kd.R_alloc | apply Kd.R_drewN | apply Kd.R_drew)); exact HO186.out, bw⟩
 rw [if_neg c17] at H
 have c17b0 : (a0 == 5) = false := beq_eq_false_iff_ne.mpr c17
 have c17b1 : (a0 != 5) = true := bne_iff_ne.mpr c17
 by_cases c20 : a0 = 6
 ·rw [if_pos c20] at H
  have c20b0 : (a0 == 6) = true := beq_iff_eq.mpr c20
  have c20b1 : (a0 != 6) = false := bne_eq_false_iff_eq.mpr c20
  clear c20
  obtain ⟨y187, hy187⟩ : ∃ y_ : List ByteArray, y_ = (([(⟨#[73, 82, 88]⟩ : ByteArray), (⟨#[79, 85, 84]⟩ : ByteArray), (⟨#[79, 85, 84]⟩ : ByteArray), (⟨#[79, 85, 84]⟩ : ByteArray), (⟨#[79, 85, 84]⟩ : ByteArray), (⟨#[79, 85, 84]⟩ : ByteArray), (⟨#[79, 85, 84]⟩ : ByteArray), (⟨#[79, 85, 84]⟩ : ByteArray), (⟨#[78, 85, 76]⟩ : ByteArray), (⟨#[73, 78, 80]⟩ : ByteArray), (⟨#[73, 78, 80]⟩ : ByteArray), (⟨#[73, 78, 80]⟩ : ByteArray), (⟨#[73, 78, 80]⟩ : ByteArray), (⟨#[73, 78, 80]⟩ : ByteArray), (⟨#[73, 78, 80]⟩ : ByteArray), (⟨#[73, 78, 80]⟩ : ByteArray)] : List ByteArray)) := ⟨_, rfl⟩
  replace H : (some y187) = some r := by first | (rw [hy187]; with_reducible exact H) | (have H2_ := (Option.bind_some _ _).symm.trans H; rw [hy187]; with_reducible exact H2_) | (have H2_ := (Option.bind_some _ _).symm.trans H; with_reducible exact H2_) | with_reducible exact H | (rw [hy187]; exact H) | exact H
  have Ny187 := Aside0.mk hy187
  clear hy187
  obtain rfl := Option.some.inj H
  go_enter Tryd.func51, Tryd.ntmps51
  go_wp2_with (first | ((with_reducible refine gate_dst (N := 24) rfl ?_); refine Kd.R_lit Kd.string _ 9 ?hg (N := 24) ?hd (xs := ([(⟨#[73, 82, 88]⟩ : ByteArray), (⟨#[79, 85, 84]⟩ : ByteArray), (⟨#[79, 85, 84]⟩ : ByteArray), (⟨#[79, 85, 84]⟩ : ByteArray), (⟨#[79, 85, 84]⟩ : ByteArray), (⟨#[79, 85, 84]⟩ : ByteArray), (⟨#[79, 85, 84]⟩ : ByteArray), (⟨#[79, 85, 84]⟩ : ByteArray), (⟨#[78, 85, 76]⟩ : ByteArray), (⟨#[73, 78, 80]⟩ : ByteArray), (⟨#[73, 78, 80]⟩ : ByteArray), (⟨#[73, 78, 80]⟩ : ByteArray), (⟨#[73, 78, 80]⟩ : ByteArray), (⟨#[73, 78, 80]⟩ : ByteArray), (⟨#[73, 78, 80]⟩ : ByteArray), (⟨#[73, 78, 80]⟩ : ByteArray)] : List ByteArray)) (inner := [.string (⟨#[73, 82, 88]⟩ : ByteArray), .string (⟨#[79, 85, 84]⟩ : ByteArray), .string (⟨#[79, 85, 84]⟩ : ByteArray), .string (⟨#[79, 85, 84]⟩ : ByteArray), .string (⟨#[79, 85, 84]⟩ : ByteArray), .string (⟨#[79, 85, 84]⟩ : ByteArray), .string (⟨#[79, 85, 84]⟩ : ByteArray), .string (⟨#[79, 85, 84]⟩ : ByteArray), .string (⟨#[78, 85, 76]⟩ : ByteArray), .string (⟨#[73, 78, 80]⟩ : ByteArray), .string (⟨#[73, 78, 80]⟩ : ByteArray), .string (⟨#[73, 78, 80]⟩ : ByteArray), .string (⟨#[73, 78, 80]⟩ : ByteArray), .string (⟨#[73, 78, 80]⟩ : ByteArray), .string (⟨#[73, 78, 80]⟩ : ByteArray), .string (⟨#[73, 78, 80]⟩ : ByteArray)]) (ok := fun _ => True) (okp := fun _ => True) ?hr ?hp (fun _ hk => hk) trivial (Below.refl _ _) (Nat.le_refl _) (by simp) ?_; (case hd => rfl); (case hg => rfl); (case hr => first | (go_simp; done) | (go_simp; rfl)); (case hp => exact (Reps.one (show Kd.M Kd.string _ _ _ (⟨#[73, 82, 88]⟩ : ByteArray) [.string (⟨#[73, 82, 88]⟩ : ByteArray)] from rfl) (Reps.one (show Kd.M Kd.string _ _ _ (⟨#[79, 85, 84]⟩ : ByteArray) [.string (⟨#[79, 85, 84]⟩ : ByteArray)] from rfl) (Reps.one (show Kd.M Kd.string _ _ _ (⟨#[79, 85, 84]⟩ : ByteArray) [.string (⟨#[79, 85, 84]⟩ : ByteArray)] from rfl) (Reps.one (show Kd.M Kd.string _ _ _ (⟨#[79, 85, 84]⟩ : ByteArray) [.string (⟨#[79, 85, 84]⟩ : ByteArray)] from rfl) (Reps.one (show Kd.M Kd.string _ _ _ (⟨#[79, 85, 84]⟩ : ByteArray) [.string (⟨#[79, 85, 84]⟩ : ByteArray)] from rfl) (Reps.one (show Kd.M Kd.string _ _ _ (⟨#[79, 85, 84]⟩ : ByteArray) [.string (⟨#[79, 85, 84]⟩ : ByteArray)] from rfl) (Reps.one (show Kd.M Kd.string _ _ _ (⟨#[79, 85, 84]⟩ : ByteArray) [.string (⟨#[79, 85, 84]⟩ : ByteArray)] from rfl) (Reps.one (show Kd.M Kd.string _ _ _ (⟨#[79, 85, 84]⟩ : ByteArray) [.string (⟨#[79, 85, 84]⟩ : ByteArray)] from rfl) (Reps.one (show Kd.M Kd.string _ _ _ (⟨#[78, 85, 76]⟩ : ByteArray) [.string (⟨#[78, 85, 76]⟩ : ByteArray)] from rfl) (Reps.one (show Kd.M Kd.string _ _ _ (⟨#[73, 78, 80]⟩ : ByteArray) [.string (⟨#[73, 78, 80]⟩ : ByteArray)] from rfl) (Reps.one (show Kd.M Kd.string _ _ _ (⟨#[73, 78, 80]⟩ : ByteArray) [.string (⟨#[73, 78, 80]⟩ : ByteArray)] from rfl) (Reps.one (show Kd.M Kd.string _ _ _ (⟨#[73, 78, 80]⟩ : ByteArray) [.string (⟨#[73, 78, 80]⟩ : ByteArray)] from rfl) (Reps.one (show Kd.M Kd.string _ _ _ (⟨#[73, 78, 80]⟩ : ByteArray) [.string (⟨#[73, 78, 80]⟩ : ByteArray)] from rfl) (Reps.one (show Kd.M Kd.string _ _ _ (⟨#[73, 78, 80]⟩ : ByteArray) [.string (⟨#[73, 78, 80]⟩ : ByteArray)] from rfl) (Reps.one (show Kd.M Kd.string _ _ _ (⟨#[73, 78, 80]⟩ : ByteArray) [.string (⟨#[73, 78, 80]⟩ : ByteArray)] from rfl) (Reps.one (show Kd.M Kd.string _ _ _ (⟨#[73, 78, 80]⟩ : ByteArray) [.string (⟨#[73, 78, 80]⟩ : ByteArray)] from rfl) (Reps.none _ _)))))))))))))))))); intro v188 w21 ho22 hb hg_ hnew_; clear hg_ hnew_; (first | rw [← Ny187.out] at ho22 | (simp only [Int.reduceToNat] at ho22; rw [← Ny187.out] at ho22)); have n0_ := Aside0.mk (Kd.R_lower ho22 (below_size bw)); have n1_ := Aside0.mk (below_step bw hb); clear HB; have HO189 := n0_; have HB := n1_; clear n0_ n1_; clear hb ho22))
  go_ret
  exact ⟨_, ew, by (with_reducible repeat (first | apply Kd.R_alloc | apply Kd.R_drewN | apply Kd.R_drew)); exact HO189.out, bw⟩
 rw [if_neg c20] at H
 have c20b0 : (a0 == 6) = false := beq_eq_false_iff_ne.mpr c20
 have c20b1 : (a0 != 6) = true := bne_iff_ne.mpr c20
 by_cases c23 : a0 = 7
 ·rw [if_pos c23] at H
  have c23b0 : (a0 == 7) = true := beq_iff_eq.mpr c23
  have c23b1 : (a0 != 7) = false := bne_eq_false_iff_eq.mpr c23
  clear c23
  obtain ⟨y190, hy190⟩ : ∃ y_ : List ByteArray, y_ = (([(⟨#[82, 69, 84]⟩ : ByteArray), (⟨#[68, 73, 83]⟩ : ByteArray), (⟨#[76, 68, 88, 65]⟩ : ByteArray), (⟨#[83, 84, 88, 68]⟩ : ByteArray), (⟨#[65, 68, 67]⟩ : ByteArray), (⟨#[83, 68, 66]⟩ : ByteArray), (⟨#[83, 72, 82, 67]⟩ : ByteArray), (⟨#[83, 77, 66]⟩ : ByteArray), (⟨#[83, 65, 86]⟩ : ByteArray), (⟨#[77, 65, 82, 75]⟩ : ByteArray), (⟨#[82, 69, 81]⟩ : ByteArray), (⟨#[83, 69, 81]⟩ : ByteArray), (⟨#[65, 68, 67, 73]⟩ : ByteArray), (⟨#[83, 68, 66, 73]⟩ : ByteArray), (⟨#[83, 72, 76, 67]⟩ : ByteArray), (⟨#[83, 77, 66, 73]⟩ : ByteArray)] : List ByteArray)) := ⟨_, rfl⟩
  replace H : (some y190) = some r := by first | (rw [hy190]; with_reducible exact H) | (have H2_ := (Option.bind_some _ _).symm.trans H; rw [hy190]; with_reducible exact H2_) | (have H2_ := (Option.bind_some _ _).symm.trans H; with_reducible exact H2_) | with_reducible exact H | (rw [hy190]; exact H) | exact H
  have Ny190 := Aside0.mk hy190
  clear hy190
  obtain rfl := Option.some.inj H
  go_enter Tryd.func51, Tryd.ntmps51
  go_wp2_with (first | ((with_reducible refine gate_dst (N := 27) rfl ?_); refine Kd.R_lit Kd.string _ 9 ?hg (N := 27) ?hd (xs := ([(⟨#[82, 69, 84]⟩ : ByteArray), (⟨#[68, 73, 83]⟩ : ByteArray), (⟨#[76, 68, 88, 65]⟩ : ByteArray), (⟨#[83, 84, 88, 68]⟩ : ByteArray), (⟨#[65, 68, 67]⟩ : ByteArray), (⟨#[83, 68, 66]⟩ : ByteArray), (⟨#[83, 72, 82, 67]⟩ : ByteArray), (⟨#[83, 77, 66]⟩ : ByteArray), (⟨#[83, 65, 86]⟩ : ByteArray), (⟨#[77, 65, 82, 75]⟩ : ByteArray), (⟨#[82, 69, 81]⟩ : ByteArray), (⟨#[83, 69, 81]⟩ : ByteArray), (⟨#[65, 68, 67, 73]⟩ : ByteArray), (⟨#[83, 68, 66, 73]⟩ : ByteArray), (⟨#[83, 72, 76, 67]⟩ : ByteArray), (⟨#[83, 77, 66, 73]⟩ : ByteArray)] : List ByteArray)) (inner := [.string (⟨#[82, 69, 84]⟩ : ByteArray), .string (⟨#[68, 73, 83]⟩ : ByteArray), .string (⟨#[76, 68, 88, 65]⟩ : ByteArray), .string (⟨#[83, 84, 88, 68]⟩ : ByteArray), .string (⟨#[65, 68, 67]⟩ : ByteArray), .string (⟨#[83, 68, 66]⟩ : ByteArray), .string (⟨#[83, 72, 82, 67]⟩ : ByteArray), .string (⟨#[83, 77, 66]⟩ : ByteArray), .string (⟨#[83, 65, 86]⟩ : ByteArray), .string (⟨#[77, 65, 82, 75]⟩ : ByteArray), .string (⟨#[82, 69, 81]⟩ : ByteArray), .string (⟨#[83, 69, 81]⟩ : ByteArray), .string (⟨#[65, 68, 67, 73]⟩ : ByteArray), .string (⟨#[83, 68, 66, 73]⟩ : ByteArray), .string (⟨#[83, 72, 76, 67]⟩ : ByteArray), .string (⟨#[83, 77, 66, 73]⟩ : ByteArray)]) (ok := fun _ => True) (okp := fun _ => True) ?hr ?hp (fun _ hk => hk) trivial (Below.refl _ _) (Nat.le_refl _) (by simp) ?_; (case hd => rfl); (case hg => rfl); (case hr => first | (go_simp; done) | (go_simp; rfl)); (case hp => exact (Reps.one (show Kd.M Kd.string _ _ _ (⟨#[82, 69, 84]⟩ : ByteArray) [.string (⟨#[82, 69, 84]⟩ : ByteArray)] from rfl) (Reps.one (show Kd.M Kd.string _ _ _ (⟨#[68, 73, 83]⟩ : ByteArray) [.string (⟨#[68, 73, 83]⟩ : ByteArray)] from rfl) (Reps.one (show Kd.M Kd.string _ _ _ (⟨#[76, 68, 88, 65]⟩ : ByteArray) [.string (⟨#[76, 68, 88, 65]⟩ : ByteArray)] from rfl) (Reps.one (show Kd.M Kd.string _ _ _ (⟨#[83, 84, 88, 68]⟩ : ByteArray) [.string (⟨#[83, 84, 88, 68]⟩ : ByteArray)] from rfl) (Reps.one (show Kd.M Kd.string _ _ _ (⟨#[65, 68, 67]⟩ : ByteArray) [.string (⟨#[65, 68, 67]⟩ : ByteArray)] from rfl) (Reps.one (show Kd.M Kd.string _ _ _ (⟨#[83, 68, 66]⟩ : ByteArray) [.string (⟨#[83, 68, 66]⟩ : ByteArray)] from rfl) (Reps.one (show Kd.M Kd.string _ _ _ (⟨#[83, 72, 82, 67]⟩ : ByteArray) [.string (⟨#[83, 72, 82, 67]⟩ : ByteArray)] from rfl) (Reps.one (show Kd.M Kd.string _ _ _ (⟨#[83, 77, 66]⟩ : ByteArray) [.string (⟨#[83, 77, 66]⟩ : ByteArray)] from rfl) (Reps.one (show Kd.M Kd.string _ _ _ (⟨#[83, 65, 86]⟩ : ByteArray) [.string (⟨#[83, 65, 86]⟩ : ByteArray)] from rfl) (Reps.one (show Kd.M Kd.string _ _ _ (⟨#[77, 65, 82, 75]⟩ : ByteArray) [.string (⟨#[77, 65, 82, 75]⟩ : ByteArray)] from rfl) (Reps.one (show Kd.M Kd.string _ _ _ (⟨#[82, 69, 81]⟩ : ByteArray) [.string (⟨#[82, 69, 81]⟩ : ByteArray)] from rfl) (Reps.one (show Kd.M Kd.string _ _ _ (⟨#[83, 69, 81]⟩ : ByteArray) [.string (⟨#[83, 69, 81]⟩ : ByteArray)] from rfl) (Reps.one (show Kd.M Kd.string _ _ _ (⟨#[65, 68, 67, 73]⟩ : ByteArray) [.string (⟨#[65, 68, 67, 73]⟩ : ByteArray)] from rfl) (Reps.one (show Kd.M Kd.string _ _ _ (⟨#[83, 68, 66, 73]⟩ : ByteArray) [.string (⟨#[83, 68, 66, 73]⟩ : ByteArray)] from rfl) (Reps.one (show Kd.M Kd.string _ _ _ (⟨#[83, 72, 76, 67]⟩ : ByteArray) [.string (⟨#[83, 72, 76, 67]⟩ : ByteArray)] from rfl) (Reps.one (show Kd.M Kd.string _ _ _ (⟨#[83, 77, 66, 73]⟩ : ByteArray) [.string (⟨#[83, 77, 66, 73]⟩ : ByteArray)] from rfl) (Reps.none _ _)))))))))))))))))); intro v191 w24 ho25 hb hg_ hnew_; clear hg_ hnew_; (first | rw [← Ny190.out] at ho25 | (simp only [Int.reduceToNat] at ho25; rw [← Ny190.out] at ho25)); have n0_ := Aside0.mk (Kd.R_lower ho25 (below_size bw)); have n1_ := Aside0.mk (below_step bw hb); clear HB; have HO192 := n0_; have HB := n1_; clear n0_ n1_; clear hb ho25))
  go_ret
  exact ⟨_, ew, by (with_reducible repeat (first | apply Kd.R_alloc | apply Kd.R_drewN | apply Kd.R_drew)); exact HO192.out, bw⟩
 rw [if_neg c23] at H
 have c23b0 : (a0 == 7) = false := beq_eq_false_iff_ne.mpr c23
 have c23b1 : (a0 != 7) = true := bne_iff_ne.mpr c23
 by_cases c26 : a0 = 8
 ·rw [if_pos c26] at H
  have c26b0 : (a0 == 8) = true := beq_iff_eq.mpr c26
  have c26b1 : (a0 != 8) = false := bne_eq_false_iff_eq.mpr c26
  clear c26
  obtain ⟨y193, hy193⟩ : ∃ y_ : List ByteArray, y_ = (([(⟨#[71, 76, 79]⟩ : ByteArray)] : List ByteArray)) := ⟨_, rfl⟩
  replace H : (some y193) = some r := by first | (rw [hy193]; with_reducible exact H) | (have H2_ := (Option.bind_some _ _).symm.trans H; rw [hy193]; with_reducible exact H2_) | (have H2_ := (Option.bind_some _ _).symm.trans H; with_reducible exact H2_) | with_reducible exact H | (rw [hy193]; exact H) | exact H
  have Ny193 := Aside0.mk hy193
  clear hy193
  obtain rfl := Option.some.inj H
  go_enter Tryd.func51, Tryd.ntmps51
  go_wp2_with (first | ((with_reducible refine gate_dst (N := 30) rfl ?_); refine Kd.R_lit Kd.string _ 9 ?hg (N := 30) ?hd (xs := ([(⟨#[71, 76, 79]⟩ : ByteArray)] : List ByteArray)) (inner := [.string (⟨#[71, 76, 79]⟩ : ByteArray)]) (ok := fun _ => True) (okp := fun _ => True) ?hr ?hp (fun _ hk => hk) trivial (Below.refl _ _) (Nat.le_refl _) (by simp) ?_; (case hd => rfl); (case hg => rfl); (case hr => first | (go_simp; done) | (go_simp; rfl)); (case hp => exact (Reps.one (show Kd.M Kd.string _ _ _ (⟨#[71, 76, 79]⟩ : ByteArray) [.string (⟨#[71, 76, 79]⟩ : ByteArray)] from rfl) (Reps.none _ _))); intro v194 w27 ho28 hb hg_ hnew_; clear hg_ hnew_; (first | rw [← Ny193.out] at ho28 | (simp only [Int.reduceToNat] at ho28; rw [← Ny193.out] at ho28)); have n0_ := Aside0.mk (Kd.R_lower ho28 (below_size bw)); have n1_ := Aside0.mk (below_step bw hb); clear HB; have HO195 := n0_; have HB := n1_; clear n0_ n1_; clear hb ho28))
  go_ret
  exact ⟨_, ew, by (with_reducible repeat (first | apply Kd.R_alloc | apply Kd.R_drewN | apply Kd.R_drew)); exact HO195.out, bw⟩
 rw [if_neg c26] at H
 have c26b0 : (a0 == 8) = false := beq_eq_false_iff_ne.mpr c26
 have c26b1 : (a0 != 8) = true := bne_iff_ne.mpr c26
 by_cases c29 : a0 = 9
 ·rw [if_pos c29] at H
  have c29b0 : (a0 == 9) = true := beq_iff_eq.mpr c29
  have c29b1 : (a0 != 9) = false := bne_eq_false_iff_eq.mpr c29
  clear c29
  obtain ⟨y196, hy196⟩ : ∃ y_ : List ByteArray, y_ = (([(⟨#[71, 72, 73]⟩ : ByteArray)] : List ByteArray)) := ⟨_, rfl⟩
  replace H : (some y196) = some r := by first | (rw [hy196]; with_reducible exact H) | (have H2_ := (Option.bind_some _ _).symm.trans H; rw [hy196]; with_reducible exact H2_) | (have H2_ := (Option.bind_some _ _).symm.trans H; with_reducible exact H2_) | with_reducible exact H | (rw [hy196]; exact H) | exact H
  have Ny196 := Aside0.mk hy196
  clear hy196
  obtain rfl := Option.some.inj H
  go_enter Tryd.func51, Tryd.ntmps51
  go_wp2_with (first | ((with_reducible refine gate_dst (N := 33) rfl ?_); refine Kd.R_lit Kd.string _ 9 ?hg (N := 33) ?hd (xs := ([(⟨#[71, 72, 73]⟩ : ByteArray)] : List ByteArray)) (inner := [.string (⟨#[71, 72, 73]⟩ : ByteArray)]) (ok := fun _ => True) (okp := fun _ => True) ?hr ?hp (fun _ hk => hk) trivial (Below.refl _ _) (Nat.le_refl _) (by simp) ?_; (case hd => rfl); (case hg => rfl); (case hr => first | (go_simp; done) | (go_simp; rfl)); (case hp => exact (Reps.one (show Kd.M Kd.string _ _ _ (⟨#[71, 72, 73]⟩ : ByteArray) [.string (⟨#[71, 72, 73]⟩ : ByteArray)] from rfl) (Reps.none _ _))); intro v197 w30 ho31 hb hg_ hnew_; clear hg_ hnew_; (first | rw [← Ny196.out] at ho31 | (simp only [Int.reduceToNat] at ho31; rw [← Ny196.out] at ho31)); have n0_ := Aside0.mk (Kd.R_lower ho31 (below_size bw)); have n1_ := Aside0.mk (below_step bw hb); clear HB; have HO198 := n0_; have HB := n1_; clear n0_ n1_; clear hb ho31))
  go_ret
  exact ⟨_, ew, by (with_reducible repeat (first | apply Kd.R_alloc | apply Kd.R_drewN | apply Kd.R_drew)); exact HO198.out, bw⟩
 rw [if_neg c29] at H
 have c29b0 : (a0 == 9) = false := beq_eq_false_iff_ne.mpr c29
 have c29b1 : (a0 != 9) = true := bne_iff_ne.mpr c29
 by_cases c32 : a0 = 10
 ·rw [if_pos c32] at H
  have c32b0 : (a0 == 10) = true := beq_iff_eq.mpr c32
  have c32b1 : (a0 != 10) = false := bne_eq_false_iff_eq.mpr c32
  clear c32
  obtain ⟨y199, hy199⟩ : ∃ y_ : List ByteArray, y_ = (([(⟨#[80, 76, 79]⟩ : ByteArray)] : List ByteArray)) := ⟨_, rfl⟩
  replace H : (some y199) = some r := by first | (rw [hy199]; with_reducible exact H) | (have H2_ := (Option.bind_some _ _).symm.trans H; rw [hy199]; with_reducible exact H2_) | (have H2_ := (Option.bind_some _ _).symm.trans H; with_reducible exact H2_) | with_reducible exact H | (rw [hy199]; exact H) | exact H
  have Ny199 := Aside0.mk hy199
  clear hy199
  obtain rfl := Option.some.inj H
  go_enter Tryd.func51, Tryd.ntmps51
  go_wp2_with (first | ((with_reducible refine gate_dst (N := 36) rfl ?_); refine Kd.R_lit Kd.string _ 9 ?hg (N := 36) ?hd (xs := ([(⟨#[80, 76, 79]⟩ : ByteArray)] : List ByteArray)) (inner := [.string (⟨#[80, 76, 79]⟩ : ByteArray)]) (ok := fun _ => True) (okp := fun _ => True) ?hr ?hp (fun _ hk => hk) trivial (Below.refl _ _) (Nat.le_refl _) (by simp) ?_; (case hd => rfl); (case hg => rfl); (case hr => first | (go_simp; done) | (go_simp; rfl)); (case hp => exact (Reps.one (show Kd.M Kd.string _ _ _ (⟨#[80, 76, 79]⟩ : ByteArray) [.string (⟨#[80, 76, 79]⟩ : ByteArray)] from rfl) (Reps.none _ _))); intro v200 w33 ho34 hb hg_ hnew_; clear hg_ hnew_; (first | rw [← Ny199.out] at ho34 | (simp only [Int.reduceToNat] at ho34; rw [← Ny199.out] at ho34)); have n0_ := Aside0.mk (Kd.R_lower ho34 (below_size bw)); have n1_ := Aside0.mk (below_step bw hb); clear HB; have HO201 := n0_; have HB := n1_; clear n0_ n1_; clear hb ho34))
  go_ret
  exact ⟨_, ew, by (with_reducible repeat (first | apply Kd.R_alloc | apply Kd.R_drewN | apply Kd.R_drew)); exact HO201.out, bw⟩
 rw [if_neg c32] at H
 have c32b0 : (a0 == 10) = false := beq_eq_false_iff_ne.mpr c32
 have c32b1 : (a0 != 10) = true := bne_iff_ne.mpr c32
 by_cases c35 : a0 = 11
 ·rw [if_pos c35] at H
  have c35b0 : (a0 == 11) = true := beq_iff_eq.mpr c35
  have c35b1 : (a0 != 11) = false := bne_eq_false_iff_eq.mpr c35
  clear c35
  obtain ⟨y202, hy202⟩ : ∃ y_ : List ByteArray, y_ = (([(⟨#[80, 72, 73]⟩ : ByteArray)] : List ByteArray)) := ⟨_, rfl⟩
  replace H : (some y202) = some r := by first | (rw [hy202]; with_reducible exact H) | (have H2_ := (Option.bind_some _ _).symm.trans H; rw [hy202]; with_reducible exact H2_) | (have H2_ := (Option.bind_some _ _).symm.trans H; with_reducible exact H2_) | with_reducible exact H | (rw [hy202]; exact H) | exact H
  have Ny202 := Aside0.mk hy202
  clear hy202
  obtain rfl := Option.some.inj H
  go_enter Tryd.func51, Tryd.ntmps51
  go_wp2_with (first | ((with_reducible refine gate_dst (N := 39) rfl ?_); refine Kd.R_lit Kd.string _ 9 ?hg (N := 39) ?hd (xs := ([(⟨#[80, 72, 73]⟩ : ByteArray)] : List ByteArray)) (inner := [.string (⟨#[80, 72, 73]⟩ : ByteArray)]) (ok := fun _ => True) (okp := fun _ => True) ?hr ?hp (fun _ hk => hk) trivial (Below.refl _ _) (Nat.le_refl _) (by simp) ?_; (case hd => rfl); (case hg => rfl); (case hr => first | (go_simp; done) | (go_simp; rfl)); (case hp => exact (Reps.one (show Kd.M Kd.string _ _ _ (⟨#[80, 72, 73]⟩ : ByteArray) [.string (⟨#[80, 72, 73]⟩ : ByteArray)] from rfl) (Reps.none _ _))); intro v203 w36 ho37 hb hg_ hnew_; clear hg_ hnew_; (first | rw [← Ny202.out] at ho37 | (simp only [Int.reduceToNat] at ho37; rw [← Ny202.out] at ho37)); have n0_ := Aside0.mk (Kd.R_lower ho37 (below_size bw)); have n1_ := Aside0.mk (below_step bw hb); clear HB; have HO204 := n0_; have HB := n1_; clear n0_ n1_; clear hb ho37))
  go_ret
  exact ⟨_, ew, by (with_reducible repeat (first | apply Kd.R_alloc | apply Kd.R_drewN | apply Kd.R_drew)); exact HO204.out, bw⟩
 rw [if_neg c35] at H
 have c35b0 : (a0 == 11) = false := beq_eq_false_iff_ne.mpr c35
 have c35b1 : (a0 != 11) = true := bne_iff_ne.mpr c35
 by_cases c38 : a0 = 12
 ·rw [if_pos c38] at H
  have c38b0 : (a0 == 12) = true := beq_iff_eq.mpr c38
  have c38b1 : (a0 != 12) = false := bne_eq_false_iff_eq.mpr c38
  clear c38
  obtain ⟨y205, hy205⟩ : ∃ y_ : List ByteArray, y_ = (([(⟨#[76, 66, 82]⟩ : ByteArray), (⟨#[76, 66, 81]⟩ : ByteArray), (⟨#[76, 66, 90]⟩ : ByteArray), (⟨#[76, 66, 68, 70]⟩ : ByteArray), (⟨#[78, 79, 80]⟩ : ByteArray), (⟨#[76, 83, 78, 81]⟩ : ByteArray), (⟨#[76, 83, 78, 90]⟩ : ByteArray), (⟨#[76, 83, 78, 70]⟩ : ByteArray), (⟨#[76, 83, 75, 80]⟩ : ByteArray), (⟨#[76, 66, 78, 81]⟩ : ByteArray), (⟨#[76, 66, 78, 90]⟩ : ByteArray), (⟨#[76, 66, 78, 70]⟩ : ByteArray), (⟨#[76, 83, 73, 69]⟩ : ByteArray), (⟨#[76, 83, 81]⟩ : ByteArray), (⟨#[76, 83, 90]⟩ : ByteArray), (⟨#[76, 83, 68, 70]⟩ : ByteArray)] : List ByteArray)) := ⟨_, rfl⟩
  replace H : (some y205) = some r := by first | (rw [hy205]; with_reducible exact H) | (have H2_ := (Option.bind_some _ _).symm.trans H; rw [hy205]; with_reducible exact H2_) | (have H2_ := (Option.bind_some _ _).symm.trans H; with_reducible exact H2_) | with_reducible exact H | (rw [hy205]; exact H) | exact H
  have Ny205 := Aside0.mk hy205
  clear hy205
  obtain rfl := Option.some.inj H
  go_enter Tryd.func51, Tryd.ntmps51
  go_wp2_with (first | ((with_reducible refine gate_dst (N := 42) rfl ?_); refine Kd.R_lit Kd.string _ 9 ?hg (N := 42) ?hd (xs := ([(⟨#[76, 66, 82]⟩ : ByteArray), (⟨#[76, 66, 81]⟩ : ByteArray), (⟨#[76, 66, 90]⟩ : ByteArray), (⟨#[76, 66, 68, 70]⟩ : ByteArray), (⟨#[78, 79, 80]⟩ : ByteArray), (⟨#[76, 83, 78, 81]⟩ : ByteArray), (⟨#[76, 83, 78, 90]⟩ : ByteArray), (⟨#[76, 83, 78, 70]⟩ : ByteArray), (⟨#[76, 83, 75, 80]⟩ : ByteArray), (⟨#[76, 66, 78, 81]⟩ : ByteArray), (⟨#[76, 66, 78, 90]⟩ : ByteArray), (⟨#[76, 66, 78, 70]⟩ : ByteArray), (⟨#[76, 83, 73, 69]⟩ : ByteArray), (⟨#[76, 83, 81]⟩ : ByteArray), (⟨#[76, 83, 90]⟩ : ByteArray), (⟨#[76, 83, 68, 70]⟩ : ByteArray)] : List ByteArray)) (inner := [.string (⟨#[76, 66, 82]⟩ : ByteArray), .string (⟨#[76, 66, 81]⟩ : ByteArray), .string (⟨#[76, 66, 90]⟩ : ByteArray), .string (⟨#[76, 66, 68, 70]⟩ : ByteArray), .string (⟨#[78, 79, 80]⟩ : ByteArray), .string (⟨#[76, 83, 78, 81]⟩ : ByteArray), .string (⟨#[76, 83, 78, 90]⟩ : ByteArray), .string (⟨#[76, 83, 78, 70]⟩ : ByteArray), .string (⟨#[76, 83, 75, 80]⟩ : ByteArray), .string (⟨#[76, 66, 78, 81]⟩ : ByteArray), .string (⟨#[76, 66, 78, 90]⟩ : ByteArray), .string (⟨#[76, 66, 78, 70]⟩ : ByteArray), .string (⟨#[76, 83, 73, 69]⟩ : ByteArray), .string (⟨#[76, 83, 81]⟩ : ByteArray), .string (⟨#[76, 83, 90]⟩ : ByteArray), .string (⟨#[76, 83, 68, 70]⟩ : ByteArray)]) (ok := fun _ => True) (okp := fun _ => True) ?hr ?hp (fun _ hk => hk) trivial (Below.refl _ _) (Nat.le_refl _) (by simp) ?_; (case hd => rfl); (case hg => rfl); (case hr => first | (go_simp; done) | (go_simp; rfl)); (case hp => exact (Reps.one (show Kd.M Kd.string _ _ _ (⟨#[76, 66, 82]⟩ : ByteArray) [.string (⟨#[76, 66, 82]⟩ : ByteArray)] from rfl) (Reps.one (show Kd.M Kd.string _ _ _ (⟨#[76, 66, 81]⟩ : ByteArray) [.string (⟨#[76, 66, 81]⟩ : ByteArray)] from rfl) (Reps.one (show Kd.M Kd.string _ _ _ (⟨#[76, 66, 90]⟩ : ByteArray) [.string (⟨#[76, 66, 90]⟩ : ByteArray)] from rfl) (Reps.one (show Kd.M Kd.string _ _ _ (⟨#[76, 66, 68, 70]⟩ : ByteArray) [.string (⟨#[76, 66, 68, 70]⟩ : ByteArray)] from rfl) (Reps.one (show Kd.M Kd.string _ _ _ (⟨#[78, 79, 80]⟩ : ByteArray) [.string (⟨#[78, 79, 80]⟩ : ByteArray)] from rfl) (Reps.one (show Kd.M Kd.string _ _ _ (⟨#[76, 83, 78, 81]⟩ : ByteArray) [.string (⟨#[76, 83, 78, 81]⟩ : ByteArray)] from rfl) (Reps.one (show Kd.M Kd.string _ _ _ (⟨#[76, 83, 78, 90]⟩ : ByteArray) [.string (⟨#[76, 83, 78, 90]⟩ : ByteArray)] from rfl) (Reps.one (show Kd.M Kd.string _ _ _ (⟨#[76, 83, 78, 70]⟩ : ByteArray) [.string (⟨#[76, 83, 78, 70]⟩ : ByteArray)] from rfl) (Reps.one (show Kd.M Kd.string _ _ _ (⟨#[76, 83, 75, 80]⟩ : ByteArray) [.string (⟨#[76, 83, 75, 80]⟩ : ByteArray)] from rfl) (Reps.one (show Kd.M Kd.string _ _ _ (⟨#[76, 66, 78, 81]⟩ : ByteArray) [.string (⟨#[76, 66, 78, 81]⟩ : ByteArray)] from rfl) (Reps.one (show Kd.M Kd.string _ _ _ (⟨#[76, 66, 78, 90]⟩ : ByteArray) [.string (⟨#[76, 66, 78, 90]⟩ : ByteArray)] from rfl) (Reps.one (show Kd.M Kd.string _ _ _ (⟨#[76, 66, 78, 70]⟩ : ByteArray) [.string (⟨#[76, 66, 78, 70]⟩ : ByteArray)] from rfl) (Reps.one (show Kd.M Kd.string _ _ _ (⟨#[76, 83, 73, 69]⟩ : ByteArray) [.string (⟨#[76, 83, 73, 69]⟩ : ByteArray)] from rfl) (Reps.one (show Kd.M Kd.string _ _ _ (⟨#[76, 83, 81]⟩ : ByteArray) [.string (⟨#[76, 83, 81]⟩ : ByteArray)] from rfl) (Reps.one (show Kd.M Kd.string _ _ _ (⟨#[76, 83, 90]⟩ : ByteArray) [.string (⟨#[76, 83, 90]⟩ : ByteArray)] from rfl) (Reps.one (show Kd.M Kd.string _ _ _ (⟨#[76, 83, 68, 70]⟩ : ByteArray) [.string (⟨#[76, 83, 68, 70]⟩ : ByteArray)] from rfl) (Reps.none _ _)))))))))))))))))); intro v206 w39 ho40 hb hg_ hnew_; clear hg_ hnew_; (first | rw [← Ny205.out] at ho40 | (simp only [Int.reduceToNat] at ho40; rw [← Ny205.out] at ho40)); have n0_ := Aside0.mk (Kd.R_lower ho40 (below_size bw)); have n1_ := Aside0.mk (below_step bw hb); clear HB; have HO207 := n0_; have HB := n1_; clear n0_ n1_; clear hb ho40))
  go_ret
  exact ⟨_, ew, by (with_reducible repeat (first | apply Kd.R_alloc | apply Kd.R_drewN | apply Kd.R_drew)); exact HO207.out, bw⟩
 rw [if_neg c38] at H
 have c38b0 : (a0 == 12) = false := beq_eq_false_iff_ne.mpr c38
 have c38b1 : (a0 != 12) = true := bne_iff_ne.mpr c38
 by_cases c41 : a0 = 13
 ·rw [if_pos c41] at H
  have c41b0 : (a0 == 13) = true := beq_iff_eq.mpr c41
  have c41b1 : (a0 != 13) = false := bne_eq_false_iff_eq.mpr c41
  clear c41
  obtain ⟨y208, hy208⟩ : ∃ y_ : List ByteArray, y_ = (([(⟨#[83, 69, 80]⟩ : ByteArray)] : List ByteArray)) := ⟨_, rfl⟩
  replace H : (some y208) = some r := by first | (rw [hy208]; with_reducible exact H) | (have H2_ := (Option.bind_some _ _).symm.trans H; rw [hy208]; with_reducible exact H2_) | (have H2_ := (Option.bind_some _ _).symm.trans H; with_reducible exact H2_) | with_reducible exact H | (rw [hy208]; exact H) | exact H
  have Ny208 := Aside0.mk hy208
  clear hy208
  obtain rfl := Option.some.inj H
  go_enter Tryd.func51, Tryd.ntmps51
  go_wp2_with (first | ((with_reducible refine gate_dst (N := 45) rfl ?_); refine Kd.R_lit Kd.string _ 9 ?hg (N := 45) ?hd (xs := ([(⟨#[83, 69, 80]⟩ : ByteArray)] : List ByteArray)) (inner := [.string (⟨#[83, 69, 80]⟩ : ByteArray)]) (ok := fun _ => True) (okp := fun _ => True) ?hr ?hp (fun _ hk => hk) trivial (Below.refl _ _) (Nat.le_refl _) (by simp) ?_; (case hd => rfl); (case hg => rfl); (case hr => first | (go_simp; done) | (go_simp; rfl)); (case hp => exact (Reps.one (show Kd.M Kd.string _ _ _ (⟨#[83, 69, 80]⟩ : ByteArray) [.string (⟨#[83, 69, 80]⟩ : ByteArray)] from rfl) (Reps.none _ _))); intro v209 w42 ho43 hb hg_ hnew_; clear hg_ hnew_; (first | rw [← Ny208.out] at ho43 | (simp only [Int.reduceToNat] at ho43; rw [← Ny208.out] at ho43)); have n0_ := Aside0.mk (Kd.R_lower ho43 (below_size bw)); have n1_ := Aside0.mk (below_step bw hb); clear HB; have HO210 := n0_; have HB := n1_; clear n0_ n1_; clear hb ho43))
  go_ret
  exact ⟨_, ew, by (with_reducible repeat (first | apply Kd.R_alloc | apply Kd.R_drewN | apply Kd.R_drew)); exact HO210.out, bw⟩
 rw [if_neg c41] at H
 have c41b0 : (a0 == 13) = false := beq_eq_false_iff_ne.mpr c41
 have c41b1 : (a0 != 13) = true := bne_iff_ne.mpr c41
 by_cases c44 : a0 = 14
 ·rw [if_pos c44] at H
  have c44b0 : (a0 == 14) = true := beq_iff_eq.mpr c44
  have c44b1 : (a0 != 14) = false := bne_eq_false_iff_eq.mpr c44
  clear c44
  obtain ⟨y211, hy211⟩ : ∃ y_ : List ByteArray, y_ = (([(⟨#[83, 69, 88]⟩ : ByteArray)] : List ByteArray)) := ⟨_, rfl⟩
  replace H : (some y211) = some r := by first | (rw [hy211]; with_reducible exact H) | (have H2_ := (Option.bind_some _ _).symm.trans H; rw [hy211]; with_reducible exact H2_) | (have H2_ := (Option.bind_some _ _).symm.trans H; with_reducible exact H2_) | with_reducible exact H | (rw [hy211]; exact H) | exact H
  have Ny211 := Aside0.mk hy211
  clear hy211
  obtain rfl := Option.some.inj H
  go_enter Tryd.func51, Tryd.ntmps51
  go_wp2_with (first | ((with_reducible refine gate_dst (N := 48) rfl ?_); refine Kd.R_lit Kd.string _ 9 ?hg (N := 48) ?hd (xs := ([(⟨#[83, 69, 88]⟩ : ByteArray)] : List ByteArray)) (inner := [.string (⟨#[83, 69, 88]⟩ : ByteArray)]) (ok := fun _ => True) (okp := fun _ => True) ?hr ?hp (fun _ hk => hk) trivial (Below.refl _ _) (Nat.le_refl _) (by simp) ?_; (case hd => rfl); (case hg => rfl); (case hr => first | (go_simp; done) | (go_simp; rfl)); (case hp => exact (Reps.one (show Kd.M Kd.string _ _ _ (⟨#[83, 69, 88]⟩ : ByteArray) [.string (⟨#[83, 69, 88]⟩ : ByteArray)] from rfl) (Reps.none _ _))); intro v212 w45 ho46 hb hg_ hnew_; clear hg_ hnew_; (first | rw [← Ny211.out] at ho46 | (simp only [Int.reduceToNat] at ho46; rw [← Ny211.out] at ho46)); have n0_ := Aside0.mk (Kd.R_lower ho46 (below_size bw)); have n1_ := Aside0.mk (below_step bw hb); clear HB; have HO213 := n0_; have HB := n1_; clear n0_ n1_; clear hb ho46))
  go_ret
  exact ⟨_, ew, by (with_reducible repeat (first | apply Kd.R_alloc | apply Kd.R_drewN | apply Kd.R_drew)); exact HO213.out, bw⟩
 rw [if_neg c44] at H
 have c44b0 : (a0 == 14) = false := beq_eq_false_iff_ne.mpr c44
 have c44b1 : (a0 != 14) = true := bne_iff_ne.mpr c44
 obtain ⟨y214, hy214⟩ : ∃ y_ : List ByteArray, y_ = (([(⟨#[76, 68, 88]⟩ : ByteArray), (⟨#[79, 82]⟩ : ByteArray), (⟨#[65, 78, 68]⟩ : ByteArray), (⟨#[88, 79, 82]⟩ : ByteArray), (⟨#[65, 68, 68]⟩ : ByteArray), (⟨#[83, 68]⟩ : ByteArray), (⟨#[83, 72, 82]⟩ : ByteArray), (⟨#[83, 77]⟩ : ByteArray), (⟨#[76, 68, 73]⟩ : ByteArray), (⟨#[79, 82, 73]⟩ : ByteArray), (⟨#[65, 78, 73]⟩ : ByteArray), (⟨#[88, 82, 73]⟩ : ByteArray), (⟨#[65, 68, 73]⟩ : ByteArray), (⟨#[83, 68, 73]⟩ : ByteArray), (⟨#[83, 72, 76]⟩ : ByteArray), (⟨#[83, 77, 73]⟩ : ByteArray)] : List ByteArray)) := ⟨_, rfl⟩
 replace H : (some y214) = some r := by first | (rw [hy214]; with_reducible exact H) | (have H2_ := (Option.bind_some _ _).symm.trans H; rw [hy214]; with_reducible exact H2_) | (have H2_ := (Option.bind_some _ _).symm.trans H; with_reducible exact H2_) | with_reducible exact H | (rw [hy214]; exact H) | exact H
 have Ny214 := Aside0.mk hy214
 clear hy214
 obtain rfl := Option.some.inj H
 go_enter Tryd.func51, Tryd.ntmps51
 go_wp2_with (first | ((with_reducible refine gate_dst (N := 49) rfl ?_); refine Kd.R_lit Kd.string _ 9 ?hg (N := 49) ?hd (xs := ([(⟨#[76, 68, 88]⟩ : ByteArray), (⟨#[79, 82]⟩ : ByteArray), (⟨#[65, 78, 68]⟩ : ByteArray), (⟨#[88, 79, 82]⟩ : ByteArray), (⟨#[65, 68, 68]⟩ : ByteArray), (⟨#[83, 68]⟩ : ByteArray), (⟨#[83, 72, 82]⟩ : ByteArray), (⟨#[83, 77]⟩ : ByteArray), (⟨#[76, 68, 73]⟩ : ByteArray), (⟨#[79, 82, 73]⟩ : ByteArray), (⟨#[65, 78, 73]⟩ : ByteArray), (⟨#[88, 82, 73]⟩ : ByteArray), (⟨#[65, 68, 73]⟩ : ByteArray), (⟨#[83, 68, 73]⟩ : ByteArray), (⟨#[83, 72, 76]⟩ : ByteArray), (⟨#[83, 77, 73]⟩ : ByteArray)] : List ByteArray)) (inner := [.string (⟨#[76, 68, 88]⟩ : ByteArray), .string (⟨#[79, 82]⟩ : ByteArray), .string (⟨#[65, 78, 68]⟩ : ByteArray), .string (⟨#[88, 79, 82]⟩ : ByteArray), .string (⟨#[65, 68, 68]⟩ : ByteArray), .string (⟨#[83, 68]⟩ : ByteArray), .string (⟨#[83, 72, 82]⟩ : ByteArray), .string (⟨#[83, 77]⟩ : ByteArray), .string (⟨#[76, 68, 73]⟩ : ByteArray), .string (⟨#[79, 82, 73]⟩ : ByteArray), .string (⟨#[65, 78, 73]⟩ : ByteArray), .string (⟨#[88, 82, 73]⟩ : ByteArray), .string (⟨#[65, 68, 73]⟩ : ByteArray), .string (⟨#[83, 68, 73]⟩ : ByteArray), .string (⟨#[83, 72, 76]⟩ : ByteArray), .string (⟨#[83, 77, 73]⟩ : ByteArray)]) (ok := fun _ => True) (okp := fun _ => True) ?hr ?hp (fun _ hk => hk) trivial (Below.refl _ _) (Nat.le_refl _) (by simp) ?_; (case hd => rfl); (case hg => rfl); (case hr => first | (go_simp; done) | (go_simp; rfl)); (case hp => exact (Reps.one (show Kd.M Kd.string _ _ _ (⟨#[76, 68, 88]⟩ : ByteArray) [.string (⟨#[76, 68, 88]⟩ : ByteArray)] from rfl) (Reps.one (show Kd.M Kd.string _ _ _ (⟨#[79, 82]⟩ : ByteArray) [.string (⟨#[79, 82]⟩ : ByteArray)] from rfl) (Reps.one (show Kd.M Kd.string _ _ _ (⟨#[65, 78, 68]⟩ : ByteArray) [.string (⟨#[65, 78, 68]⟩ : ByteArray)] from rfl) (Reps.one (show Kd.M Kd.string _ _ _ (⟨#[88, 79, 82]⟩ : ByteArray) [.string (⟨#[88, 79, 82]⟩ : ByteArray)] from rfl) (Reps.one (show Kd.M Kd.string _ _ _ (⟨#[65, 68, 68]⟩ : ByteArray) [.string (⟨#[65, 68, 68]⟩ : ByteArray)] from rfl) (Reps.one (show Kd.M Kd.string _ _ _ (⟨#[83, 68]⟩ : ByteArray) [.string (⟨#[83, 68]⟩ : ByteArray)] from rfl) (Reps.one (show Kd.M Kd.string _ _ _ (⟨#[83, 72, 82]⟩ : ByteArray) [.string (⟨#[83, 72, 82]⟩ : ByteArray)] from rfl) (Reps.one (show Kd.M Kd.string _ _ _ (⟨#[83, 77]⟩ : ByteArray) [.string (⟨#[83, 77]⟩ : ByteArray)] from rfl) (Reps.one (show Kd.M Kd.string _ _ _ (⟨#[76, 68, 73]⟩ : ByteArray) [.string (⟨#[76, 68, 73]⟩ : ByteArray)] from rfl) (Reps.one (show Kd.M Kd.string _ _ _ (⟨#[79, 82, 73]⟩ : ByteArray) [.string (⟨#[79, 82, 73]⟩ : ByteArray)] from rfl) (Reps.one (show Kd.M Kd.string _ _ _ (⟨#[65, 78, 73]⟩ : ByteArray) [.string (⟨#[65, 78, 73]⟩ : ByteArray)] from rfl) (Reps.one (show Kd.M Kd.string _ _ _ (⟨#[88, 82, 73]⟩ : ByteArray) [.string (⟨#[88, 82, 73]⟩ : ByteArray)] from rfl) (Reps.one (show Kd.M Kd.string _ _ _ (⟨#[65, 68, 73]⟩ : ByteArray) [.string (⟨#[65, 68, 73]⟩ : ByteArray)] from rfl) (Reps.one (show Kd.M Kd.string _ _ _ (⟨#[83, 68, 73]⟩ : ByteArray) [.string (⟨#[83, 68, 73]⟩ : ByteArray)] from rfl) (Reps.one (show Kd.M Kd.string _ _ _ (⟨#[83, 72, 76]⟩ : ByteArray) [.string (⟨#[83, 72, 76]⟩ : ByteArray)] from rfl) (Reps.one (show Kd.M Kd.string _ _ _ (⟨#[83, 77, 73]⟩ : ByteArray) [.string (⟨#[83, 77, 73]⟩ : ByteArray)] from rfl) (Reps.none _ _)))))))))))))))))); intro v215 w47 ho48 hb hg_ hnew_; clear hg_ hnew_; (first | rw [← Ny214.out] at ho48 | (simp only [Int.reduceToNat] at ho48; rw [← Ny214.out] at ho48)); have n0_ := Aside0.mk (Kd.R_lower ho48 (below_size bw)); have n1_ := Aside0.mk (below_step bw hb); clear HB; have HO216 := n0_; have HB := n1_; clear n0_ n1_; clear hb ho48))
 go_ret
 exact ⟨_, ew, by (with_reducible repeat (first | apply Kd.R_alloc | apply Kd.R_drewN | apply Kd.R_drew)); exact HO216.out, bw⟩

/-! ### vesperref02_Name: function 43 -/
def vesperref02_Name.f (a0 : Int) : Option (ByteArray) := if a0 = 0 then (some (⟨#[73, 68, 76]⟩ : ByteArray)) else ((vesperref02_names.f ((Int.tdiv a0 16) % 256)).bind fun t217 => (if (t217.length : Int) = 1 then (if 0 < (t217.length : Int) then (some (rdOf ByteArray.empty t217 0)) else (none)) else (if 0 ≤ (wrap64 (Int.tmod a0 16)) then (if (wrap64 (Int.tmod a0 16)) < (t217.length : Int) then (some (rdOf ByteArray.empty t217 (wrap64 (Int.tmod a0 16)))) else (none)) else (none))))
set_option maxHeartbeats 8000000 in
set_option maxRecDepth 100000 in
theorem vesperref02_Name.calls (a0 : Int) (r : ByteArray) (w : World) (h : vesperref02_Name.f a0 = some r) :
 Calls Tryd.prog 43 #[.int .u8 a0] w fun e w' => e = .returned (.string r) ∧ Below w.heap.size w w' := by
 have HB := Aside0.mk (Below.refl w.heap.size w)
 have H : (if a0 = 0 then (some (⟨#[73, 68, 76]⟩ : ByteArray)) else ((vesperref02_names.f ((Int.tdiv a0 16) % 256)).bind fun t217 => (if (t217.length : Int) = 1 then (if 0 < (t217.length : Int) then (some (rdOf ByteArray.empty t217 0)) else (none)) else (if 0 ≤ (wrap64 (Int.tmod a0 16)) then (if (wrap64 (Int.tmod a0 16)) < (t217.length : Int) then (some (rdOf ByteArray.empty t217 (wrap64 (Int.tmod a0 16)))) else (none)) else (none))))) = some r := h
 clear h
 by_cases c2 : a0 = 0
 ·rw [if_pos c2] at H
  have c2b0 : (a0 == 0) = true := beq_iff_eq.mpr c2
  have c2b1 : (a0 != 0) = false := bne_eq_false_iff_eq.mpr c2
  clear c2
  obtain rfl := Option.some.inj H
  go_enter Tryd.func43, Tryd.ntmps43
  go_wp2
  go_ret
  exact ⟨ew, bw⟩
 rw [if_neg c2] at H
 have c2b0 : (a0 == 0) = false := beq_eq_false_iff_ne.mpr c2
 have c2b1 : (a0 != 0) = true := bne_iff_ne.mpr c2
 replace H := Option.bind_eq_some_iff.mp H
 obtain ⟨t217, A30, H⟩ := H
 replace H : (if (t217.length : Int) = 1 then (if 0 < (t217.length : Int) then (some (rdOf ByteArray.empty t217 0)) else (none)) else (if 0 ≤ (wrap64 (Int.tmod a0 16)) then (if (wrap64 (Int.tmod a0 16)) < (t217.length : Int) then (some (rdOf ByteArray.empty t217 (wrap64 (Int.tmod a0 16)))) else (none)) else (none))) = some r := H
 have A3 := Aside0.mk A30
 clear A30
 by_cases c4 : (t217.length : Int) = 1
 ·rw [if_pos c4] at H
  have c4b0 : ((t217.length : Int) == 1) = true := beq_iff_eq.mpr c4
  have c4b1 : ((t217.length : Int) != 1) = false := bne_eq_false_iff_eq.mpr c4
  clear c4
  by_cases c5 : 0 < (t217.length : Int)
  ·rw [if_pos c5] at H
   have c5b0 : decide (0 < (t217.length : Int)) = true := decide_eq_true c5
   have c5b1 : decide (0 < t217.length) = true := decide_eq_true (by omega)
   clear c5
   obtain rfl := Option.some.inj H
   go_enter Tryd.func43, Tryd.ntmps43
   go_wp2_with (first | ((with_reducible refine gate_callee (f := 51) rfl ?_); refine goesL_ (some 15) rfl rfl Tryd.func51 (by kernel_rfl) rfl #[.int .i64 ((Int.tdiv a0 16) % 256)] rfl sm ?_; (with_reducible refine (vesperref02_names.calls ((Int.tdiv a0 16) % 256) t217 _ A3.out).mono ?_); rintro e w6 ⟨v218, rfl, ho0, hb⟩; refine ⟨_, rfl, ?_⟩; have n0_ := Aside0.mk (Kd.R_lower ho0 (below_size bw)); have n1_ := Aside0.mk (below_step bw hb); clear HB; have HO219 := n0_; have HB := n1_; clear n0_ n1_; (try clear hb); (try clear hb2); (try clear hk); (try clear hi); (try clear ho0); obtain ⟨Ao7, co7, eo7⟩ := Kd.R_slice HO219.out; subst eo7; have p220 : 0 ≤ (0 : Int) := (by omega); have q220 : 0 < (t217.length : Int) := oda; obtain ⟨ad220, e220, hx220_0⟩ := Kd.at_string (Kd.R_reads' HO219.out).2.2 0 p220 q220; cases e220; have qi220 : (0 < t217.length) = True := eq_true (by omega); (try rw [show ((0 : Int)).toNat = 0 from rfl] at hx220_0); (try rw [Addr.add_zero'] at hx220_0); replace p220 := eq_true p220; replace q220 := eq_true q220))
   go_ret
   exact ⟨ew, bw⟩
  rw [if_neg c5] at H
  exact absurd H (by simp)
 rw [if_neg c4] at H
 have c4b0 : ((t217.length : Int) == 1) = false := beq_eq_false_iff_ne.mpr c4
 have c4b1 : ((t217.length : Int) != 1) = true := bne_iff_ne.mpr c4
 obtain ⟨ji8, hji8⟩ : ∃ j_ : Int, (wrap64 (Int.tmod a0 16)) = j_ := ⟨_, rfl⟩
 replace H : (if 0 ≤ (ji8) then (if (ji8) < (t217.length : Int) then (some (rdOf ByteArray.empty t217 (ji8))) else (none)) else (none)) = some r := by first | (rw [hji8] at H; exact H) | (simp only [hji8] at H ⊢; exact H)
 (try rw [hji8] at A3)
 have hji8w : (IntKind.i64.wrap (Int.tmod a0 16)) = ji8 := (i64_w _).trans hji8
 by_cases c9 : 0 ≤ (ji8)
 ·rw [if_pos c9] at H
  have c9b0 : decide (0 ≤ (ji8)) = true := decide_eq_true c9
  clear c9
  by_cases c10 : (ji8) < (t217.length : Int)
  ·rw [if_pos c10] at H
   have c10b0 : decide ((ji8) < (t217.length : Int)) = true := decide_eq_true c10
   clear c10
   obtain rfl := Option.some.inj H
   go_enter Tryd.func43, Tryd.ntmps43
   go_wp2_with (first | ((with_reducible refine gate_callee (f := 51) rfl ?_); refine goesL_ (some 15) rfl rfl Tryd.func51 (by kernel_rfl) rfl #[.int .i64 ((Int.tdiv a0 16) % 256)] rfl sm ?_; (with_reducible refine (vesperref02_names.calls ((Int.tdiv a0 16) % 256) t217 _ A3.out).mono ?_); rintro e w11 ⟨v218, rfl, ho0, hb⟩; refine ⟨_, rfl, ?_⟩; have n0_ := Aside0.mk (Kd.R_lower ho0 (below_size bw)); have n1_ := Aside0.mk (below_step bw hb); clear HB; have HO219 := n0_; have HB := n1_; clear n0_ n1_; (try clear hb); (try clear hb2); (try clear hk); (try clear hi); (try clear ho0); obtain ⟨Ao12, co12, eo12⟩ := Kd.R_slice HO219.out; subst eo12; have p221 : 0 ≤ ((ji8) : Int) := oda; have q221 : (ji8) < (t217.length : Int) := oda; obtain ⟨ad221, e221, hx221_0⟩ := Kd.at_string (Kd.R_reads' HO219.out).2.2 (ji8) p221 q221; cases e221; replace p221 := eq_true p221; replace q221 := eq_true q221))
   go_ret
   exact ⟨by first | rfl | (simp [errW_none, errW_some] <;> rfl) | (simp only [← hji8]; first | rfl | (simp [errW_none, errW_some] <;> rfl)) | (simp [*, errW_none, errW_some] <;> rfl), bw⟩
  rw [if_neg c10] at H
  exact absurd H (by simp)
 rw [if_neg c9] at H
 exact absurd H (by simp)

/-! ### vesperref02_Decode: function 35 -/
def vesperref02_Decode.j0 : Nat → List Int → Int → Int → Int → Int → Bool → Option (ByteArray × Int × Int × Int)
 | 0, _, _, _, _, _, _ => none
 | k + 1, x0, x5, x7, x8, x25, x36 => if x36 = true then (if 1 < (x0.length : Int) then ((vesperref02_Name.f x5).bind fun t229 => (some (t229, wrap64 (rd x0 1), x7, 0))) else (none)) else (if x25 = 6 then (if 1 < (x0.length : Int) then (if 2 < (x0.length : Int) then ((vesperref02_Name.f x5).bind fun t232 => (some (t232, wrap64 ((wrap64 (256 * (wrap64 (rd x0 1)))) + (wrap64 (rd x0 2))), x7, 0))) else (none)) else (none)) else ((vesperref02_Name.f x5).bind fun t233 => (some (t233, x8, x7, 0))))
def vesperref02_Decode.f (k : Nat) (l0 : List Int) : Option (ByteArray × Int × Int × Int) := if (l0.length : Int) = 0 then (some ((⟨#[]⟩ : ByteArray), 0, 0, 22)) else (if 0 < (l0.length : Int) then ((vesperref02_FormOf.f k (rd l0 0)).bind fun t224 => ((vesperref02_Bytes.f k t224).bind fun t225 => (if (l0.length : Int) < t225 then (some ((⟨#[]⟩ : ByteArray), 0, 0, 22)) else (if t224 = 2 then ((vesperref02_Name.f (rd l0 0)).bind fun t226 => (some (t226, wrap64 (Int.tmod (rd l0 0) 16), t225, 0))) else (if t224 = 3 then ((vesperref02_Name.f (rd l0 0)).bind fun t227 => (some (t227, wrap64 (Int.tmod (rd l0 0) 8), t225, 0))) else (if t224 = 4 then (vesperref02_Decode.j0 k l0 (rd l0 0) t225 0 t224 (t224 == 4)) else (vesperref02_Decode.j0 k l0 (rd l0 0) t225 0 t224 (t224 == 5)))))))) else (none))
theorem vesperref02_Decode.mono_l : ∀ k, (∀ y0 y1 y2 y3 y4 y5, LeO (vesperref02_Decode.j0 k y0 y1 y2 y3 y4 y5) (vesperref02_Decode.j0 (k + 1) y0 y1 y2 y3 y4 y5))
 | 0 => fun _ _ _ _ _ _ r h => by simp [vesperref02_Decode.j0] at h
 | k + 1 => by
  have ih0 := vesperref02_Decode.mono_l k
  intro y0 y1 y2 y3 y4 y5
  unfold vesperref02_Decode.j0
  repeat' first
  | (with_reducible exact ih0 _ _ _ _ _ _)
  | (with_reducible exact vesperref02_Bytes.mono _ _)
  | (with_reducible exact vesperref02_FormOf.mono _ _)
  | (with_reducible exact LeO.refl _)
  | (with_reducible exact LeO.none _)
  | (with_reducible refine LeO.ite ?_ ?_)
  | (with_reducible refine LeO.bind ?_ (fun _ => ?_))
  | exact ih0 _ _ _ _ _ _
  | exact vesperref02_Bytes.mono _ _
  | exact vesperref02_FormOf.mono _ _
  | exact LeO.none _
  | refine LeO.ite ?_ ?_
  | refine LeO.bind ?_ (fun _ => ?_)
theorem vesperref02_Decode.mono : ∀ a0 k, LeO (vesperref02_Decode.f k a0) (vesperref02_Decode.f (k + 1) a0) := by
 intro a0 k
 have ih0 := vesperref02_Decode.mono_l k
 unfold vesperref02_Decode.f
 repeat' first
  | (with_reducible exact ih0 _ _ _ _ _ _)
  | (with_reducible exact vesperref02_Bytes.mono _ _)
  | (with_reducible exact vesperref02_FormOf.mono _ _)
  | (with_reducible exact LeO.refl _)
  | (with_reducible exact LeO.none _)
  | (with_reducible refine LeO.ite ?_ ?_)
  | (with_reducible refine LeO.bind ?_ (fun _ => ?_))
  | exact ih0 _ _ _ _ _ _
  | exact vesperref02_Bytes.mono _ _
  | exact vesperref02_FormOf.mono _ _
  | exact LeO.none _
  | refine LeO.ite ?_ ?_
  | refine LeO.bind ?_ (fun _ => ?_)
set_option maxHeartbeats 8000000 in
set_option maxRecDepth 100000 in
theorem vesperref02_Decode.calls (k : Nat) (A0 : Option Addr) (c0 : Nat) (l0 : List Int) (r1 : ByteArray) (r2 : Int) (r3 : Int) (r4 : Int) (w : World) (hr0 : Kd.C (Kd.int .u8) w A0 l0.length l0) (hc0 : l0.length ≤ c0) (h : vesperref02_Decode.f k l0 = some (r1, r2, r3, r4)) :
 Calls Tryd.prog 35 #[.slice A0 l0.length c0] w fun e w' => e = .returned (.tuple #[.agg #[.string r1, .int .i64 r2], .int .i64 r3, .int .i64 r4]) ∧ Below w.heap.size w w' := by
 have hu66 := Tryd.underlying66
 have HR0 := Aside0.mk hr0
 have HC0 := Aside0.mk hc0
 clear hr0 hc0
 have HB := Aside0.mk (Below.refl w.heap.size w)
 have H : (if (l0.length : Int) = 0 then (some ((⟨#[]⟩ : ByteArray), 0, 0, 22)) else (if 0 < (l0.length : Int) then ((vesperref02_FormOf.f k (rd l0 0)).bind fun t224 => ((vesperref02_Bytes.f k t224).bind fun t225 => (if (l0.length : Int) < t225 then (some ((⟨#[]⟩ : ByteArray), 0, 0, 22)) else (if t224 = 2 then ((vesperref02_Name.f (rd l0 0)).bind fun t226 => (some (t226, wrap64 (Int.tmod (rd l0 0) 16), t225, 0))) else (if t224 = 3 then ((vesperref02_Name.f (rd l0 0)).bind fun t227 => (some (t227, wrap64 (Int.tmod (rd l0 0) 8), t225, 0))) else (if t224 = 4 then (vesperref02_Decode.j0 k l0 (rd l0 0) t225 0 t224 (t224 == 4)) else (vesperref02_Decode.j0 k l0 (rd l0 0) t225 0 t224 (t224 == 5)))))))) else (none))) = some (r1, r2, r3, r4) := h
 clear h
 by_cases c2 : (l0.length : Int) = 0
 ·rw [if_pos c2] at H
  have c2b0 : ((l0.length : Int) == 0) = true := beq_iff_eq.mpr c2
  have c2b1 : ((l0.length : Int) != 0) = false := bne_eq_false_iff_eq.mpr c2
  clear c2
  simp only [Option.some.injEq, Prod.mk.injEq] at H
  obtain ⟨rfl, rfl, rfl, rfl⟩ := H
  go_enter Tryd.func35, Tryd.ntmps35
  go_wp2_with (first | ((with_reducible refine gate_dst (N := 2) rfl ?_); refine box_event ?hg (N := 2) ?hd (cs := #[.string (⟨#[]⟩ : ByteArray), .int .i64 0]) (t := 66) ?hr ?_; (case hd => rfl); (case hg => rfl); (case hr => first | (go_simp; done) | (go_simp; rfl)); intro gb222 hg w3 hbox hb; have n0_ := Aside0.mk (below_step bw hb); have n1_ := Aside0.mk (hbox); have n2_ := Aside0.mk (bz hg : w.heap.size ≤ gb222); have n3_ := Aside0.mk (bz hg : w.heap.size ≤ gb222); clear HB; have HB := n0_; have BK222 := n1_; have GW222 := n2_; have GE222 := n3_; clear n0_ n1_ n2_ n3_; clear hb hbox hg; have hcz4_0 : w3.cell? ⟨gb222, 0, none⟩ = some (.string (⟨#[]⟩ : ByteArray)) := (blk_cell BK222.out 0).trans rfl; have hcz4_1 : w3.cell? ⟨gb222, 1, none⟩ = some (.int .i64 0) := (blk_cell BK222.out 1).trans rfl; have hfz4_0 := blk_frozen BK222.out 0; have hfz4_1 := blk_frozen BK222.out 1))
  repeat (go_quiet (first | ((with_reducible refine gate_dst (N := 2) rfl ?_); refine box_event ?hg (N := 2) ?hd (cs := #[.string (⟨#[]⟩ : ByteArray), .int .i64 0]) (t := 66) ?hr ?_; (case hd => rfl); (case hg => rfl); (case hr => first | (go_simp; done) | (go_simp; rfl)); intro gb222 hg w3 hbox hb; have n0_ := Aside0.mk (below_step bw hb); have n1_ := Aside0.mk (hbox); have n2_ := Aside0.mk (bz hg : w.heap.size ≤ gb222); have n3_ := Aside0.mk (bz hg : w.heap.size ≤ gb222); clear HB; have HB := n0_; have BK222 := n1_; have GW222 := n2_; have GE222 := n3_; clear n0_ n1_ n2_ n3_; clear hb hbox hg; have hcz4_0 : w3.cell? ⟨gb222, 0, none⟩ = some (.string (⟨#[]⟩ : ByteArray)) := (blk_cell BK222.out 0).trans rfl; have hcz4_1 : w3.cell? ⟨gb222, 1, none⟩ = some (.int .i64 0) := (blk_cell BK222.out 1).trans rfl; have hfz4_0 := blk_frozen BK222.out 0; have hfz4_1 := blk_frozen BK222.out 1)); try go_wp2_with (first | ((with_reducible refine gate_dst (N := 2) rfl ?_); refine box_event ?hg (N := 2) ?hd (cs := #[.string (⟨#[]⟩ : ByteArray), .int .i64 0]) (t := 66) ?hr ?_; (case hd => rfl); (case hg => rfl); (case hr => first | (go_simp; done) | (go_simp; rfl)); intro gb222 hg w3 hbox hb; have n0_ := Aside0.mk (below_step bw hb); have n1_ := Aside0.mk (hbox); have n2_ := Aside0.mk (bz hg : w.heap.size ≤ gb222); have n3_ := Aside0.mk (bz hg : w.heap.size ≤ gb222); clear HB; have HB := n0_; have BK222 := n1_; have GW222 := n2_; have GE222 := n3_; clear n0_ n1_ n2_ n3_; clear hb hbox hg; have hcz4_0 : w3.cell? ⟨gb222, 0, none⟩ = some (.string (⟨#[]⟩ : ByteArray)) := (blk_cell BK222.out 0).trans rfl; have hcz4_1 : w3.cell? ⟨gb222, 1, none⟩ = some (.int .i64 0) := (blk_cell BK222.out 1).trans rfl; have hfz4_0 := blk_frozen BK222.out 0; have hfz4_1 := blk_frozen BK222.out 1)))
  refine bodyPost_ret (results_ctt rfl _ _ gb222 66 #[.string (⟨#[]⟩ : ByteArray), .int .i64 0] (0, 0) _ rfl (by (with_reducible repeat (first | refine blk_drewN ?_ _ | refine blk_drew ?_ | refine blk_alloc ?_ _)); refine blk_put (cs := #[.string (⟨#[]⟩ : ByteArray), .int .i64 0]) ?_ 1 _ rfl; (with_reducible repeat (first | refine blk_drewN ?_ _ | refine blk_drew ?_ | refine blk_alloc ?_ _)); refine blk_put (cs := #[.string (⟨#[]⟩ : ByteArray), .int .i64 0]) ?_ 0 _ rfl; (with_reducible repeat (first | refine blk_drewN ?_ _ | refine blk_drew ?_ | refine blk_alloc ?_ _)); exact BK222.out) Tryd.underlying66 rfl (by kernel_rfl)) rfl ?_
  exact ⟨ew, bw⟩
 rw [if_neg c2] at H
 have c2b0 : ((l0.length : Int) == 0) = false := beq_eq_false_iff_ne.mpr c2
 have c2b1 : ((l0.length : Int) != 0) = true := bne_iff_ne.mpr c2
 have c2b2 : ¬ (l0 = []) := fun h_ => c2 (by rw [h_]; rfl)
 by_cases c5 : 0 < (l0.length : Int)
 ·rw [if_pos c5] at H
  have c5b0 : decide (0 < (l0.length : Int)) = true := decide_eq_true c5
  have c5b1 : decide (0 < l0.length) = true := decide_eq_true (by omega)
  clear c5
  replace H := Option.bind_eq_some_iff.mp H
  obtain ⟨t224, A60, H⟩ := H
  replace H : ((vesperref02_Bytes.f k t224).bind fun t225 => (if (l0.length : Int) < t225 then (some ((⟨#[]⟩ : ByteArray), 0, 0, 22)) else (if t224 = 2 then ((vesperref02_Name.f (rd l0 0)).bind fun t226 => (some (t226, wrap64 (Int.tmod (rd l0 0) 16), t225, 0))) else (if t224 = 3 then ((vesperref02_Name.f (rd l0 0)).bind fun t227 => (some (t227, wrap64 (Int.tmod (rd l0 0) 8), t225, 0))) else (if t224 = 4 then (vesperref02_Decode.j0 k l0 (rd l0 0) t225 0 t224 (t224 == 4)) else (vesperref02_Decode.j0 k l0 (rd l0 0) t225 0 t224 (t224 == 5))))))) = some (r1, r2, r3, r4) := H
  have A6 := Aside0.mk A60
  clear A60
  replace H := Option.bind_eq_some_iff.mp H
  obtain ⟨t225, A70, H⟩ := H
  replace H : (if (l0.length : Int) < t225 then (some ((⟨#[]⟩ : ByteArray), 0, 0, 22)) else (if t224 = 2 then ((vesperref02_Name.f (rd l0 0)).bind fun t226 => (some (t226, wrap64 (Int.tmod (rd l0 0) 16), t225, 0))) else (if t224 = 3 then ((vesperref02_Name.f (rd l0 0)).bind fun t227 => (some (t227, wrap64 (Int.tmod (rd l0 0) 8), t225, 0))) else (if t224 = 4 then (vesperref02_Decode.j0 k l0 (rd l0 0) t225 0 t224 (t224 == 4)) else (vesperref02_Decode.j0 k l0 (rd l0 0) t225 0 t224 (t224 == 5)))))) = some (r1, r2, r3, r4) := H
  have A7 := Aside0.mk A70
  clear A70
  by_cases c8 : (l0.length : Int) < t225
  ·rw [if_pos c8] at H
   have c8b0 : decide ((l0.length : Int) < t225) = true := decide_eq_true c8
   clear c8
   simp only [Option.some.injEq, Prod.mk.injEq] at H
   obtain ⟨rfl, rfl, rfl, rfl⟩ := H
   go_enter Tryd.func35, Tryd.ntmps35
   go_wp2_with (first | ((with_reducible refine gate_dst (N := 2) rfl ?_); refine box_event ?hg (N := 2) ?hd (cs := #[.string (⟨#[]⟩ : ByteArray), .int .i64 0]) (t := 66) ?hr ?_; (case hd => rfl); (case hg => rfl); (case hr => first | (go_simp; done) | (go_simp; rfl)); intro gb222 hg w9 hbox hb; have n0_ := Aside0.mk (below_step bw hb); have n1_ := Aside0.mk (hbox); have n2_ := Aside0.mk (bz hg : w.heap.size ≤ gb222); have n3_ := Aside0.mk (bz hg : w.heap.size ≤ gb222); clear HB; have HB := n0_; have BK222 := n1_; have GW222 := n2_; have GE222 := n3_; clear n0_ n1_ n2_ n3_; clear hb hbox hg; have p223 : 0 ≤ (0 : Int) := (by omega); have q223 : 0 < (l0.length : Int) := oda; obtain ⟨ad223, e223, hx223_0⟩ := Kd.at_int HR0.out 0 p223 q223; cases e223; have qi223 : (0 < l0.length) = True := eq_true (by omega); (try rw [show ((0 : Int)).toNat = 0 from rfl] at hx223_0); (try rw [Addr.add_zero'] at hx223_0); replace hx223_0 := up_ HB hx223_0; replace p223 := eq_true p223; replace q223 := eq_true q223) | (go_at_call 41; (with_reducible refine (vesperref02_FormOf.calls k (rd l0 0) t224 _ A6.out).mono ?_); rintro e w' ⟨rfl, ⟨nd, rfl⟩⟩; (try first | exact ⟨rfl, _, World.drewN_drewN _ _ _⟩ | exact ⟨rfl, _, Eq.trans (World.drewN_drewN _ _ _) (congrArg (World.drewN _) (Nat.add_assoc _ _ _))⟩)) | (go_at_call 42; (with_reducible refine (vesperref02_Bytes.calls k t224 t225 _ A7.out).mono ?_); rintro e w' ⟨rfl, ⟨nd, rfl⟩⟩; (try first | exact ⟨rfl, _, World.drewN_drewN _ _ _⟩ | exact ⟨rfl, _, Eq.trans (World.drewN_drewN _ _ _) (congrArg (World.drewN _) (Nat.add_assoc _ _ _))⟩); have hcz10_0 : w9.cell? ⟨gb222, 0, none⟩ = some (.string (⟨#[]⟩ : ByteArray)) := (blk_cell BK222.out 0).trans rfl; have hcz10_1 : w9.cell? ⟨gb222, 1, none⟩ = some (.int .i64 0) := (blk_cell BK222.out 1).trans rfl; have hfz10_0 := blk_frozen BK222.out 0; have hfz10_1 := blk_frozen BK222.out 1))
   repeat (go_quiet (fail); try go_wp2_with (fail))
   refine bodyPost_ret (results_ctt rfl _ _ gb222 66 #[.string (⟨#[]⟩ : ByteArray), .int .i64 0] (0, 0) _ rfl (by (with_reducible repeat (first | refine blk_drewN ?_ _ | refine blk_drew ?_ | refine blk_alloc ?_ _)); refine blk_put (cs := #[.string (⟨#[]⟩ : ByteArray), .int .i64 0]) ?_ 1 _ rfl; (with_reducible repeat (first | refine blk_drewN ?_ _ | refine blk_drew ?_ | refine blk_alloc ?_ _)); refine blk_put (cs := #[.string (⟨#[]⟩ : ByteArray), .int .i64 0]) ?_ 0 _ rfl; (with_reducible repeat (first | refine blk_drewN ?_ _ | refine blk_drew ?_ | refine blk_alloc ?_ _)); exact BK222.out) Tryd.underlying66 rfl (by kernel_rfl)) rfl ?_
   exact ⟨ew, bw⟩
  rw [if_neg c8] at H
  have c8b0 : decide ((l0.length : Int) < t225) = false := decide_eq_false c8
  clear c8
  by_cases c11 : t224 = 2
  ·rw [if_pos c11] at H
   have c11b0 : (t224 == 2) = true := beq_iff_eq.mpr c11
   have c11b1 : (t224 != 2) = false := bne_eq_false_iff_eq.mpr c11
   clear c11
   replace H := Option.bind_eq_some_iff.mp H
   obtain ⟨t226, A120, H⟩ := H
   replace H : (some (t226, wrap64 (Int.tmod (rd l0 0) 16), t225, 0)) = some (r1, r2, r3, r4) := H
   have A12 := Aside0.mk A120
   clear A120
   simp only [Option.some.injEq, Prod.mk.injEq] at H
   obtain ⟨rfl, rfl, rfl, rfl⟩ := H
   go_enter Tryd.func35, Tryd.ntmps35
   go_wp2_with (first | ((with_reducible refine gate_dst (N := 2) rfl ?_); refine box_event ?hg (N := 2) ?hd (cs := #[.string (⟨#[]⟩ : ByteArray), .int .i64 0]) (t := 66) ?hr ?_; (case hd => rfl); (case hg => rfl); (case hr => first | (go_simp; done) | (go_simp; rfl)); intro gb222 hg w13 hbox hb; have n0_ := Aside0.mk (below_step bw hb); have n1_ := Aside0.mk (hbox); have n2_ := Aside0.mk (bz hg : w.heap.size ≤ gb222); have n3_ := Aside0.mk (bz hg : w.heap.size ≤ gb222); clear HB; have HB := n0_; have BK222 := n1_; have GW222 := n2_; have GE222 := n3_; clear n0_ n1_ n2_ n3_; clear hb hbox hg; have p223 : 0 ≤ (0 : Int) := (by omega); have q223 : 0 < (l0.length : Int) := oda; obtain ⟨ad223, e223, hx223_0⟩ := Kd.at_int HR0.out 0 p223 q223; cases e223; have qi223 : (0 < l0.length) = True := eq_true (by omega); (try rw [show ((0 : Int)).toNat = 0 from rfl] at hx223_0); (try rw [Addr.add_zero'] at hx223_0); replace hx223_0 := up_ HB hx223_0; replace p223 := eq_true p223; replace q223 := eq_true q223) | (go_at_call 41; (with_reducible refine (vesperref02_FormOf.calls k (rd l0 0) t224 _ A6.out).mono ?_); rintro e w' ⟨rfl, ⟨nd, rfl⟩⟩; (try first | exact ⟨rfl, _, World.drewN_drewN _ _ _⟩ | exact ⟨rfl, _, Eq.trans (World.drewN_drewN _ _ _) (congrArg (World.drewN _) (Nat.add_assoc _ _ _))⟩)) | (go_at_call 42; (with_reducible refine (vesperref02_Bytes.calls k t224 t225 _ A7.out).mono ?_); rintro e w' ⟨rfl, ⟨nd, rfl⟩⟩; (try first | exact ⟨rfl, _, World.drewN_drewN _ _ _⟩ | exact ⟨rfl, _, Eq.trans (World.drewN_drewN _ _ _) (congrArg (World.drewN _) (Nat.add_assoc _ _ _))⟩)) | (go_at_call 43; (with_reducible refine (vesperref02_Name.calls (rd l0 0) t226 _ A12.out).mono ?_); rintro e w14 ⟨rfl, hb⟩; have n0_ := Aside0.mk (blk_below (g := gb222) (o := .cells #[.string (⟨#[]⟩ : ByteArray), .int .i64 0] 66 (0, 0)) bk hb); have n1_ := Aside0.mk (below_step bw hb); clear BK222; clear HB; have BK222 := n0_; have HB := n1_; clear n0_ n1_; (try clear hb); (try clear hb2); (try clear hk); (try clear hi); have hcz15_0 : w14.cell? ⟨gb222, 0, none⟩ = some (.string (⟨#[]⟩ : ByteArray)) := (blk_cell BK222.out 0).trans rfl; have hcz15_1 : w14.cell? ⟨gb222, 1, none⟩ = some (.int .i64 0) := (blk_cell BK222.out 1).trans rfl; have hfz15_0 := blk_frozen BK222.out 0; have hfz15_1 := blk_frozen BK222.out 1))
   repeat (go_quiet (fail); try go_wp2_with (fail))
   refine bodyPost_ret (results_ctt rfl _ _ gb222 66 #[.string t226, .int .i64 (wrap64 (Int.tmod (rd l0 0) 16))] (0, 0) _ rfl (by (with_reducible repeat (first | refine blk_drewN ?_ _ | refine blk_drew ?_ | refine blk_alloc ?_ _)); refine blk_put (cs := #[.string t226, .int .i64 0]) ?_ 1 _ rfl; (with_reducible repeat (first | refine blk_drewN ?_ _ | refine blk_drew ?_ | refine blk_alloc ?_ _)); refine blk_put (cs := #[.string (⟨#[]⟩ : ByteArray), .int .i64 0]) ?_ 0 _ rfl; (with_reducible repeat (first | refine blk_drewN ?_ _ | refine blk_drew ?_ | refine blk_alloc ?_ _)); exact BK222.out) Tryd.underlying66 rfl (by kernel_rfl)) rfl ?_
   exact ⟨ew, bw⟩
  rw [if_neg c11] at H
  have c11b0 : (t224 == 2) = false := beq_eq_false_iff_ne.mpr c11
  have c11b1 : (t224 != 2) = true := bne_iff_ne.mpr c11
  by_cases c16 : t224 = 3
  ·rw [if_pos c16] at H
   have c16b0 : (t224 == 3) = true := beq_iff_eq.mpr c16
   have c16b1 : (t224 != 3) = false := bne_eq_false_iff_eq.mpr c16
   clear c16
   replace H := Option.bind_eq_some_iff.mp H
   obtain ⟨t227, A170, H⟩ := H
   replace H : (some (t227, wrap64 (Int.tmod (rd l0 0) 8), t225, 0)) = some (r1, r2, r3, r4) := H
   have A17 := Aside0.mk A170
   clear A170
   simp only [Option.some.injEq, Prod.mk.injEq] at H
   obtain ⟨rfl, rfl, rfl, rfl⟩ := H
   go_enter Tryd.func35, Tryd.ntmps35
   go_wp2_with (first | ((with_reducible refine gate_dst (N := 2) rfl ?_); refine box_event ?hg (N := 2) ?hd (cs := #[.string (⟨#[]⟩ : ByteArray), .int .i64 0]) (t := 66) ?hr ?_; (case hd => rfl); (case hg => rfl); (case hr => first | (go_simp; done) | (go_simp; rfl)); intro gb222 hg w18 hbox hb; have n0_ := Aside0.mk (below_step bw hb); have n1_ := Aside0.mk (hbox); have n2_ := Aside0.mk (bz hg : w.heap.size ≤ gb222); have n3_ := Aside0.mk (bz hg : w.heap.size ≤ gb222); clear HB; have HB := n0_; have BK222 := n1_; have GW222 := n2_; have GE222 := n3_; clear n0_ n1_ n2_ n3_; clear hb hbox hg; have p223 : 0 ≤ (0 : Int) := (by omega); have q223 : 0 < (l0.length : Int) := oda; obtain ⟨ad223, e223, hx223_0⟩ := Kd.at_int HR0.out 0 p223 q223; cases e223; have qi223 : (0 < l0.length) = True := eq_true (by omega); (try rw [show ((0 : Int)).toNat = 0 from rfl] at hx223_0); (try rw [Addr.add_zero'] at hx223_0); replace hx223_0 := up_ HB hx223_0; replace p223 := eq_true p223; replace q223 := eq_true q223) | (go_at_call 41; (with_reducible refine (vesperref02_FormOf.calls k (rd l0 0) t224 _ A6.out).mono ?_); rintro e w' ⟨rfl, ⟨nd, rfl⟩⟩; (try first | exact ⟨rfl, _, World.drewN_drewN _ _ _⟩ | exact ⟨rfl, _, Eq.trans (World.drewN_drewN _ _ _) (congrArg (World.drewN _) (Nat.add_assoc _ _ _))⟩)) | (go_at_call 42; (with_reducible refine (vesperref02_Bytes.calls k t224 t225 _ A7.out).mono ?_); rintro e w' ⟨rfl, ⟨nd, rfl⟩⟩; (try first | exact ⟨rfl, _, World.drewN_drewN _ _ _⟩ | exact ⟨rfl, _, Eq.trans (World.drewN_drewN _ _ _) (congrArg (World.drewN _) (Nat.add_assoc _ _ _))⟩)) | (go_at_call 43; (with_reducible refine (vesperref02_Name.calls (rd l0 0) t227 _ A17.out).mono ?_); rintro e w19 ⟨rfl, hb⟩; have n0_ := Aside0.mk (blk_below (g := gb222) (o := .cells #[.string (⟨#[]⟩ : ByteArray), .int .i64 0] 66 (0, 0)) bk hb); have n1_ := Aside0.mk (below_step bw hb); clear BK222; clear HB; have BK222 := n0_; have HB := n1_; clear n0_ n1_; (try clear hb); (try clear hb2); (try clear hk); (try clear hi); have hcz20_0 : w19.cell? ⟨gb222, 0, none⟩ = some (.string (⟨#[]⟩ : ByteArray)) := (blk_cell BK222.out 0).trans rfl; have hcz20_1 : w19.cell? ⟨gb222, 1, none⟩ = some (.int .i64 0) := (blk_cell BK222.out 1).trans rfl; have hfz20_0 := blk_frozen BK222.out 0; have hfz20_1 := blk_frozen BK222.out 1))
   repeat (go_quiet (fail); try go_wp2_with (fail))
   refine bodyPost_ret (results_ctt rfl _ _ gb222 66 #[.string t227, .int .i64 (wrap64 (Int.tmod (rd l0 0) 8))] (0, 0) _ rfl (by (with_reducible repeat (first | refine blk_drewN ?_ _ | refine blk_drew ?_ | refine blk_alloc ?_ _)); refine blk_put (cs := #[.string t227, .int .i64 0]) ?_ 1 _ rfl; (with_reducible repeat (first | refine blk_drewN ?_ _ | refine blk_drew ?_ | refine blk_alloc ?_ _)); refine blk_put (cs := #[.string (⟨#[]⟩ : ByteArray), .int .i64 0]) ?_ 0 _ rfl; (with_reducible repeat (first | refine blk_drewN ?_ _ | refine blk_drew ?_ | refine blk_alloc ?_ _)); exact BK222.out) Tryd.underlying66 rfl (by kernel_rfl)) rfl ?_
   exact ⟨ew, bw⟩
  rw [if_neg c16] at H
  have c16b0 : (t224 == 3) = false := beq_eq_false_iff_ne.mpr c16
  have c16b1 : (t224 != 3) = true := bne_iff_ne.mpr c16
  have HC21 := Aside0.mk H
  clear H
  go_enter Tryd.func35, Tryd.ntmps35
  go_upto_if 36 with (first | ((with_reducible refine gate_dst (N := 2) rfl ?_); refine box_event ?hg (N := 2) ?hd (cs := #[.string (⟨#[]⟩ : ByteArray), .int .i64 0]) (t := 66) ?hr ?_; (case hd => rfl); (case hg => rfl); (case hr => first | (go_simp; done) | (go_simp; rfl)); intro gb222 hg w22 hbox hb; have n0_ := Aside0.mk (below_step bw hb); have n1_ := Aside0.mk (hbox); have n2_ := Aside0.mk (bz hg : w.heap.size ≤ gb222); have n3_ := Aside0.mk (bz hg : w.heap.size ≤ gb222); clear HB; have HB := n0_; have BK222 := n1_; have GW222 := n2_; have GE222 := n3_; clear n0_ n1_ n2_ n3_; clear hb hbox hg; have p223 : 0 ≤ (0 : Int) := (by omega); have q223 : 0 < (l0.length : Int) := oda; obtain ⟨ad223, e223, hx223_0⟩ := Kd.at_int HR0.out 0 p223 q223; cases e223; have qi223 : (0 < l0.length) = True := eq_true (by omega); (try rw [show ((0 : Int)).toNat = 0 from rfl] at hx223_0); (try rw [Addr.add_zero'] at hx223_0); replace hx223_0 := up_ HB hx223_0; replace p223 := eq_true p223; replace q223 := eq_true q223) | (go_at_call 41; (with_reducible refine (vesperref02_FormOf.calls k (rd l0 0) t224 _ A6.out).mono ?_); rintro e w' ⟨rfl, ⟨nd, rfl⟩⟩; (try first | exact ⟨rfl, _, World.drewN_drewN _ _ _⟩ | exact ⟨rfl, _, Eq.trans (World.drewN_drewN _ _ _) (congrArg (World.drewN _) (Nat.add_assoc _ _ _))⟩)) | (go_at_call 42; (with_reducible refine (vesperref02_Bytes.calls k t224 t225 _ A7.out).mono ?_); rintro e w' ⟨rfl, ⟨nd, rfl⟩⟩; (try first | exact ⟨rfl, _, World.drewN_drewN _ _ _⟩ | exact ⟨rfl, _, Eq.trans (World.drewN_drewN _ _ _) (congrArg (World.drewN _) (Nat.add_assoc _ _ _))⟩)))
  repeat (go_quiet (fail); go_upto_if 36 with (fail))
  (try simp only [Act.put, List.setIfInBounds_toArray, List.set_cons_zero, List.set_cons_succ])
  go_cut [36] (fun v36 wc => ∃ (kq : Nat) (x36_20 : Bool), v36 = .bool x36_20 ∧ Aside0 (vesperref02_Decode.j0 kq l0 (rd l0 0) t225 0 t224 x36_20 = some (r1, r2, r3, r4)) ∧ Aside0 (kq ≤ k) ∧ Aside0 (wc.heap[gb222]? = some (.cells #[.string (⟨#[]⟩ : ByteArray), .int .i64 0] 66 (0, 0))) ∧ Aside0 (Below w.heap.size w wc))
  case first =>
   have H := HC21.out
   clear HC21
   by_cases c23 : t224 = 4
   ·rw [if_pos c23] at H
    have c23b0 : (t224 == 4) = true := beq_iff_eq.mpr c23
    have c23b1 : (t224 != 4) = false := bne_eq_false_iff_eq.mpr c23
    clear c23
    (first | rw [c23b0] | (simp only [i64_w, i32_w]; rw [c23b0]) | skip)
    have H' := Aside0.mk H
    clear H
    go_wp2
    repeat (go_quiet (fail); try go_wp2)
    go_meet
    case rel => exact ⟨_, ((t224 == 4)), rs, H', ⟨by first | omega | exact Nat.le_refl _⟩, ⟨by (with_reducible repeat (first | refine blk_drewN ?_ _ | refine blk_drew ?_ | refine blk_alloc ?_ _)); exact BK222.out⟩, ⟨bw⟩⟩
   rw [if_neg c23] at H
   have c23b0 : (t224 == 4) = false := beq_eq_false_iff_ne.mpr c23
   have c23b1 : (t224 != 4) = true := bne_iff_ne.mpr c23
   (first | rw [c23b0] | (simp only [i64_w, i32_w]; rw [c23b0]) | skip)
   have H' := Aside0.mk H
   clear H
   go_wp2
   repeat (go_quiet (fail); try go_wp2)
   go_meet
   case rel => exact ⟨_, ((t224 == 5)), rs, H', ⟨by first | omega | exact Nat.le_refl _⟩, ⟨by (with_reducible repeat (first | refine blk_drewN ?_ _ | refine blk_drew ?_ | refine blk_alloc ?_ _)); exact BK222.out⟩, ⟨bw⟩⟩
  case rest =>
   clear HC21
   clear c2 c2b0 c2b1 c2b2 c5b0 c5b1 c8b0 c11 c11b0 c11b1 c16 c16b0 c16b1 hx223_0 p223 q223
   obtain ⟨kq, x36_20, rfl, HA, HJ20, BK222, HB⟩ := hcut
   cases kq with
   | zero => exact absurd HA.out (by simp [vesperref02_Decode.j0])
   | succ kj20 =>
    have H := HA.out
    clear HA
    simp only [vesperref02_Decode.j0] at H
    by_cases c24 : x36_20 = true
    ·subst c24
     have H1 : (if 1 < (l0.length : Int) then ((vesperref02_Name.f (rd l0 0)).bind fun t229 => (some (t229, wrap64 (rd l0 1), t225, 0))) else (none)) = some (r1, r2, r3, r4) := by rw [if_pos rfl] at H; exact H
     clear H
     have H := H1
     clear H1
     by_cases c25 : 1 < (l0.length : Int)
     ·rw [if_pos c25] at H
      have c25b0 : decide (1 < (l0.length : Int)) = true := decide_eq_true c25
      have c25b1 : decide (1 < l0.length) = true := decide_eq_true (by omega)
      clear c25
      replace H := Option.bind_eq_some_iff.mp H
      obtain ⟨t229, A260, H⟩ := H
      replace H : (some (t229, wrap64 (rd l0 1), t225, 0)) = some (r1, r2, r3, r4) := H
      have A26 := Aside0.mk A260
      clear A260
      simp only [Option.some.injEq, Prod.mk.injEq] at H
      obtain ⟨rfl, rfl, rfl, rfl⟩ := H
      have p228 : 0 ≤ (1 : Int) := (by omega)
      have q228 : 1 < (l0.length : Int) := oda
      obtain ⟨ad228, e228, hx228_0⟩ := Kd.at_int HR0.out 1 p228 q228
      obtain rfl : ad223 = ad228 := (by injection e228)
      (try simp only [show (1 : Int).toNat = 1 from rfl, Nat.reduceMul, Nat.reduceEqDiff, Go.Addr.add, ↓reduceIte] at hx228_0)
      have qi228 : (1 < l0.length) = True := eq_true (by omega)
      (try rw [show ((1 : Int)).toNat = 1 from rfl] at hx228_0)
      replace hx228_0 := up_ HB hx228_0
      replace p228 := eq_true p228
      replace q228 := eq_true q228
      go_wp2_with (first | (go_at_call 43; (with_reducible refine (vesperref02_Name.calls (rd l0 0) t229 _ A26.out).mono ?_); rintro e w27 ⟨rfl, hb⟩; have n0_ := Aside0.mk (blk_below (g := gb222) (o := .cells #[.string (⟨#[]⟩ : ByteArray), .int .i64 0] 66 (0, 0)) bk hb); have n1_ := Aside0.mk (below_step bw hb); clear BK222; clear HB; have BK222 := n0_; have HB := n1_; clear n0_ n1_; (try clear hb); (try clear hb2); (try clear hk); (try clear hi); have hcz28_0 : w27.cell? ⟨gb222, 0, none⟩ = some (.string (⟨#[]⟩ : ByteArray)) := (blk_cell BK222.out 0).trans rfl; have hcz28_1 : w27.cell? ⟨gb222, 1, none⟩ = some (.int .i64 0) := (blk_cell BK222.out 1).trans rfl; have hfz28_0 := blk_frozen BK222.out 0; have hfz28_1 := blk_frozen BK222.out 1))
      repeat (go_quiet (first | (go_at_call 43; (with_reducible refine (vesperref02_Name.calls (rd l0 0) t229 _ A26.out).mono ?_); rintro e w27 ⟨rfl, hb⟩; have n0_ := Aside0.mk (blk_below (g := gb222) (o := .cells #[.string (⟨#[]⟩ : ByteArray), .int .i64 0] 66 (0, 0)) bk hb); have n1_ := Aside0.mk (below_step bw hb); clear BK222; clear HB; have BK222 := n0_; have HB := n1_; clear n0_ n1_; (try clear hb); (try clear hb2); (try clear hk); (try clear hi); have hcz28_0 : w27.cell? ⟨gb222, 0, none⟩ = some (.string (⟨#[]⟩ : ByteArray)) := (blk_cell BK222.out 0).trans rfl; have hcz28_1 : w27.cell? ⟨gb222, 1, none⟩ = some (.int .i64 0) := (blk_cell BK222.out 1).trans rfl; have hfz28_0 := blk_frozen BK222.out 0; have hfz28_1 := blk_frozen BK222.out 1)); try go_wp2_with (first | (go_at_call 43; (with_reducible refine (vesperref02_Name.calls (rd l0 0) t229 _ A26.out).mono ?_); rintro e w27 ⟨rfl, hb⟩; have n0_ := Aside0.mk (blk_below (g := gb222) (o := .cells #[.string (⟨#[]⟩ : ByteArray), .int .i64 0] 66 (0, 0)) bk hb); have n1_ := Aside0.mk (below_step bw hb); clear BK222; clear HB; have BK222 := n0_; have HB := n1_; clear n0_ n1_; (try clear hb); (try clear hb2); (try clear hk); (try clear hi); have hcz28_0 : w27.cell? ⟨gb222, 0, none⟩ = some (.string (⟨#[]⟩ : ByteArray)) := (blk_cell BK222.out 0).trans rfl; have hcz28_1 : w27.cell? ⟨gb222, 1, none⟩ = some (.int .i64 0) := (blk_cell BK222.out 1).trans rfl; have hfz28_0 := blk_frozen BK222.out 0; have hfz28_1 := blk_frozen BK222.out 1)))
      refine bodyPost_ret (results_ctt rfl _ _ gb222 66 #[.string t229, .int .i64 (wrap64 (rd l0 1))] (0, 0) _ rfl (by (with_reducible repeat (first | refine blk_drewN ?_ _ | refine blk_drew ?_ | refine blk_alloc ?_ _)); refine blk_put (cs := #[.string t229, .int .i64 0]) ?_ 1 _ rfl; (with_reducible repeat (first | refine blk_drewN ?_ _ | refine blk_drew ?_ | refine blk_alloc ?_ _)); refine blk_put (cs := #[.string (⟨#[]⟩ : ByteArray), .int .i64 0]) ?_ 0 _ rfl; (with_reducible repeat (first | refine blk_drewN ?_ _ | refine blk_drew ?_ | refine blk_alloc ?_ _)); exact BK222.out) Tryd.underlying66 rfl (by kernel_rfl)) rfl ?_
      exact ⟨ew, bw⟩
     rw [if_neg c25] at H
     exact absurd H (by simp)
    replace c24 := Bool.eq_false_iff.mpr c24
    subst c24
    have H1 : (if t224 = 6 then (if 1 < (l0.length : Int) then (if 2 < (l0.length : Int) then ((vesperref02_Name.f (rd l0 0)).bind fun t232 => (some (t232, wrap64 ((wrap64 (256 * (wrap64 (rd l0 1)))) + (wrap64 (rd l0 2))), t225, 0))) else (none)) else (none)) else ((vesperref02_Name.f (rd l0 0)).bind fun t233 => (some (t233, 0, t225, 0)))) = some (r1, r2, r3, r4) := by rw [if_neg (show ¬ (false = true) by decide)] at H; exact H
    clear H
    have H := H1
    clear H1
    by_cases c29 : t224 = 6
    ·rw [if_pos c29] at H
     have c29b0 : (t224 == 6) = true := beq_iff_eq.mpr c29
     have c29b1 : (t224 != 6) = false := bne_eq_false_iff_eq.mpr c29
     clear c29
     by_cases c30 : 1 < (l0.length : Int)
     ·rw [if_pos c30] at H
      have c30b0 : decide (1 < (l0.length : Int)) = true := decide_eq_true c30
      have c30b1 : decide (1 < l0.length) = true := decide_eq_true (by omega)
      clear c30
      by_cases c31 : 2 < (l0.length : Int)
      ·rw [if_pos c31] at H
       have c31b0 : decide (2 < (l0.length : Int)) = true := decide_eq_true c31
       have c31b1 : decide (2 < l0.length) = true := decide_eq_true (by omega)
       clear c31
       replace H := Option.bind_eq_some_iff.mp H
       obtain ⟨t232, A320, H⟩ := H
       replace H : (some (t232, wrap64 ((wrap64 (256 * (wrap64 (rd l0 1)))) + (wrap64 (rd l0 2))), t225, 0)) = some (r1, r2, r3, r4) := H
       have A32 := Aside0.mk A320
       clear A320
       simp only [Option.some.injEq, Prod.mk.injEq] at H
       obtain ⟨rfl, rfl, rfl, rfl⟩ := H
       have p230 : 0 ≤ (1 : Int) := (by omega)
       have q230 : 1 < (l0.length : Int) := oda
       obtain ⟨ad230, e230, hx230_0⟩ := Kd.at_int HR0.out 1 p230 q230
       obtain rfl : ad223 = ad230 := (by injection e230)
       (try simp only [show (1 : Int).toNat = 1 from rfl, Nat.reduceMul, Nat.reduceEqDiff, Go.Addr.add, ↓reduceIte] at hx230_0)
       have qi230 : (1 < l0.length) = True := eq_true (by omega)
       (try rw [show ((1 : Int)).toNat = 1 from rfl] at hx230_0)
       replace hx230_0 := up_ HB hx230_0
       replace p230 := eq_true p230
       replace q230 := eq_true q230
       have p231 : 0 ≤ (2 : Int) := (by omega)
       have q231 : 2 < (l0.length : Int) := oda
       obtain ⟨ad231, e231, hx231_0⟩ := Kd.at_int HR0.out 2 p231 q231
       obtain rfl : ad223 = ad231 := (by injection e231)
       (try simp only [show (2 : Int).toNat = 2 from rfl, Nat.reduceMul, Nat.reduceEqDiff, Go.Addr.add, ↓reduceIte] at hx231_0)
       have qi231 : (2 < l0.length) = True := eq_true (by omega)
       (try rw [show ((2 : Int)).toNat = 2 from rfl] at hx231_0)
       replace hx231_0 := up_ HB hx231_0
       replace p231 := eq_true p231
       replace q231 := eq_true q231
       go_wp2_with (first | (go_at_call 43; (with_reducible refine (vesperref02_Name.calls (rd l0 0) t232 _ A32.out).mono ?_); rintro e w33 ⟨rfl, hb⟩; have n0_ := Aside0.mk (blk_below (g := gb222) (o := .cells #[.string (⟨#[]⟩ : ByteArray), .int .i64 0] 66 (0, 0)) bk hb); have n1_ := Aside0.mk (below_step bw hb); clear BK222; clear HB; have BK222 := n0_; have HB := n1_; clear n0_ n1_; (try clear hb); (try clear hb2); (try clear hk); (try clear hi); have hcz34_0 : w33.cell? ⟨gb222, 0, none⟩ = some (.string (⟨#[]⟩ : ByteArray)) := (blk_cell BK222.out 0).trans rfl; have hcz34_1 : w33.cell? ⟨gb222, 1, none⟩ = some (.int .i64 0) := (blk_cell BK222.out 1).trans rfl; have hfz34_0 := blk_frozen BK222.out 0; have hfz34_1 := blk_frozen BK222.out 1))
       repeat (go_quiet (first | (go_at_call 43; (with_reducible refine (vesperref02_Name.calls (rd l0 0) t232 _ A32.out).mono ?_); rintro e w33 ⟨rfl, hb⟩; have n0_ := Aside0.mk (blk_below (g := gb222) (o := .cells #[.string (⟨#[]⟩ : ByteArray), .int .i64 0] 66 (0, 0)) bk hb); have n1_ := Aside0.mk (below_step bw hb); clear BK222; clear HB; have BK222 := n0_; have HB := n1_; clear n0_ n1_; (try clear hb); (try clear hb2); (try clear hk); (try clear hi); have hcz34_0 : w33.cell? ⟨gb222, 0, none⟩ = some (.string (⟨#[]⟩ : ByteArray)) := (blk_cell BK222.out 0).trans rfl; have hcz34_1 : w33.cell? ⟨gb222, 1, none⟩ = some (.int .i64 0) := (blk_cell BK222.out 1).trans rfl; have hfz34_0 := blk_frozen BK222.out 0; have hfz34_1 := blk_frozen BK222.out 1)); try go_wp2_with (first | (go_at_call 43; (with_reducible refine (vesperref02_Name.calls (rd l0 0) t232 _ A32.out).mono ?_); rintro e w33 ⟨rfl, hb⟩; have n0_ := Aside0.mk (blk_below (g := gb222) (o := .cells #[.string (⟨#[]⟩ : ByteArray), .int .i64 0] 66 (0, 0)) bk hb); have n1_ := Aside0.mk (below_step bw hb); clear BK222; clear HB; have BK222 := n0_; have HB := n1_; clear n0_ n1_; (try clear hb); (try clear hb2); (try clear hk); (try clear hi); have hcz34_0 : w33.cell? ⟨gb222, 0, none⟩ = some (.string (⟨#[]⟩ : ByteArray)) := (blk_cell BK222.out 0).trans rfl; have hcz34_1 : w33.cell? ⟨gb222, 1, none⟩ = some (.int .i64 0) := (blk_cell BK222.out 1).trans rfl; have hfz34_0 := blk_frozen BK222.out 0; have hfz34_1 := blk_frozen BK222.out 1)))
       refine bodyPost_ret (results_ctt rfl _ _ gb222 66 #[.string t232, .int .i64 (wrap64 ((wrap64 (256 * (wrap64 (rd l0 1)))) + (wrap64 (rd l0 2))))] (0, 0) _ rfl (by (with_reducible repeat (first | refine blk_drewN ?_ _ | refine blk_drew ?_ | refine blk_alloc ?_ _)); refine blk_put (cs := #[.string t232, .int .i64 0]) ?_ 1 _ rfl; (with_reducible repeat (first | refine blk_drewN ?_ _ | refine blk_drew ?_ | refine blk_alloc ?_ _)); refine blk_put (cs := #[.string (⟨#[]⟩ : ByteArray), .int .i64 0]) ?_ 0 _ rfl; (with_reducible repeat (first | refine blk_drewN ?_ _ | refine blk_drew ?_ | refine blk_alloc ?_ _)); exact BK222.out) Tryd.underlying66 rfl (by kernel_rfl)) rfl ?_
       exact ⟨ew, bw⟩
      rw [if_neg c31] at H
      exact absurd H (by simp)
     rw [if_neg c30] at H
     exact absurd H (by simp)
    rw [if_neg c29] at H
    have c29b0 : (t224 == 6) = false := beq_eq_false_iff_ne.mpr c29
    have c29b1 : (t224 != 6) = true := bne_iff_ne.mpr c29
    replace H := Option.bind_eq_some_iff.mp H
    obtain ⟨t233, A350, H⟩ := H
    replace H : (some (t233, 0, t225, 0)) = some (r1, r2, r3, r4) := H
    have A35 := Aside0.mk A350
    clear A350
    simp only [Option.some.injEq, Prod.mk.injEq] at H
    obtain ⟨rfl, rfl, rfl, rfl⟩ := H
    go_wp2_with (first | (go_at_call 43; (with_reducible refine (vesperref02_Name.calls (rd l0 0) t233 _ A35.out).mono ?_); rintro e w36 ⟨rfl, hb⟩; have n0_ := Aside0.mk (blk_below (g := gb222) (o := .cells #[.string (⟨#[]⟩ : ByteArray), .int .i64 0] 66 (0, 0)) bk hb); have n1_ := Aside0.mk (below_step bw hb); clear BK222; clear HB; have BK222 := n0_; have HB := n1_; clear n0_ n1_; (try clear hb); (try clear hb2); (try clear hk); (try clear hi); have hcz37_0 : w36.cell? ⟨gb222, 0, none⟩ = some (.string (⟨#[]⟩ : ByteArray)) := (blk_cell BK222.out 0).trans rfl; have hcz37_1 : w36.cell? ⟨gb222, 1, none⟩ = some (.int .i64 0) := (blk_cell BK222.out 1).trans rfl; have hfz37_0 := blk_frozen BK222.out 0; have hfz37_1 := blk_frozen BK222.out 1))
    repeat (go_quiet (first | (go_at_call 43; (with_reducible refine (vesperref02_Name.calls (rd l0 0) t233 _ A35.out).mono ?_); rintro e w36 ⟨rfl, hb⟩; have n0_ := Aside0.mk (blk_below (g := gb222) (o := .cells #[.string (⟨#[]⟩ : ByteArray), .int .i64 0] 66 (0, 0)) bk hb); have n1_ := Aside0.mk (below_step bw hb); clear BK222; clear HB; have BK222 := n0_; have HB := n1_; clear n0_ n1_; (try clear hb); (try clear hb2); (try clear hk); (try clear hi); have hcz37_0 : w36.cell? ⟨gb222, 0, none⟩ = some (.string (⟨#[]⟩ : ByteArray)) := (blk_cell BK222.out 0).trans rfl; have hcz37_1 : w36.cell? ⟨gb222, 1, none⟩ = some (.int .i64 0) := (blk_cell BK222.out 1).trans rfl; have hfz37_0 := blk_frozen BK222.out 0; have hfz37_1 := blk_frozen BK222.out 1)); try go_wp2_with (first | (go_at_call 43; (with_reducible refine (vesperref02_Name.calls (rd l0 0) t233 _ A35.out).mono ?_); rintro e w36 ⟨rfl, hb⟩; have n0_ := Aside0.mk (blk_below (g := gb222) (o := .cells #[.string (⟨#[]⟩ : ByteArray), .int .i64 0] 66 (0, 0)) bk hb); have n1_ := Aside0.mk (below_step bw hb); clear BK222; clear HB; have BK222 := n0_; have HB := n1_; clear n0_ n1_; (try clear hb); (try clear hb2); (try clear hk); (try clear hi); have hcz37_0 : w36.cell? ⟨gb222, 0, none⟩ = some (.string (⟨#[]⟩ : ByteArray)) := (blk_cell BK222.out 0).trans rfl; have hcz37_1 : w36.cell? ⟨gb222, 1, none⟩ = some (.int .i64 0) := (blk_cell BK222.out 1).trans rfl; have hfz37_0 := blk_frozen BK222.out 0; have hfz37_1 := blk_frozen BK222.out 1)))
    refine bodyPost_ret (results_ctt rfl _ _ gb222 66 #[.string t233, .int .i64 0] (0, 0) _ rfl (by (with_reducible repeat (first | refine blk_drewN ?_ _ | refine blk_drew ?_ | refine blk_alloc ?_ _)); refine blk_put (cs := #[.string t233, .int .i64 0]) ?_ 1 _ rfl; (with_reducible repeat (first | refine blk_drewN ?_ _ | refine blk_drew ?_ | refine blk_alloc ?_ _)); refine blk_put (cs := #[.string (⟨#[]⟩ : ByteArray), .int .i64 0]) ?_ 0 _ rfl; (with_reducible repeat (first | refine blk_drewN ?_ _ | refine blk_drew ?_ | refine blk_alloc ?_ _)); exact BK222.out) Tryd.underlying66 rfl (by kernel_rfl)) rfl ?_
    exact ⟨ew, bw⟩
 rw [if_neg c5] at H
 exact absurd H (by simp)

/-! ### vesperref14_whole: function 28 -/
def vesperref14_whole.l0 : Nat → List Int → Int → Option (Bool)
 | 0, _, _ => none
 | k + 1, x0, x3 => if x3 < (x0.length : Int) then (if 0 ≤ x3 then (if x3 ≤ (x0.length : Int) then ((vesperref02_Decode.f k (x0.drop (x3 : Int).toNat)).bind fun bt235 => (if bt235.2.2.2 = 0 then (vesperref14_whole.l0 k x0 (wrap64 (x3 + bt235.2.2.1))) else (some false))) else (none)) else (none)) else (some true)
def vesperref14_whole.f (k : Nat) (l0 : List Int) : Option (Bool) := vesperref14_whole.l0 k l0 0
theorem vesperref14_whole.mono_l : ∀ k, (∀ y0 y1, LeO (vesperref14_whole.l0 k y0 y1) (vesperref14_whole.l0 (k + 1) y0 y1))
 | 0 => fun _ _ r h => by simp [vesperref14_whole.l0] at h
 | k + 1 => by
  have ih0 := vesperref14_whole.mono_l k
  intro y0 y1
  unfold vesperref14_whole.l0
  repeat' first
  | (with_reducible exact ih0 _ _)
  | (with_reducible exact vesperref02_Decode.mono _ _)
  | (with_reducible exact LeO.refl _)
  | (with_reducible exact LeO.none _)
  | (with_reducible refine LeO.ite ?_ ?_)
  | (with_reducible refine LeO.bind ?_ (fun _ => ?_))
  | exact ih0 _ _
  | exact vesperref02_Decode.mono _ _
  | exact LeO.none _
  | refine LeO.ite ?_ ?_
  | refine LeO.bind ?_ (fun _ => ?_)
theorem vesperref14_whole.mono : ∀ a0 k, LeO (vesperref14_whole.f k a0) (vesperref14_whole.f (k + 1) a0) := by
 intro a0 k
 have ih0 := vesperref14_whole.mono_l k
 unfold vesperref14_whole.f
 repeat' first
  | (with_reducible exact ih0 _ _)
  | (with_reducible exact vesperref02_Decode.mono _ _)
  | (with_reducible exact LeO.refl _)
  | (with_reducible exact LeO.none _)
  | (with_reducible refine LeO.ite ?_ ?_)
  | (with_reducible refine LeO.bind ?_ (fun _ => ?_))
  | exact ih0 _ _
  | exact vesperref02_Decode.mono _ _
  | exact LeO.none _
  | refine LeO.ite ?_ ?_
  | refine LeO.bind ?_ (fun _ => ?_)
set_option maxHeartbeats 8000000 in
set_option maxRecDepth 100000 in
theorem vesperref14_whole.calls (k : Nat) (A0 : Option Addr) (c0 : Nat) (l0 : List Int) (r : Bool) (w : World) (hr0 : Kd.C (Kd.int .u8) w A0 l0.length l0) (hc0 : l0.length ≤ c0) (h : vesperref14_whole.f k l0 = some r) :
 Calls Tryd.prog 28 #[.slice A0 l0.length c0] w fun e w' => e = .returned (.bool r) ∧ Below w.heap.size w w' := by
 have hu66 := Tryd.underlying66
 have HR0 := Aside0.mk hr0
 have HC0 := Aside0.mk hc0
 clear hr0 hc0
 have HB := Aside0.mk (Below.refl w.heap.size w)
 have H : (vesperref14_whole.l0 k l0 0) = some r := h
 clear h
 have H' := Aside0.mk H
 clear H
 go_enter Tryd.func28, Tryd.ntmps28
 go_wp2
 go_loopg [3] k (fun kq v3 w' => ∃ (x3_1 : Int), v3 = .int .i64 x3_1 ∧ Aside0 (vesperref14_whole.l0 kq l0 x3_1 = some r) ∧ Aside0 (kq ≤ k) ∧ Aside0 (Below w.heap.size w w'))
 case atStart => exact ⟨(0), rs, H', ⟨Nat.le_refl _⟩, ⟨bw⟩⟩
 case round =>
  clear H'
  obtain ⟨x3_1, rfl, HA, HK1, HB⟩ := hrel
  cases gk with
  | zero => exact absurd HA.out (by simp [vesperref14_whole.l0])
  | succ k1 =>
   have H := HA.out
   clear HA
   simp only [vesperref14_whole.l0] at H
   by_cases c2 : x3_1 < (l0.length : Int)
   ·rw [if_pos c2] at H
    have c2b0 : decide (x3_1 < (l0.length : Int)) = true := decide_eq_true c2
    clear c2
    by_cases c3 : 0 ≤ x3_1
    ·rw [if_pos c3] at H
     have c3b0 := eq_true c3
     have c3b1 : decide (0 ≤ x3_1) = true := decide_eq_true c3
     clear c3
     by_cases c4 : x3_1 ≤ (l0.length : Int)
     ·rw [if_pos c4] at H
      have c4b0 := eq_true c4
      have c4b1 : decide (x3_1 ≤ (l0.length : Int)) = true := decide_eq_true c4
      clear c4
      replace H := Option.bind_eq_some_iff.mp H
      obtain ⟨⟨t235, t236, t237, t238⟩, A50, H⟩ := H
      replace H : (if t238 = 0 then (vesperref14_whole.l0 k1 l0 (wrap64 (x3_1 + t237))) else (some false)) = some r := H
      have A5 := Aside0.mk A50
      clear A50
      by_cases c6 : t238 = 0
      ·rw [if_pos c6] at H
       have c6b0 : (t238 == 0) = true := beq_iff_eq.mpr c6
       have c6b1 : (t238 != 0) = false := bne_eq_false_iff_eq.mpr c6
       clear c6
       have H' := Aside0.mk H
       clear H
       obtain ⟨i07, hi07, _, hsz7, _⟩ := info_parts info5
       obtain ⟨A7, hcut7, hA7, hC7⟩ := print_drop_of (P := Tryd.prog) (Value.int .u8) 0 33 5 .i64 Tryd.underlying33 hi07 hsz7 A0 c0 l0 x3_1 (oda) (oda) HC0.out
       have HR234 := Aside0.mk (Kd.C_of_reads (h1 := fun _ => rfl) (hA7 _ (Kd.reads_of_C HR0.out)))
       have HC234 := Aside0.mk hC7
       clear hA7 hC7 hi07 hsz7
       go_wp2_with (first | ((with_reducible refine gate_callee (f := 35) rfl ?_); refine goesL_ (some 15) rfl rfl Tryd.func35 (by kernel_rfl) rfl #[.slice A7 (l0.drop (x3_1 : Int).toNat).length (c0 - x3_1.toNat)] rfl (by (try simp only [List.map_toArray, List.map_cons, List.map_nil]); first | done | (rw [show (l0.drop (x3_1 : Int).toNat).length = (l0.length - x3_1.toNat) from List.length_drop] <;> rfl) | rfl | (simp only [List.length_drop, List.length_take]; rfl)) ?_; (with_reducible refine (vesperref02_Decode.calls k1 _ _ (l0.drop (x3_1 : Int).toNat) t235 t236 t237 t238 _ ?side1 ?side2 A5.out).mono ?_); (case side1 => repeat (first | exact (Kd.C_below HR234.out HB.out) | (with_reducible refine Kd.C_alloc ?_ _) | (with_reducible refine Kd.C_drewN ?_ _) | (with_reducible refine Kd.C_drew ?_))); (case side2 => exact HC234.out); rintro e w8 ⟨rfl, hb⟩; refine ⟨_, rfl, ?_⟩; have n0_ := Aside0.mk (below_step bw hb); clear HB; have HB := n0_; clear n0_; (try clear hb); (try clear hb2); (try clear hk); (try clear hi)) | ((with_reducible refine gate_dst (N := 4) rfl ?_); refine box_event ?hg (N := 4) ?hd (cs := #[.string (⟨#[]⟩ : ByteArray), .int .i64 0]) (t := 66) ?hr ?_; (case hd => rfl); (case hg => rfl); (case hr => first | (go_simp; done) | (go_simp; rfl)); intro gb239 hg w9 hbox hb; have n0_ := Aside0.mk (below_step bw hb); have n1_ := Aside0.mk (hbox); have n2_ := Aside0.mk (bz hg : w.heap.size ≤ gb239); have n3_ := Aside0.mk (bz hg : w.heap.size ≤ gb239); clear HB; have HB := n0_; have BK239 := n1_; have GW239 := n2_; have GE239 := n3_; clear n0_ n1_ n2_ n3_; clear hb hbox hg; have hcz10_0 : w9.cell? ⟨gb239, 0, none⟩ = some (.string (⟨#[]⟩ : ByteArray)) := (blk_cell BK239.out 0).trans rfl; have hcz10_1 : w9.cell? ⟨gb239, 1, none⟩ = some (.int .i64 0) := (blk_cell BK239.out 1).trans rfl; have hfz10_0 := blk_frozen BK239.out 0; have hfz10_1 := blk_frozen BK239.out 1))
       go_roundg k1
       case measure => have := HK1.out; omega
       case rel => exact ⟨(wrap64 (x3_1 + t237)), rs, H', ⟨by have := HK1.out; omega⟩, ⟨bw⟩⟩
      rw [if_neg c6] at H
      have c6b0 : (t238 == 0) = false := beq_eq_false_iff_ne.mpr c6
      have c6b1 : (t238 != 0) = true := bne_iff_ne.mpr c6
      obtain rfl := Option.some.inj H
      obtain ⟨i011, hi011, _, hsz11, _⟩ := info_parts info5
      obtain ⟨A11, hcut11, hA11, hC11⟩ := print_drop_of (P := Tryd.prog) (Value.int .u8) 0 33 5 .i64 Tryd.underlying33 hi011 hsz11 A0 c0 l0 x3_1 (oda) (oda) HC0.out
      have HR234 := Aside0.mk (Kd.C_of_reads (h1 := fun _ => rfl) (hA11 _ (Kd.reads_of_C HR0.out)))
      have HC234 := Aside0.mk hC11
      clear hA11 hC11 hi011 hsz11
      go_wp2_with (first | ((with_reducible refine gate_callee (f := 35) rfl ?_); refine goesL_ (some 15) rfl rfl Tryd.func35 (by kernel_rfl) rfl #[.slice A11 (l0.drop (x3_1 : Int).toNat).length (c0 - x3_1.toNat)] rfl (by (try simp only [List.map_toArray, List.map_cons, List.map_nil]); first | done | (rw [show (l0.drop (x3_1 : Int).toNat).length = (l0.length - x3_1.toNat) from List.length_drop] <;> rfl) | rfl | (simp only [List.length_drop, List.length_take]; rfl)) ?_; (with_reducible refine (vesperref02_Decode.calls k1 _ _ (l0.drop (x3_1 : Int).toNat) t235 t236 t237 t238 _ ?side1 ?side2 A5.out).mono ?_); (case side1 => repeat (first | exact (Kd.C_below HR234.out HB.out) | (with_reducible refine Kd.C_alloc ?_ _) | (with_reducible refine Kd.C_drewN ?_ _) | (with_reducible refine Kd.C_drew ?_))); (case side2 => exact HC234.out); rintro e w12 ⟨rfl, hb⟩; refine ⟨_, rfl, ?_⟩; have n0_ := Aside0.mk (below_step bw hb); clear HB; have HB := n0_; clear n0_; (try clear hb); (try clear hb2); (try clear hk); (try clear hi)) | ((with_reducible refine gate_dst (N := 4) rfl ?_); refine box_event ?hg (N := 4) ?hd (cs := #[.string (⟨#[]⟩ : ByteArray), .int .i64 0]) (t := 66) ?hr ?_; (case hd => rfl); (case hg => rfl); (case hr => first | (go_simp; done) | (go_simp; rfl)); intro gb239 hg w13 hbox hb; have n0_ := Aside0.mk (below_step bw hb); have n1_ := Aside0.mk (hbox); have n2_ := Aside0.mk (bz hg : w.heap.size ≤ gb239); have n3_ := Aside0.mk (bz hg : w.heap.size ≤ gb239); clear HB; have HB := n0_; have BK239 := n1_; have GW239 := n2_; have GE239 := n3_; clear n0_ n1_ n2_ n3_; clear hb hbox hg; have hcz14_0 : w13.cell? ⟨gb239, 0, none⟩ = some (.string (⟨#[]⟩ : ByteArray)) := (blk_cell BK239.out 0).trans rfl; have hcz14_1 : w13.cell? ⟨gb239, 1, none⟩ = some (.int .i64 0) := (blk_cell BK239.out 1).trans rfl; have hfz14_0 := blk_frozen BK239.out 0; have hfz14_1 := blk_frozen BK239.out 1))
      go_ret
      exact ⟨ew, bw⟩
     rw [if_neg c4] at H
     exact absurd H (by simp)
    rw [if_neg c3] at H
    exact absurd H (by simp)
   rw [if_neg c2] at H
   have c2b0 : decide (x3_1 < (l0.length : Int)) = false := decide_eq_false c2
   clear c2
   obtain rfl := Option.some.inj H
   go_wp2
   go_ret
   exact ⟨ew, bw⟩

end Go.Proofs.YtbffmfeflcdgbaaDoor.POb
