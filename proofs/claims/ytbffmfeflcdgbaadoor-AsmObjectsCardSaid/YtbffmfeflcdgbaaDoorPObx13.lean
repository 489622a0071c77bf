/- Written by a program of this session (gprint.py, over the kit's printer): functions of the seat YtbffmfeflcdgbaaDoor and their contracts. No condition but each contract's own. -/
import Derived.Test.YtbffmfeflcdgbaaDoorPObx0
import Derived.Test.YtbffmfeflcdgbaaDoorPObx12
namespace Go.Proofs.YtbffmfeflcdgbaaDoor.POb
open Go.RowKit Go.Proofs.YtbffmfeflcdgbaaDoorW.PrintWords Go.Proofs.YtbffmfeflcdgbaaDoorW.PrintLast Go.Proofs.YtbffmfeflcdgbaaDoorW.PrintMore
attribute [local go_sem] max2_int min2_int max_two min_two max_three min_three max_four min_four   -- for this text's walks alone
set_option linter.unusedVariables false
set_option linter.unusedSimpArgs false

/-! ### vesperref14_labelsMay: function 22 -/
mutual
def vesperref14_labelsMay.l0 : Nat → List (S47) → Int → Option (Bool)
 | 0, _, _ => none
 | k + 1, x0, x3 => if x3 < (x0.length : Int) then (if 0 ≤ x3 then ((vesperref13_IsName.f k ((rd_T47 x0 x3).f0)).bind fun t260 => (if t260 = true then (if ((rd_T47 x0 x3).f1) < 0 then (vesperref14_labelsMay.j1 k x0 x3 true) else (vesperref14_labelsMay.j1 k x0 x3 (decide (((rd_T47 x0 x3).f1) ≥ 65536)))) else (vesperref14_labelsMay.j1 k x0 x3 true))) else (none)) else (some true)
def vesperref14_labelsMay.j1 : Nat → List (S47) → Int → Bool → Option (Bool)
 | 0, _, _, _ => none
 | k + 1, x0, x3, x33 => if x33 = true then (some false) else (if x3 > 0 then (if 0 ≤ (wrap64 (x3 - 1)) then (if (wrap64 (x3 - 1)) < (x0.length : Int) then (if 0 ≤ x3 then (if x3 < (x0.length : Int) then ((vesperref14_before.f ((rd_T47 x0 (wrap64 (x3 - 1))).f0) ((rd_T47 x0 (wrap64 (x3 - 1))).f1) ((rd_T47 x0 x3).f0) ((rd_T47 x0 x3).f1)).bind fun t265 => (vesperref14_labelsMay.j2 k x0 x3 (!t265))) else (none)) else (none)) else (none)) else (none)) else (vesperref14_labelsMay.j2 k x0 x3 false))
def vesperref14_labelsMay.j2 : Nat → List (S47) → Int → Bool → Option (Bool)
 | 0, _, _, _ => none
 | k + 1, x0, x3, x48 => if x48 = true then (some false) else (vesperref14_labelsMay.l1 k x0 x3 0)
def vesperref14_labelsMay.l1 : Nat → List (S47) → Int → Int → Option (Bool)
 | 0, _, _, _ => none
 | k + 1, x0, x3, x4 => if x4 < x3 then (if 0 ≤ x4 then (if x4 < (x0.length : Int) then (if 0 ≤ x3 then (if x3 < (x0.length : Int) then (if ((rd_T47 x0 x4).f0).toList = ((rd_T47 x0 x3).f0).toList then (some false) else (vesperref14_labelsMay.l1 k x0 x3 (wrap64 (x4 + 1)))) else (none)) else (none)) else (none)) else (none)) else (vesperref14_labelsMay.l0 k x0 (wrap64 (x3 + 1)))
end
def vesperref14_labelsMay.f (k : Nat) (l0 : List (S47)) : Option (Bool) := vesperref14_labelsMay.l0 k l0 0
theorem vesperref14_labelsMay.mono_l : ∀ k, (∀ y0 y1, LeO (vesperref14_labelsMay.l0 k y0 y1) (vesperref14_labelsMay.l0 (k + 1) y0 y1)) ∧ (∀ y0 y1 y2, LeO (vesperref14_labelsMay.j1 k y0 y1 y2) (vesperref14_labelsMay.j1 (k + 1) y0 y1 y2)) ∧ (∀ y0 y1 y2, LeO (vesperref14_labelsMay.j2 k y0 y1 y2) (vesperref14_labelsMay.j2 (k + 1) y0 y1 y2)) ∧ (∀ y0 y1 y2, LeO (vesperref14_labelsMay.l1 k y0 y1 y2) (vesperref14_labelsMay.l1 (k + 1) y0 y1 y2))
 | 0 => ⟨fun _ _ r h => by simp [vesperref14_labelsMay.l0] at h, fun _ _ _ r h => by simp [vesperref14_labelsMay.j1] at h, fun _ _ _ r h => by simp [vesperref14_labelsMay.j2] at h, fun _ _ _ r h => by simp [vesperref14_labelsMay.l1] at h⟩
 | k + 1 => by
  obtain ⟨ih0, ih1, ih2, ih3⟩ := vesperref14_labelsMay.mono_l k
  refine ⟨?_, ?_, ?_, ?_⟩
  ·intro y0 y1
   unfold vesperref14_labelsMay.l0
   repeat' first
   | (with_reducible exact ih0 _ _)
   | (with_reducible exact ih1 _ _ _)
   | (with_reducible exact ih2 _ _ _)
   | (with_reducible exact ih3 _ _ _)
   | (with_reducible exact vesperref13_IsName.mono _ _)
   | (with_reducible exact LeO.refl _)
   | (with_reducible exact LeO.none _)
   | (with_reducible refine LeO.ite ?_ ?_)
   | (with_reducible refine LeO.bind ?_ (fun _ => ?_))
   | exact ih0 _ _
   | exact ih1 _ _ _
   | exact ih2 _ _ _
   | exact ih3 _ _ _
   | exact vesperref13_IsName.mono _ _
   | exact LeO.none _
   | refine LeO.ite ?_ ?_
   | refine LeO.bind ?_ (fun _ => ?_)
  ·intro y0 y1 y2
   unfold vesperref14_labelsMay.j1
   repeat' first
   | (with_reducible exact ih0 _ _)
   | (with_reducible exact ih1 _ _ _)
   | (with_reducible exact ih2 _ _ _)
   | (with_reducible exact ih3 _ _ _)
   | (with_reducible exact vesperref13_IsName.mono _ _)
   | (with_reducible exact LeO.refl _)
   | (with_reducible exact LeO.none _)
   | (with_reducible refine LeO.ite ?_ ?_)
   | (with_reducible refine LeO.bind ?_ (fun _ => ?_))
   | exact ih0 _ _
   | exact ih1 _ _ _
   | exact ih2 _ _ _
   | exact ih3 _ _ _
   | exact vesperref13_IsName.mono _ _
   | exact LeO.none _
   | refine LeO.ite ?_ ?_
   | refine LeO.bind ?_ (fun _ => ?_)
  ·intro y0 y1 y2
   unfold vesperref14_labelsMay.j2
   repeat' first
   | (with_reducible exact ih0 _ _)
   | (with_reducible exact ih1 _ _ _)
   | (with_reducible exact ih2 _ _ _)
   | (with_reducible exact ih3 _ _ _)
   | (with_reducible exact vesperref13_IsName.mono _ _)
   | (with_reducible exact LeO.refl _)
   | (with_reducible exact LeO.none _)
   | (with_reducible refine LeO.ite ?_ ?_)
   | (with_reducible refine LeO.bind ?_ (fun _ => ?_))
   | exact ih0 _ _
   | exact ih1 _ _ _
   | exact ih2 _ _ _
   | exact ih3 _ _ _
   | exact vesperref13_IsName.mono _ _
   | exact LeO.none _
   | refine LeO.ite ?_ ?_
   | refine LeO.bind ?_ (fun _ => ?_)
  intro y0 y1 y2
  unfold vesperref14_labelsMay.l1
  repeat' first
  | (with_reducible exact ih0 _ _)
  | (with_reducible exact ih1 _ _ _)
  | (with_reducible exact ih2 _ _ _)
  | (with_reducible exact ih3 _ _ _)
  | (with_reducible exact vesperref13_IsName.mono _ _)
  | (with_reducible exact LeO.refl _)
  | (with_reducible exact LeO.none _)
  | (with_reducible refine LeO.ite ?_ ?_)
  | (with_reducible refine LeO.bind ?_ (fun _ => ?_))
  | exact ih0 _ _
  | exact ih1 _ _ _
  | exact ih2 _ _ _
  | exact ih3 _ _ _
  | exact vesperref13_IsName.mono _ _
  | exact LeO.none _
  | refine LeO.ite ?_ ?_
  | refine LeO.bind ?_ (fun _ => ?_)
theorem vesperref14_labelsMay.mono : ∀ a0 k, LeO (vesperref14_labelsMay.f k a0) (vesperref14_labelsMay.f (k + 1) a0) := by
 intro a0 k
 obtain ⟨ih0, ih1, ih2, ih3⟩ := vesperref14_labelsMay.mono_l k
 unfold vesperref14_labelsMay.f
 repeat' first
  | (with_reducible exact ih0 _ _)
  | (with_reducible exact ih1 _ _ _)
  | (with_reducible exact ih2 _ _ _)
  | (with_reducible exact ih3 _ _ _)
  | (with_reducible exact vesperref13_IsName.mono _ _)
  | (with_reducible exact LeO.refl _)
  | (with_reducible exact LeO.none _)
  | (with_reducible refine LeO.ite ?_ ?_)
  | (with_reducible refine LeO.bind ?_ (fun _ => ?_))
  | exact ih0 _ _
  | exact ih1 _ _ _
  | exact ih2 _ _ _
  | exact ih3 _ _ _
  | exact vesperref13_IsName.mono _ _
  | exact LeO.none _
  | refine LeO.ite ?_ ?_
  | refine LeO.bind ?_ (fun _ => ?_)
def vesperref14_labelsMay.T6 : Bool × List (List Nat × List Nat) := (true, [([], []), ([0], [0]), ([1], [1]), ([2], [2]), ([2], [2]), ([4, 2], [2, 4]), ([3, 5, 2], [2, 3, 5]), ([6, 2], [2, 6]), ([2], [2]), ([2], [2]), ([8, 9, 2], [2, 8, 9]), ([10, 2], [2, 10]), ([7, 11, 2, 2], [2, 7, 11]), ([12, 2], [2, 12]), ([2, 13], [2, 13])])
def vesperref14_labelsMay.B6 : List Nat := [0, 1, 3, 7, 7, 23, 63, 127, 7, 7, 775, 1799, 4095, 8191, 16383]
theorem vesperref14_labelsMay.tab6 : rtab .any (opsOf Tryd.f22 6) = vesperref14_labelsMay.T6 := by kernel_rfl
theorem vesperref14_labelsMay.bits6 : waitsOk vesperref14_labelsMay.T6.2 vesperref14_labelsMay.B6 = true := by kernel_rfl
def vesperref14_labelsMay.T11 : Bool × List (List Nat × List Nat) := (true, [([], []), ([], []), ([0, 1], [0, 1]), ([2], [2]), ([3], [3]), ([], []), ([], []), ([5, 6], [5, 6]), ([7], [7]), ([8], [8]), ([4, 9], [4, 9])])
def vesperref14_labelsMay.B11 : List Nat := [0, 0, 3, 7, 15, 0, 0, 96, 224, 480, 1023]
theorem vesperref14_labelsMay.tab11 : rtab .any (opsOf Tryd.f22 11) = vesperref14_labelsMay.T11 := by kernel_rfl
theorem vesperref14_labelsMay.bits11 : waitsOk vesperref14_labelsMay.T11.2 vesperref14_labelsMay.B11 = true := by kernel_rfl
set_option maxHeartbeats 8000000 in
set_option maxRecDepth 100000 in
theorem vesperref14_labelsMay.calls (k : Nat) (A0 : Option Addr) (c0 : Nat) (l0 : List (S47)) (r : Bool) (w : World) (hr0 : Kd.C k47 w A0 l0.length l0) (hc0 : l0.length ≤ c0) (h : vesperref14_labelsMay.f k l0 = some r) :
 Calls Tryd.prog 22 #[.slice A0 l0.length c0] w fun e w' => e = .returned (.bool r) ∧ Below w.heap.size w w' := by
 have hu47 := Tryd.underlying47
 have HR0 := Aside0.mk hr0
 have HC0 := Aside0.mk hc0
 clear hr0 hc0
 have HB := Aside0.mk (Below.refl w.heap.size w)
 have H : (vesperref14_labelsMay.l0 k l0 0) = some r := h
 clear h
 have H' := Aside0.mk H
 clear H
 go_enter Tryd.func22, Tryd.ntmps22
 go_wp2
 go_loopg [3] k (fun kq v3 w' => ∃ (x3_1 : Int), v3 = .int .i64 x3_1 ∧ Aside0 (vesperref14_labelsMay.l0 kq l0 x3_1 = some r) ∧ Aside0 (kq ≤ k) ∧ Aside0 (Below w.heap.size w w'))
 case atStart => exact ⟨(0), rs, H', ⟨Nat.le_refl _⟩, ⟨bw⟩⟩
 case round =>
  clear H'
  obtain ⟨x3_1, rfl, HA, HK1, HB⟩ := hrel
  cases gk with
  | zero => exact absurd HA.out (by simp [vesperref14_labelsMay.l0])
  | succ k1 =>
   have H := HA.out
   clear HA
   simp only [vesperref14_labelsMay.l0] at H
   by_cases c2 : x3_1 < (l0.length : Int)
   ·rw [if_pos c2] at H
    have c2b0 : decide (x3_1 < (l0.length : Int)) = true := decide_eq_true c2
    clear c2
    have HC3 := Aside0.mk H
    clear H
    go_upto_region 4 with (fail)
    go_cut [33] (fun v33 wc => ∃ (kq : Nat) (x33_2 : Bool), v33 = .bool x33_2 ∧ Aside0 (vesperref14_labelsMay.j1 kq l0 x3_1 x33_2 = some r) ∧ Aside0 (kq ≤ k1) ∧ Aside0 (Below w.heap.size w wc))
    case first =>
     have H := HC3.out
     clear HC3
     by_cases c4 : 0 ≤ x3_1
     ·rw [if_pos c4] at H
      have c4b0 : decide (0 ≤ x3_1) = true := decide_eq_true c4
      clear c4
      (first | rw [c4b0] | (simp only [i64_w, i32_w]; rw [c4b0]) | skip)
      replace H := Option.bind_eq_some_iff.mp H
      obtain ⟨t260, A50, H⟩ := H
      replace H : (if t260 = true then (if ((rd_T47 l0 x3_1).f1) < 0 then (vesperref14_labelsMay.j1 k1 l0 x3_1 true) else (vesperref14_labelsMay.j1 k1 l0 x3_1 (decide (((rd_T47 l0 x3_1).f1) ≥ 65536)))) else (vesperref14_labelsMay.j1 k1 l0 x3_1 true)) = some r := H
      have A5 := Aside0.mk A50
      clear A50
      by_cases c6 : t260 = true
      ·subst c6
       have H1 : (if ((rd_T47 l0 x3_1).f1) < 0 then (vesperref14_labelsMay.j1 k1 l0 x3_1 true) else (vesperref14_labelsMay.j1 k1 l0 x3_1 (decide (((rd_T47 l0 x3_1).f1) ≥ 65536)))) = some r := by rw [if_pos rfl] at H; exact H
       clear H
       have H := H1
       clear H1
       by_cases c7 : ((rd_T47 l0 x3_1).f1) < 0
       ·rw [if_pos c7] at H
        have c7b0 : decide (((rd_T47 l0 x3_1).f1) < 0) = true := decide_eq_true c7
        clear c7
        have H' := Aside0.mk H
        clear H
        have p259 : 0 ≤ (x3_1 : Int) := oda
        have q259 : x3_1 < (l0.length : Int) := oda
        obtain ⟨ad259, e259, hx259_0, hx259_1⟩ := at_T47 HR0.out x3_1 p259 q259
        cases e259
        replace hx259_0 := up_ HB hx259_0
        replace hx259_1 := up_ HB hx259_1
        replace p259 := eq_true p259
        replace q259 := eq_true q259
        go_wp2_with (first | ((with_reducible refine gate_callee (f := 29) rfl ?_); refine goesL_ (some 16) rfl rfl Tryd.func29 (by kernel_rfl) rfl #[.string ((rd_T47 l0 x3_1).f0)] rfl sm ?_; (with_reducible refine (vesperref13_IsName.calls k1 ((rd_T47 l0 x3_1).f0) true _ A5.out).mono ?_); rintro e w' ⟨rfl, ⟨nd, rfl⟩⟩; refine ⟨_, rfl, ?_⟩; have p261 : 0 ≤ (x3_1 : Int) := oda; have q261 : x3_1 < (l0.length : Int) := oda; obtain ⟨ad261, e261, hx261_0, hx261_1⟩ := at_T47 HR0.out x3_1 p261 q261; obtain rfl : ad259 = ad261 := (by injection e261); replace hx261_0 := up_ HB hx261_0; replace hx261_1 := up_ HB hx261_1; replace p261 := eq_true p261; replace q261 := eq_true q261))
        go_meet
        case rel => exact ⟨_, (true), rs, H', ⟨by have := HK1.out; first | omega | exact Nat.le_refl _⟩, ⟨bw⟩⟩
       rw [if_neg c7] at H
       have c7b0 : decide (((rd_T47 l0 x3_1).f1) < 0) = false := decide_eq_false c7
       clear c7
       have H' := Aside0.mk H
       clear H
       have p259 : 0 ≤ (x3_1 : Int) := oda
       have q259 : x3_1 < (l0.length : Int) := oda
       obtain ⟨ad259, e259, hx259_0, hx259_1⟩ := at_T47 HR0.out x3_1 p259 q259
       cases e259
       replace hx259_0 := up_ HB hx259_0
       replace hx259_1 := up_ HB hx259_1
       replace p259 := eq_true p259
       replace q259 := eq_true q259
       go_wp2_with (first | ((with_reducible refine gate_callee (f := 29) rfl ?_); refine goesL_ (some 16) rfl rfl Tryd.func29 (by kernel_rfl) rfl #[.string ((rd_T47 l0 x3_1).f0)] rfl sm ?_; (with_reducible refine (vesperref13_IsName.calls k1 ((rd_T47 l0 x3_1).f0) true _ A5.out).mono ?_); rintro e w' ⟨rfl, ⟨nd, rfl⟩⟩; refine ⟨_, rfl, ?_⟩; have p261 : 0 ≤ (x3_1 : Int) := oda; have q261 : x3_1 < (l0.length : Int) := oda; obtain ⟨ad261, e261, hx261_0, hx261_1⟩ := at_T47 HR0.out x3_1 p261 q261; obtain rfl : ad259 = ad261 := (by injection e261); replace hx261_0 := up_ HB hx261_0; replace hx261_1 := up_ HB hx261_1; replace p261 := eq_true p261; replace q261 := eq_true q261; have p262 : 0 ≤ (x3_1 : Int) := oda; have q262 : x3_1 < (l0.length : Int) := oda; obtain ⟨ad262, e262, hx262_0, hx262_1⟩ := at_T47 HR0.out x3_1 p262 q262; obtain rfl : ad259 = ad262 := (by injection e262); replace hx262_0 := up_ HB hx262_0; replace hx262_1 := up_ HB hx262_1; replace p262 := eq_true p262; replace q262 := eq_true q262))
       go_meet
       case rel => exact ⟨_, (decide (((rd_T47 l0 x3_1).f1) ≥ 65536)), rs, H', ⟨by have := HK1.out; first | omega | exact Nat.le_refl _⟩, ⟨bw⟩⟩
      replace c6 := Bool.eq_false_iff.mpr c6
      subst c6
      have H1 : (vesperref14_labelsMay.j1 k1 l0 x3_1 true) = some r := by rw [if_neg (show ¬ (false = true) by decide)] at H; exact H
      clear H
      have H := H1
      clear H1
      have H' := Aside0.mk H
      clear H
      have p259 : 0 ≤ (x3_1 : Int) := oda
      have q259 : x3_1 < (l0.length : Int) := oda
      obtain ⟨ad259, e259, hx259_0, hx259_1⟩ := at_T47 HR0.out x3_1 p259 q259
      cases e259
      replace hx259_0 := up_ HB hx259_0
      replace hx259_1 := up_ HB hx259_1
      replace p259 := eq_true p259
      replace q259 := eq_true q259
      go_wp2_with (first | ((with_reducible refine gate_callee (f := 29) rfl ?_); refine goesL_ (some 16) rfl rfl Tryd.func29 (by kernel_rfl) rfl #[.string ((rd_T47 l0 x3_1).f0)] rfl sm ?_; (with_reducible refine (vesperref13_IsName.calls k1 ((rd_T47 l0 x3_1).f0) false _ A5.out).mono ?_); rintro e w' ⟨rfl, ⟨nd, rfl⟩⟩; refine ⟨_, rfl, ?_⟩))
      go_meet
      case rel => exact ⟨_, (true), rs, H', ⟨by have := HK1.out; first | omega | exact Nat.le_refl _⟩, ⟨bw⟩⟩
     rw [if_neg c4] at H
     exact absurd H (by simp)
    case rest =>
     clear HC3
     clear c2b0
     obtain ⟨kq, x33_2, rfl, HA, HJ2, HB⟩ := hcut
     cases kq with
     | zero => exact absurd HA.out (by simp [vesperref14_labelsMay.j1])
     | succ kj2 =>
      have H := HA.out
      clear HA
      simp only [vesperref14_labelsMay.j1] at H
      by_cases c8 : x33_2 = true
      ·subst c8
       have H1 : (some false) = some r := by rw [if_pos rfl] at H; exact H
       clear H
       have H := H1
       clear H1
       obtain rfl := Option.some.inj H
       go_wp2
       go_ret
       exact ⟨ew, bw⟩
      replace c8 := Bool.eq_false_iff.mpr c8
      subst c8
      have H1 : (if x3_1 > 0 then (if 0 ≤ (wrap64 (x3_1 - 1)) then (if (wrap64 (x3_1 - 1)) < (l0.length : Int) then (if 0 ≤ x3_1 then (if x3_1 < (l0.length : Int) then ((vesperref14_before.f ((rd_T47 l0 (wrap64 (x3_1 - 1))).f0) ((rd_T47 l0 (wrap64 (x3_1 - 1))).f1) ((rd_T47 l0 x3_1).f0) ((rd_T47 l0 x3_1).f1)).bind fun t265 => (vesperref14_labelsMay.j2 kj2 l0 x3_1 (!t265))) else (none)) else (none)) else (none)) else (none)) else (vesperref14_labelsMay.j2 kj2 l0 x3_1 false)) = some r := by rw [if_neg (show ¬ (false = true) by decide)] at H; exact H
      clear H
      have H := H1
      clear H1
      have HC9 := Aside0.mk H
      clear H
      go_upto_region 6 with (fail)
      go_cut [48] (fun v48 wc => ∃ (kq : Nat) (x48_8 : Bool), v48 = .bool x48_8 ∧ Aside0 (vesperref14_labelsMay.j2 kq l0 x3_1 x48_8 = some r) ∧ Aside0 (kq ≤ kj2) ∧ Aside0 (Below w.heap.size w wc))
      case first =>
       have H := HC9.out
       clear HC9
       by_cases c10 : x3_1 > 0
       ·rw [if_pos c10] at H
        have c10b0 : decide (0 < x3_1) = true := decide_eq_true c10
        clear c10
        (first | rw [c10b0] | (simp only [i64_w, i32_w]; rw [c10b0]) | skip)
        obtain ⟨ji11, hji11⟩ : ∃ j_ : Int, (wrap64 (x3_1 - 1)) = j_ := ⟨_, rfl⟩
        replace H : (if 0 ≤ (ji11) then (if (ji11) < (l0.length : Int) then (if 0 ≤ x3_1 then (if x3_1 < (l0.length : Int) then ((vesperref14_before.f ((rd_T47 l0 (ji11)).f0) ((rd_T47 l0 (ji11)).f1) ((rd_T47 l0 x3_1).f0) ((rd_T47 l0 x3_1).f1)).bind fun t265 => (vesperref14_labelsMay.j2 kj2 l0 x3_1 (!t265))) else (none)) else (none)) else (none)) else (none)) = some r := by first | (rw [hji11] at H; exact H) | (simp only [hji11] at H ⊢; exact H)
        have hji11w : (IntKind.i64.wrap (x3_1 - 1)) = ji11 := (i64_w _).trans hji11
        by_cases c12 : 0 ≤ (ji11)
        ·rw [if_pos c12] at H
         have c12b0 : decide (0 ≤ (ji11)) = true := decide_eq_true c12
         clear c12
         by_cases c13 : (ji11) < (l0.length : Int)
         ·rw [if_pos c13] at H
          have c13b0 : decide ((ji11) < (l0.length : Int)) = true := decide_eq_true c13
          clear c13
          by_cases c14 : 0 ≤ x3_1
          ·rw [if_pos c14] at H
           have c14b0 : decide (0 ≤ x3_1) = true := decide_eq_true c14
           clear c14
           by_cases c15 : x3_1 < (l0.length : Int)
           ·rw [if_pos c15] at H
            have c15b0 : decide (x3_1 < (l0.length : Int)) = true := decide_eq_true c15
            clear c15
            replace H := Option.bind_eq_some_iff.mp H
            obtain ⟨t265, A160, H⟩ := H
            replace H : (vesperref14_labelsMay.j2 kj2 l0 x3_1 (!t265)) = some r := H
            have A16 := Aside0.mk A160
            clear A160
            have H' := Aside0.mk H
            clear H
            try go_wp2
            have n0_ := Aside0.mk (below_drew1 HB.out)
            clear HB
            have HB := n0_
            clear n0_
            have p263 : 0 ≤ ((ji11) : Int) := oda
            have q263 : (ji11) < (l0.length : Int) := oda
            obtain ⟨ad263, e263, hx263_0, hx263_1⟩ := at_T47 HR0.out (ji11) p263 q263
            have hw263_1 := hx263_1
            have hw263_0 := hx263_0
            cases e263
            replace hx263_0 := up_ HB hx263_0
            replace hx263_1 := up_ HB hx263_1
            replace p263 := eq_true p263
            replace q263 := eq_true q263
            have p264 : 0 ≤ (x3_1 : Int) := oda
            have q264 : x3_1 < (l0.length : Int) := oda
            obtain ⟨ad264, e264, hx264_0, hx264_1⟩ := at_T47 HR0.out x3_1 p264 q264
            have hw264_1 := hx264_1
            have hw264_0 := hx264_0
            obtain rfl : ad263 = ad264 := (by injection e264)
            replace hx264_0 := up_ HB hx264_0
            replace hx264_1 := up_ HB hx264_1
            replace p264 := eq_true p264
            replace q264 := eq_true q264
            refine start_ (n := 15) (S := fun w' => w'.cell? (ad263.add (((ji11)).toNat * 2)) = some (.string ((rd_T47 l0 (ji11)).f0)) ∧ w'.cell? ⟨(ad263.add (((ji11)).toNat * 2)).block, (ad263.add (((ji11)).toNat * 2)).off + 1, none⟩ = some (.int .i64 ((rd_T47 l0 (ji11)).f1)) ∧ w'.cell? (ad263.add ((x3_1).toNat * 2)) = some (.string ((rd_T47 l0 x3_1).f0)) ∧ w'.cell? ⟨(ad263.add ((x3_1).toNat * 2)).block, (ad263.add ((x3_1).toNat * 2)).off + 1, none⟩ = some (.int .i64 ((rd_T47 l0 x3_1).f1))) (ds := []) #[false, false, false, false, false, false, false, false, false, false, false, false, false, false, false] (by kernel_rfl) rfl rfl ⟨((HB.out.cell (World.block_lt_of_cell? w _ hw263_0)).trans hw263_0), ((HB.out.cell (World.block_lt_of_cell? w _ hw263_1)).trans hw263_1), ((HB.out.cell (World.block_lt_of_cell? w _ hw264_0)).trans hw264_0), ((HB.out.cell (World.block_lt_of_cell? w _ hw264_1)).trans hw264_1)⟩ (fun hHeld => ?_); refine with_tabW vesperref14_labelsMay.tab6 vesperref14_labelsMay.bits6 (fun HT_ HW_ => ?_)
            generalize wc.drew = w17 at HB hx263_0 hx263_1 hx264_0 hx264_1 hHeld ⊢
            refine pz 0 (some 34) ?_ HT_ rfl rfl (by kernel_rfl) (by rfl) ?_ ?_ ?_ ?_
            rotate_left
            ·intro w'
             go_simp
             with_reducible rfl
            rotate_left
            ·simp only [put_l, List.set, i64_w, i32_w]
             rfl
            refine pz 1 (some 35) ?_ HT_ rfl rfl (by kernel_rfl) (by rfl) ?_ ?_ ?_ ?_
            rotate_left
            ·intro w'
             go_simp
             with_reducible rfl
            rotate_left
            ·simp only [put_l, List.set, i64_w, i32_w]
             rfl
            refine pz 2 (some 36) ?_ HT_ rfl rfl (by kernel_rfl) (by rfl) ?_ ?_ ?_ ?_
            rotate_left
            ·intro w'
             go_simp
             with_reducible rfl
            rotate_left
            ·simp only [put_l, List.set, i64_w, i32_w]
             rfl
            refine pz 3 (some 37) ?_ HT_ rfl rfl (by kernel_rfl) (by rfl) ?_ ?_ ?_ ?_
            rotate_left
            ·intro w'
             go_simp
             with_reducible rfl
            rotate_left
            ·simp only [put_l, List.set, i64_w, i32_w]
             rfl
            refine pz 4 (some 38) ?_ HT_ rfl rfl (by kernel_rfl) (by rfl) ?_ ?_ ?_ ?_
            rotate_left
            ·intro w'
             go_simp
             with_reducible rfl
            rotate_left
            ·simp only [put_l, List.set, i64_w, i32_w]
             rfl
            refine pz 5 (some 39) ?_ HT_ rfl rfl (by kernel_rfl) (by rfl) ?_ ?_ ?_ ?_
            rotate_left
            ·intro w'
             go_simp
             with_reducible rfl
            rotate_left
            ·simp only [put_l, List.set, i64_w, i32_w]
             rfl
            refine pz 6 (some 40) ?_ HT_ rfl rfl (by kernel_rfl) (by rfl) ?_ ?_ ?_ ?_
            rotate_left
            ·intro w'
             go_simp
             with_reducible rfl
            rotate_left
            ·simp only [put_l, List.set, i64_w, i32_w]
             rfl
            refine pz 8 (some 42) ?_ HT_ rfl rfl (by kernel_rfl) (by rfl) ?_ ?_ ?_ ?_
            rotate_left
            ·intro w'
             go_simp
             with_reducible rfl
            rotate_left
            ·simp only [put_l, List.set, i64_w, i32_w]
             rfl
            refine pz 9 (some 43) ?_ HT_ rfl rfl (by kernel_rfl) (by rfl) ?_ ?_ ?_ ?_
            rotate_left
            ·intro w'
             go_simp
             with_reducible rfl
            rotate_left
            ·simp only [put_l, List.set, i64_w, i32_w]
             rfl
            refine pz 10 (some 44) ?_ HT_ rfl rfl (by kernel_rfl) (by rfl) ?_ ?_ ?_ ?_
            rotate_left
            ·intro w'
             go_simp
             with_reducible rfl
            rotate_left
            ·simp only [put_l, List.set, i64_w, i32_w]
             rfl
            refine tz 7 (some 41) ?_ HT_ HW_ rfl rfl (by kernel_rfl) (by rfl) ?_ hHeld ?_ ?_ ?_
            rotate_left
            ·rintro w' ⟨s0, s1, s2, s3⟩
             go_simp
             with_reducible rfl
            rotate_left
            ·simp only [put_l, List.set, i64_w, i32_w]
             rfl
            refine tz 11 (some 45) ?_ HT_ HW_ rfl rfl (by kernel_rfl) (by rfl) ?_ hHeld ?_ ?_ ?_
            rotate_left
            ·rintro w' ⟨s0, s1, s2, s3⟩
             go_simp
             with_reducible rfl
            rotate_left
            ·simp only [put_l, List.set, i64_w, i32_w]
             rfl
            refine one_ (i := 12) (N := some 46) #[true, true, true, true, true, true, true, true, true, true, true, true, true, false, false] rfl rfl (one_of HT_.out (by kernel_rfl)) (by decide) (fun K hK => ?_)
            refine goes_ Tryd.func30 (by kernel_rfl) rfl #[.agg #[.string ((rd_T47 l0 (ji11)).f0), .int .i64 ((rd_T47 l0 (ji11)).f1)], .agg #[.string ((rd_T47 l0 x3_1).f0), .int .i64 ((rd_T47 l0 x3_1).f1)]] (by rfl) rfl rfl (by (try simp only [List.map_toArray, List.map_cons, List.map_nil]); first | done | (simp only [hji11]; rfl) | rfl | (simp only [List.length_drop, List.length_take]; rfl)) ?_
            with_reducible refine (vesperref14_before.calls ((rd_T47 l0 (ji11)).f0) ((rd_T47 l0 (ji11)).f1) ((rd_T47 l0 x3_1).f0) ((rd_T47 l0 x3_1).f1) t265 _ A16.out).mono ?_
            rintro e w18 ⟨rfl, hb⟩
            refine ⟨_, rfl, ?_⟩
            have n0_ := Aside0.mk (below_step bw hb)
            clear HB
            have HB := n0_
            clear n0_
            (try clear hb)
            (try clear hb2)
            (try clear hk)
            (try clear hi)
            refine hK.out _ _ ⟨((HB.out.cell (World.block_lt_of_cell? w _ hw263_0)).trans hw263_0), ((HB.out.cell (World.block_lt_of_cell? w _ hw263_1)).trans hw263_1), ((HB.out.cell (World.block_lt_of_cell? w _ hw264_0)).trans hw264_0), ((HB.out.cell (World.block_lt_of_cell? w _ hw264_1)).trans hw264_1)⟩ (fun hHeld => ?_)
            clear hK K
            refine norm_ (a' := ?_) ?_ ?_
            rotate_left
            ·show Act.put _ (some 46) _ = _
             simp only [put_l, List.set, i64_w, i32_w]
             rfl
            refine pz 13 (some 47) ?_ HT_ rfl rfl (by kernel_rfl) (by rfl) ?_ ?_ ?_ ?_
            rotate_left
            ·intro w'
             go_simp
             with_reducible rfl
            rotate_left
            ·simp only [put_l, List.set, i64_w, i32_w]
             rfl
            refine pz 14 (some 48) ?_ HT_ rfl rfl (by kernel_rfl) (by rfl) ?_ ?_ ?_ ?_
            rotate_left
            ·intro w'
             go_simp
             with_reducible rfl
            rotate_left
            ·simp only [put_l, List.set, i64_w, i32_w]
             rfl
            refine done_ (done_of HT_.out (by kernel_rfl)) ?_
            try go_wp2
            go_meet
            case rel => exact ⟨_, (!t265), rs, H', ⟨by have := HK1.out; have := HJ2.out; first | omega | exact Nat.le_refl _⟩, ⟨bw⟩⟩
           rw [if_neg c15] at H
           exact absurd H (by simp)
          rw [if_neg c14] at H
          exact absurd H (by simp)
         rw [if_neg c13] at H
         exact absurd H (by simp)
        rw [if_neg c12] at H
        exact absurd H (by simp)
       rw [if_neg c10] at H
       have c10b0 : decide (0 < x3_1) = false := decide_eq_false c10
       clear c10
       (first | rw [c10b0] | (simp only [i64_w, i32_w]; rw [c10b0]) | skip)
       have H' := Aside0.mk H
       clear H
       try go_wp2
       have n0_ := Aside0.mk (below_drew1 HB.out)
       clear HB
       have HB := n0_
       clear n0_
       refine start_ (n := 15) (S := fun w' => True) (ds := []) #[false, false, false, false, false, false, false, false, false, false, false, false, false, false, false] (by kernel_rfl) rfl rfl trivial (fun hHeld => ?_); refine with_tabW vesperref14_labelsMay.tab6 vesperref14_labelsMay.bits6 (fun HT_ HW_ => ?_)
       generalize wc.drew = w19 at HB hHeld ⊢
       refine pz 0 (some 34) ?_ HT_ rfl rfl (by kernel_rfl) (by rfl) ?_ ?_ ?_ ?_
       rotate_left
       ·intro w'
        go_simp
        with_reducible rfl
       rotate_left
       ·simp only [put_l, List.set, i64_w, i32_w]
        rfl
       refine pz 1 (some 35) ?_ HT_ rfl rfl (by kernel_rfl) (by rfl) ?_ ?_ ?_ ?_
       rotate_left
       ·intro w'
        go_simp
        with_reducible rfl
       rotate_left
       ·simp only [put_l, List.set, i64_w, i32_w]
        rfl
       refine pz 2 (some 36) ?_ HT_ rfl rfl (by kernel_rfl) (by rfl) ?_ ?_ ?_ ?_
       rotate_left
       ·intro w'
        go_simp
        with_reducible rfl
       rotate_left
       ·simp only [put_l, List.set, i64_w, i32_w]
        rfl
       refine pu 3 (some 37) ?_ HT_ rfl rfl (by kernel_rfl) (by rfl) ?_ ?_
       rotate_left
       ·simp only [put_l, List.set, i64_w, i32_w]
        rfl
       refine pu 4 (some 38) ?_ HT_ rfl rfl (by kernel_rfl) (by rfl) ?_ ?_
       rotate_left
       ·simp only [put_l, List.set, i64_w, i32_w]
        rfl
       refine pu 5 (some 39) ?_ HT_ rfl rfl (by kernel_rfl) (by rfl) ?_ ?_
       rotate_left
       ·simp only [put_l, List.set, i64_w, i32_w]
        rfl
       refine pu 6 (some 40) ?_ HT_ rfl rfl (by kernel_rfl) (by rfl) ?_ ?_
       rotate_left
       ·simp only [put_l, List.set, i64_w, i32_w]
        rfl
       refine pu 7 (some 41) ?_ HT_ rfl rfl (by kernel_rfl) (by rfl) ?_ ?_
       rotate_left
       ·simp only [put_l, List.set, i64_w, i32_w]
        rfl
       refine pu 8 (some 42) ?_ HT_ rfl rfl (by kernel_rfl) (by rfl) ?_ ?_
       rotate_left
       ·simp only [put_l, List.set, i64_w, i32_w]
        rfl
       refine pu 9 (some 43) ?_ HT_ rfl rfl (by kernel_rfl) (by rfl) ?_ ?_
       rotate_left
       ·simp only [put_l, List.set, i64_w, i32_w]
        rfl
       refine pu 10 (some 44) ?_ HT_ rfl rfl (by kernel_rfl) (by rfl) ?_ ?_
       rotate_left
       ·simp only [put_l, List.set, i64_w, i32_w]
        rfl
       refine pu 11 (some 45) ?_ HT_ rfl rfl (by kernel_rfl) (by rfl) ?_ ?_
       rotate_left
       ·simp only [put_l, List.set, i64_w, i32_w]
        rfl
       refine pu 12 (some 46) ?_ HT_ rfl rfl (by kernel_rfl) (by rfl) ?_ ?_
       rotate_left
       ·simp only [put_l, List.set, i64_w, i32_w]
        rfl
       refine pu 13 (some 47) ?_ HT_ rfl rfl (by kernel_rfl) (by rfl) ?_ ?_
       rotate_left
       ·simp only [put_l, List.set, i64_w, i32_w]
        rfl
       refine pz 14 (some 48) ?_ HT_ rfl rfl (by kernel_rfl) (by rfl) ?_ ?_ ?_ ?_
       rotate_left
       ·intro w'
        go_simp
        with_reducible rfl
       rotate_left
       ·simp only [put_l, List.set, i64_w, i32_w]
        rfl
       refine done_ (done_of HT_.out (by kernel_rfl)) ?_
       try go_wp2
       go_meet
       case rel => exact ⟨_, (false), rs, H', ⟨by have := HK1.out; have := HJ2.out; first | omega | exact Nat.le_refl _⟩, ⟨bw⟩⟩
      case rest =>
       clear HC9
       obtain ⟨kq, x48_8, rfl, HA, HJ8, HB⟩ := hcut
       cases kq with
       | zero => exact absurd HA.out (by simp [vesperref14_labelsMay.j2])
       | succ kj8 =>
        have H := HA.out
        clear HA
        simp only [vesperref14_labelsMay.j2] at H
        by_cases c20 : x48_8 = true
        ·subst c20
         have H1 : (some false) = some r := by rw [if_pos rfl] at H; exact H
         clear H
         have H := H1
         clear H1
         obtain rfl := Option.some.inj H
         go_wp2
         go_ret
         exact ⟨ew, bw⟩
        replace c20 := Bool.eq_false_iff.mpr c20
        subst c20
        have H1 : (vesperref14_labelsMay.l1 kj8 l0 x3_1 0) = some r := by rw [if_neg (show ¬ (false = true) by decide)] at H; exact H
        clear H
        have H := H1
        clear H1
        have H' := Aside0.mk H
        clear H
        go_wp2
        go_loopg [4] kj8 (fun kq v4 w' => ∃ (x4_4 : Int), v4 = .int .i64 x4_4 ∧ Aside0 (vesperref14_labelsMay.l1 kq l0 x3_1 x4_4 = some r) ∧ Aside0 (kq ≤ kj8) ∧ Aside0 (Below w.heap.size w w'))
        case atStart => exact ⟨(0), rs, H', ⟨Nat.le_refl _⟩, ⟨bw⟩⟩
        case round =>
         clear H'
         obtain ⟨x4_4, rfl, HA, HK4, HB⟩ := hrel
         cases gk with
         | zero => exact absurd HA.out (by simp [vesperref14_labelsMay.l1])
         | succ k4 =>
          have H := HA.out
          clear HA
          simp only [vesperref14_labelsMay.l1] at H
          by_cases c21 : x4_4 < x3_1
          ·rw [if_pos c21] at H
           have c21b0 : decide (x4_4 < x3_1) = true := decide_eq_true c21
           clear c21
           by_cases c22 : 0 ≤ x4_4
           ·rw [if_pos c22] at H
            have c22b0 : decide (0 ≤ x4_4) = true := decide_eq_true c22
            clear c22
            by_cases c23 : x4_4 < (l0.length : Int)
            ·rw [if_pos c23] at H
             have c23b0 : decide (x4_4 < (l0.length : Int)) = true := decide_eq_true c23
             clear c23
             by_cases c24 : 0 ≤ x3_1
             ·rw [if_pos c24] at H
              have c24b0 : decide (0 ≤ x3_1) = true := decide_eq_true c24
              clear c24
              by_cases c25 : x3_1 < (l0.length : Int)
              ·rw [if_pos c25] at H
               have c25b0 : decide (x3_1 < (l0.length : Int)) = true := decide_eq_true c25
               clear c25
               by_cases c26 : ((rd_T47 l0 x4_4).f0).toList = ((rd_T47 l0 x3_1).f0).toList
               ·rw [if_pos c26] at H
                have c26b0 : (((rd_T47 l0 x4_4).f0).toList == ((rd_T47 l0 x3_1).f0).toList) = true := beq_iff_eq.mpr c26
                have c26b1 : (((rd_T47 l0 x4_4).f0).toList != ((rd_T47 l0 x3_1).f0).toList) = false := bne_eq_false_iff_eq.mpr c26
                clear c26
                obtain rfl := Option.some.inj H
                try go_wp2
                have n0_ := Aside0.mk (below_drew1 HB.out)
                clear HB
                have HB := n0_
                clear n0_
                have p266 : 0 ≤ (x4_4 : Int) := oda
                have q266 : x4_4 < (l0.length : Int) := oda
                obtain ⟨ad266, e266, hx266_0, hx266_1⟩ := at_T47 HR0.out x4_4 p266 q266
                have hw266_1 := hx266_1
                have hw266_0 := hx266_0
                cases e266
                replace hx266_0 := up_ HB hx266_0
                replace hx266_1 := up_ HB hx266_1
                replace p266 := eq_true p266
                replace q266 := eq_true q266
                have p267 : 0 ≤ (x3_1 : Int) := oda
                have q267 : x3_1 < (l0.length : Int) := oda
                obtain ⟨ad267, e267, hx267_0, hx267_1⟩ := at_T47 HR0.out x3_1 p267 q267
                have hw267_1 := hx267_1
                have hw267_0 := hx267_0
                obtain rfl : ad266 = ad267 := (by injection e267)
                replace hx267_0 := up_ HB hx267_0
                replace hx267_1 := up_ HB hx267_1
                replace p267 := eq_true p267
                replace q267 := eq_true q267
                refine start_ (n := 11) (S := fun w' => w'.cell? (ad266.add ((x4_4).toNat * 2)) = some (.string ((rd_T47 l0 x4_4).f0)) ∧ w'.cell? ⟨(ad266.add ((x4_4).toNat * 2)).block, (ad266.add ((x4_4).toNat * 2)).off + 1, none⟩ = some (.int .i64 ((rd_T47 l0 x4_4).f1)) ∧ w'.cell? (ad266.add ((x3_1).toNat * 2)) = some (.string ((rd_T47 l0 x3_1).f0)) ∧ w'.cell? ⟨(ad266.add ((x3_1).toNat * 2)).block, (ad266.add ((x3_1).toNat * 2)).off + 1, none⟩ = some (.int .i64 ((rd_T47 l0 x3_1).f1))) (ds := []) #[false, false, false, false, false, false, false, false, false, false, false] (by kernel_rfl) rfl rfl ⟨((HB.out.cell (World.block_lt_of_cell? w _ hw266_0)).trans hw266_0), ((HB.out.cell (World.block_lt_of_cell? w _ hw266_1)).trans hw266_1), ((HB.out.cell (World.block_lt_of_cell? w _ hw267_0)).trans hw267_0), ((HB.out.cell (World.block_lt_of_cell? w _ hw267_1)).trans hw267_1)⟩ (fun hHeld => ?_); refine with_tabW vesperref14_labelsMay.tab11 vesperref14_labelsMay.bits11 (fun HT_ HW_ => ?_)
                generalize wr.drew = w27 at HB hx266_0 hx266_1 hx267_0 hx267_1 hHeld ⊢
                refine pz 0 (some 54) ?_ HT_ rfl rfl (by kernel_rfl) (by rfl) ?_ ?_ ?_ ?_
                rotate_left
                ·intro w'
                 go_simp
                 with_reducible rfl
                rotate_left
                ·simp only [put_l, List.set, i64_w, i32_w]
                 rfl
                refine pz 1 (some 55) ?_ HT_ rfl rfl (by kernel_rfl) (by rfl) ?_ ?_ ?_ ?_
                rotate_left
                ·intro w'
                 go_simp
                 with_reducible rfl
                rotate_left
                ·simp only [put_l, List.set, i64_w, i32_w]
                 rfl
                refine pz 2 (some 56) ?_ HT_ rfl rfl (by kernel_rfl) (by rfl) ?_ ?_ ?_ ?_
                rotate_left
                ·intro w'
                 go_simp
                 with_reducible rfl
                rotate_left
                ·simp only [put_l, List.set, i64_w, i32_w]
                 rfl
                refine pz 3 (some 57) ?_ HT_ rfl rfl (by kernel_rfl) (by rfl) ?_ ?_ ?_ ?_
                rotate_left
                ·intro w'
                 go_simp
                 with_reducible rfl
                rotate_left
                ·simp only [put_l, List.set, i64_w, i32_w]
                 rfl
                refine pz 5 (some 59) ?_ HT_ rfl rfl (by kernel_rfl) (by rfl) ?_ ?_ ?_ ?_
                rotate_left
                ·intro w'
                 go_simp
                 with_reducible rfl
                rotate_left
                ·simp only [put_l, List.set, i64_w, i32_w]
                 rfl
                refine pz 6 (some 60) ?_ HT_ rfl rfl (by kernel_rfl) (by rfl) ?_ ?_ ?_ ?_
                rotate_left
                ·intro w'
                 go_simp
                 with_reducible rfl
                rotate_left
                ·simp only [put_l, List.set, i64_w, i32_w]
                 rfl
                refine pz 7 (some 61) ?_ HT_ rfl rfl (by kernel_rfl) (by rfl) ?_ ?_ ?_ ?_
                rotate_left
                ·intro w'
                 go_simp
                 with_reducible rfl
                rotate_left
                ·simp only [put_l, List.set, i64_w, i32_w]
                 rfl
                refine pz 8 (some 62) ?_ HT_ rfl rfl (by kernel_rfl) (by rfl) ?_ ?_ ?_ ?_
                rotate_left
                ·intro w'
                 go_simp
                 with_reducible rfl
                rotate_left
                ·simp only [put_l, List.set, i64_w, i32_w]
                 rfl
                refine tz 4 (some 58) ?_ HT_ HW_ rfl rfl (by kernel_rfl) (by rfl) ?_ hHeld ?_ ?_ ?_
                rotate_left
                ·rintro w' ⟨s0, s1, s2, s3⟩
                 go_simp
                 with_reducible rfl
                rotate_left
                ·simp only [put_l, List.set, i64_w, i32_w]
                 rfl
                refine tz 9 (some 63) ?_ HT_ HW_ rfl rfl (by kernel_rfl) (by rfl) ?_ hHeld ?_ ?_ ?_
                rotate_left
                ·rintro w' ⟨s0, s1, s2, s3⟩
                 go_simp
                 with_reducible rfl
                rotate_left
                ·simp only [put_l, List.set, i64_w, i32_w]
                 rfl
                refine pz 10 (some 64) ?_ HT_ rfl rfl (by kernel_rfl) (by rfl) ?_ ?_ ?_ ?_
                rotate_left
                ·intro w'
                 go_simp
                 with_reducible rfl
                rotate_left
                ·simp only [put_l, List.set, i64_w, i32_w]
                 rfl
                refine done_ (done_of HT_.out (by kernel_rfl)) ?_
                try go_wp2
                go_ret
                exact ⟨ew, bw⟩
               rw [if_neg c26] at H
               have c26b0 : (((rd_T47 l0 x4_4).f0).toList == ((rd_T47 l0 x3_1).f0).toList) = false := beq_eq_false_iff_ne.mpr c26
               have c26b1 : (((rd_T47 l0 x4_4).f0).toList != ((rd_T47 l0 x3_1).f0).toList) = true := bne_iff_ne.mpr c26
               have H' := Aside0.mk H
               clear H
               try go_wp2
               have n0_ := Aside0.mk (below_drew1 HB.out)
               clear HB
               have HB := n0_
               clear n0_
               have p266 : 0 ≤ (x4_4 : Int) := oda
               have q266 : x4_4 < (l0.length : Int) := oda
               obtain ⟨ad266, e266, hx266_0, hx266_1⟩ := at_T47 HR0.out x4_4 p266 q266
               have hw266_1 := hx266_1
               have hw266_0 := hx266_0
               cases e266
               replace hx266_0 := up_ HB hx266_0
               replace hx266_1 := up_ HB hx266_1
               replace p266 := eq_true p266
               replace q266 := eq_true q266
               have p267 : 0 ≤ (x3_1 : Int) := oda
               have q267 : x3_1 < (l0.length : Int) := oda
               obtain ⟨ad267, e267, hx267_0, hx267_1⟩ := at_T47 HR0.out x3_1 p267 q267
               have hw267_1 := hx267_1
               have hw267_0 := hx267_0
               obtain rfl : ad266 = ad267 := (by injection e267)
               replace hx267_0 := up_ HB hx267_0
               replace hx267_1 := up_ HB hx267_1
               replace p267 := eq_true p267
               replace q267 := eq_true q267
               refine start_ (n := 11) (S := fun w' => w'.cell? (ad266.add ((x4_4).toNat * 2)) = some (.string ((rd_T47 l0 x4_4).f0)) ∧ w'.cell? ⟨(ad266.add ((x4_4).toNat * 2)).block, (ad266.add ((x4_4).toNat * 2)).off + 1, none⟩ = some (.int .i64 ((rd_T47 l0 x4_4).f1)) ∧ w'.cell? (ad266.add ((x3_1).toNat * 2)) = some (.string ((rd_T47 l0 x3_1).f0)) ∧ w'.cell? ⟨(ad266.add ((x3_1).toNat * 2)).block, (ad266.add ((x3_1).toNat * 2)).off + 1, none⟩ = some (.int .i64 ((rd_T47 l0 x3_1).f1))) (ds := []) #[false, false, false, false, false, false, false, false, false, false, false] (by kernel_rfl) rfl rfl ⟨((HB.out.cell (World.block_lt_of_cell? w _ hw266_0)).trans hw266_0), ((HB.out.cell (World.block_lt_of_cell? w _ hw266_1)).trans hw266_1), ((HB.out.cell (World.block_lt_of_cell? w _ hw267_0)).trans hw267_0), ((HB.out.cell (World.block_lt_of_cell? w _ hw267_1)).trans hw267_1)⟩ (fun hHeld => ?_); refine with_tabW vesperref14_labelsMay.tab11 vesperref14_labelsMay.bits11 (fun HT_ HW_ => ?_)
               generalize wr.drew = w28 at HB hx266_0 hx266_1 hx267_0 hx267_1 hHeld ⊢
               refine pz 0 (some 54) ?_ HT_ rfl rfl (by kernel_rfl) (by rfl) ?_ ?_ ?_ ?_
               rotate_left
               ·intro w'
                go_simp
                with_reducible rfl
               rotate_left
               ·simp only [put_l, List.set, i64_w, i32_w]
                rfl
               refine pz 1 (some 55) ?_ HT_ rfl rfl (by kernel_rfl) (by rfl) ?_ ?_ ?_ ?_
               rotate_left
               ·intro w'
                go_simp
                with_reducible rfl
               rotate_left
               ·simp only [put_l, List.set, i64_w, i32_w]
                rfl
               refine pz 2 (some 56) ?_ HT_ rfl rfl (by kernel_rfl) (by rfl) ?_ ?_ ?_ ?_
               rotate_left
               ·intro w'
                go_simp
                with_reducible rfl
               rotate_left
               ·simp only [put_l, List.set, i64_w, i32_w]
                rfl
               refine pz 3 (some 57) ?_ HT_ rfl rfl (by kernel_rfl) (by rfl) ?_ ?_ ?_ ?_
               rotate_left
               ·intro w'
                go_simp
                with_reducible rfl
               rotate_left
               ·simp only [put_l, List.set, i64_w, i32_w]
                rfl
               refine pz 5 (some 59) ?_ HT_ rfl rfl (by kernel_rfl) (by rfl) ?_ ?_ ?_ ?_
               rotate_left
               ·intro w'
                go_simp
                with_reducible rfl
               rotate_left
               ·simp only [put_l, List.set, i64_w, i32_w]
                rfl
               refine pz 6 (some 60) ?_ HT_ rfl rfl (by kernel_rfl) (by rfl) ?_ ?_ ?_ ?_
               rotate_left
               ·intro w'
                go_simp
                with_reducible rfl
               rotate_left
               ·simp only [put_l, List.set, i64_w, i32_w]
                rfl
               refine pz 7 (some 61) ?_ HT_ rfl rfl (by kernel_rfl) (by rfl) ?_ ?_ ?_ ?_
               rotate_left
               ·intro w'
                go_simp
                with_reducible rfl
               rotate_left
               ·simp only [put_l, List.set, i64_w, i32_w]
                rfl
               refine pz 8 (some 62) ?_ HT_ rfl rfl (by kernel_rfl) (by rfl) ?_ ?_ ?_ ?_
               rotate_left
               ·intro w'
                go_simp
                with_reducible rfl
               rotate_left
               ·simp only [put_l, List.set, i64_w, i32_w]
                rfl
               refine tz 4 (some 58) ?_ HT_ HW_ rfl rfl (by kernel_rfl) (by rfl) ?_ hHeld ?_ ?_ ?_
               rotate_left
               ·rintro w' ⟨s0, s1, s2, s3⟩
                go_simp
                with_reducible rfl
               rotate_left
               ·simp only [put_l, List.set, i64_w, i32_w]
                rfl
               refine tz 9 (some 63) ?_ HT_ HW_ rfl rfl (by kernel_rfl) (by rfl) ?_ hHeld ?_ ?_ ?_
               rotate_left
               ·rintro w' ⟨s0, s1, s2, s3⟩
                go_simp
                with_reducible rfl
               rotate_left
               ·simp only [put_l, List.set, i64_w, i32_w]
                rfl
               refine pz 10 (some 64) ?_ HT_ rfl rfl (by kernel_rfl) (by rfl) ?_ ?_ ?_ ?_
               rotate_left
               ·intro w'
                go_simp
                with_reducible rfl
               rotate_left
               ·simp only [put_l, List.set, i64_w, i32_w]
                rfl
               refine done_ (done_of HT_.out (by kernel_rfl)) ?_
               try go_wp2
               go_roundg k4
               case measure => have := HK1.out; have := HJ2.out; have := HJ8.out; have := HK4.out; omega
               case rel => exact ⟨(wrap64 (x4_4 + 1)), rs, H', ⟨by have := HK1.out; have := HJ2.out; have := HJ8.out; have := HK4.out; omega⟩, ⟨bw⟩⟩
              rw [if_neg c25] at H
              exact absurd H (by simp)
             rw [if_neg c24] at H
             exact absurd H (by simp)
            rw [if_neg c23] at H
            exact absurd H (by simp)
           rw [if_neg c22] at H
           exact absurd H (by simp)
          rw [if_neg c21] at H
          have c21b0 : decide (x4_4 < x3_1) = false := decide_eq_false c21
          clear c21
          have H' := Aside0.mk H
          clear H
          go_wp2
          go_roundg k4
          case measure => have := HK1.out; have := HJ2.out; have := HJ8.out; have := HK4.out; omega
          case rel => exact ⟨(wrap64 (x3_1 + 1)), rs, H', ⟨by have := HK1.out; have := HJ2.out; have := HJ8.out; have := HK4.out; omega⟩, ⟨bw⟩⟩
   rw [if_neg c2] at H
   have c2b0 : decide (x3_1 < (l0.length : Int)) = false := decide_eq_false c2
   clear c2
   obtain rfl := Option.some.inj H
   go_wp2
   go_ret
   exact ⟨ew, bw⟩

end Go.Proofs.YtbffmfeflcdgbaaDoor.POb
