/- Written by a program of this session (gprint.py, over the kit's printer): functions of the seat YtdibgdiiamcmfaaDoor and their contracts. No condition but each contract's own. -/
import Derived.Test.YtdibgdiiamcmfaaDoorTapeWriteC
import Derived.Test.YtdibgdiiamcmfaaDoorTapeReadC
import Derived.Test.YtdibgdiiamcmfaaDoorPTapex0
import Derived.Test.YtdibgdiiamcmfaaDoorPTapex9
namespace Go.Proofs.YtdibgdiiamcmfaaDoor.PTape
open Go.RowKit Go.Proofs.YtdibgdiiamcmfaaDoorW.PrintWords Go.Proofs.YtdibgdiiamcmfaaDoorW.PrintLast Go.Proofs.YtdibgdiiamcmfaaDoorW.PrintMore
open Go.Proofs.YtdibgdiiamcmfaaDoor.Reader (GOk)
attribute [local go_sem] max2_int min2_int max_two min_two max_three min_three max_four min_four   -- for this text's walks alone
set_option linter.unusedVariables false
set_option linter.unusedSimpArgs false

/-! ### vesperref12_Heard: function 19 -/
mutual
def vesperref12_Heard.l0 : Nat → List (S44) → List (S37) → Bool → Int → Option ((List (S37)) × Int)
  | 0, _, _, _, _ => none
  | k + 1, x0, x5, x6, x7 => if x7 < (x0.length : Int) then (if 0 ≤ x7 then (if (rd_T44 x0 x7).f2 = true then (vesperref12_Heard.j1 k x0 x5 x7 (x5.length : Int) x6) else (vesperref12_Heard.j1 k x0 x5 x7 (x5.length : Int) false)) else (none)) else (some (x5, 0))
def vesperref12_Heard.j1 : Nat → List (S44) → List (S37) → Int → Int → Bool → Option ((List (S37)) × Int)
  | 0, _, _, _, _, _ => none
  | k + 1, x0, x5, x7, x8, x22 => if x22 = true then (if 0 ≤ (wrap64 (x8 - 1)) then (if (wrap64 (x8 - 1)) < (x5.length : Int) then (if 0 ≤ x7 then (if x7 < (x0.length : Int) then (vesperref12_Heard.l0 k x0 (x5.set ((wrap64 (x8 - 1)) : Int).toNat (⟨wrap64 (((rd_T37 x5 (wrap64 (x8 - 1))).f0) + ((rd_T44 x0 x7).f0)), (rd_T37 x5 (wrap64 (x8 - 1))).f1⟩ : S37)) ((rd_T44 x0 x7).f2) (wrap64 (x7 + 1))) else (none)) else (none)) else (none)) else (none)) else (if 0 ≤ x7 then (if x7 < (x0.length : Int) then (if (rd_T44 x0 x7).f2 = true then (if x5.length < 8796093022208 then (vesperref12_Heard.l0 k x0 (x5 ++ [(⟨(rd_T44 x0 x7).f0, 0⟩ : S37)]) ((rd_T44 x0 x7).f2) (wrap64 (x7 + 1))) else (none)) else (if x8 > 0 then (if 0 ≤ (wrap64 (x8 - 1)) then (if (wrap64 (x8 - 1)) < (x5.length : Int) then (vesperref12_Heard.l0 k x0 (x5.set ((wrap64 (x8 - 1)) : Int).toNat (⟨(rd_T37 x5 (wrap64 (x8 - 1))).f0, wrap64 (((rd_T37 x5 (wrap64 (x8 - 1))).f1) + ((rd_T44 x0 x7).f0))⟩ : S37)) ((rd_T44 x0 x7).f2) (wrap64 (x7 + 1))) else (none)) else (none)) else (vesperref12_Heard.l0 k x0 x5 ((rd_T44 x0 x7).f2) (wrap64 (x7 + 1))))) else (none)) else (none))
end
def vesperref12_Heard.f (k : Nat) (l0 : List (S44)) : Option ((List (S37)) × Int) := (vesperref07_Check.f k l0).bind fun t233 => (if t233 = 0 then (vesperref12_Heard.l0 k l0 ([] : List (S37)) false 0) else (some (([] : List (S37)), t233)))
theorem vesperref12_Heard.mono_l : ∀ k, (∀ y0 y1 y2 y3, LeO (vesperref12_Heard.l0 k y0 y1 y2 y3) (vesperref12_Heard.l0 (k + 1) y0 y1 y2 y3)) ∧ (∀ y0 y1 y2 y3 y4, LeO (vesperref12_Heard.j1 k y0 y1 y2 y3 y4) (vesperref12_Heard.j1 (k + 1) y0 y1 y2 y3 y4))
  | 0 => ⟨fun _ _ _ _ r h => by simp [vesperref12_Heard.l0] at h, fun _ _ _ _ _ r h => by simp [vesperref12_Heard.j1] at h⟩
  | k + 1 => by
    obtain ⟨ih0, ih1⟩ := vesperref12_Heard.mono_l k
    refine ⟨?_, ?_⟩
    · intro y0 y1 y2 y3
      unfold vesperref12_Heard.l0
      repeat' first
      | (with_reducible exact ih0 _ _ _ _)
      | (with_reducible exact ih1 _ _ _ _ _)
      | (with_reducible exact vesperref07_Check.mono _ _)
      | (with_reducible exact LeO.refl _)
      | (with_reducible exact LeO.none _)
      | (with_reducible refine LeO.ite ?_ ?_)
      | (with_reducible refine LeO.bind ?_ (fun _ => ?_))
      | exact ih0 _ _ _ _
      | exact ih1 _ _ _ _ _
      | exact vesperref07_Check.mono _ _
      | exact LeO.none _
      | refine LeO.ite ?_ ?_
      | refine LeO.bind ?_ (fun _ => ?_)
    · intro y0 y1 y2 y3 y4
      unfold vesperref12_Heard.j1
      repeat' first
      | (with_reducible exact ih0 _ _ _ _)
      | (with_reducible exact ih1 _ _ _ _ _)
      | (with_reducible exact vesperref07_Check.mono _ _)
      | (with_reducible exact LeO.refl _)
      | (with_reducible exact LeO.none _)
      | (with_reducible refine LeO.ite ?_ ?_)
      | (with_reducible refine LeO.bind ?_ (fun _ => ?_))
      | exact ih0 _ _ _ _
      | exact ih1 _ _ _ _ _
      | exact vesperref07_Check.mono _ _
      | exact LeO.none _
      | refine LeO.ite ?_ ?_
      | refine LeO.bind ?_ (fun _ => ?_)
theorem vesperref12_Heard.mono : ∀ a0 k, LeO (vesperref12_Heard.f k a0) (vesperref12_Heard.f (k + 1) a0) := by
  intro a0 k
  obtain ⟨ih0, ih1⟩ := vesperref12_Heard.mono_l k
  unfold vesperref12_Heard.f
  repeat' first
      | (with_reducible exact ih0 _ _ _ _)
      | (with_reducible exact ih1 _ _ _ _ _)
      | (with_reducible exact vesperref07_Check.mono _ _)
      | (with_reducible exact LeO.refl _)
      | (with_reducible exact LeO.none _)
      | (with_reducible refine LeO.ite ?_ ?_)
      | (with_reducible refine LeO.bind ?_ (fun _ => ?_))
      | exact ih0 _ _ _ _
      | exact ih1 _ _ _ _ _
      | exact vesperref07_Check.mono _ _
      | exact LeO.none _
      | refine LeO.ite ?_ ?_
      | refine LeO.bind ?_ (fun _ => ?_)
def vesperref12_Heard.T11 : Bool × List (List Nat × List Nat) := (true, [([], []), ([], []), ([1], [1]), ([], []), ([], []), ([4], [4]), ([3, 5], [3, 5]), ([6], [6]), ([7], [7]), ([], []), ([], []), ([9, 10], [9, 10]), ([11], [11]), ([12], [12]), ([8, 13], [8, 13]), ([0, 2, 0, 1, 2, 3, 4, 5, 6, 7, 8, 9, 10, 11, 12, 13, 14], [0, 2]), ([15, 0, 1, 2, 3, 4, 5, 6, 7, 8, 9, 10, 11, 12, 13, 14], [15]), ([16, 14, 0, 1, 2, 3, 4, 5, 6, 7, 8, 9, 10, 11, 12, 13, 14], [14, 16])])
def vesperref12_Heard.B11 : List Nat := [0, 0, 2, 0, 0, 16, 56, 120, 248, 0, 0, 1536, 3584, 7680, 16376, 32767, 65535, 131071]
theorem vesperref12_Heard.tab11 : rtab .any (opsOf Tryd.f19 11) = vesperref12_Heard.T11 := by kernel_rfl
theorem vesperref12_Heard.bits11 : waitsOk vesperref12_Heard.T11.2 vesperref12_Heard.B11 = true := by kernel_rfl
def vesperref12_Heard.T15 : Bool × List (List Nat × List Nat) := (true, [([], []), ([], []), ([1], [1]), ([], []), ([], []), ([4], [4]), ([3, 5], [3, 5]), ([6], [6]), ([7], [7]), ([], []), ([], []), ([9, 10], [9, 10]), ([11], [11]), ([12], [12]), ([8, 13], [8, 13]), ([0, 2, 0, 1, 2, 3, 4, 5, 6, 7, 8, 9, 10, 11, 12, 13, 14], [0, 2]), ([15, 0, 1, 2, 3, 4, 5, 6, 7, 8, 9, 10, 11, 12, 13, 14], [15]), ([16, 14, 0, 1, 2, 3, 4, 5, 6, 7, 8, 9, 10, 11, 12, 13, 14], [14, 16])])
def vesperref12_Heard.B15 : List Nat := [0, 0, 2, 0, 0, 16, 56, 120, 248, 0, 0, 1536, 3584, 7680, 16376, 32767, 65535, 131071]
theorem vesperref12_Heard.tab15 : rtab .any (opsOf Tryd.f19 15) = vesperref12_Heard.T15 := by kernel_rfl
theorem vesperref12_Heard.bits15 : waitsOk vesperref12_Heard.T15.2 vesperref12_Heard.B15 = true := by kernel_rfl
set_option maxHeartbeats 8000000 in
set_option maxRecDepth 100000 in
theorem vesperref12_Heard.calls (k : Nat) (A0 : Option Addr) (c0 : Nat) (l0 : List (S44)) (r1 : List (S37)) (r2 : Int) (w : World) (hr0 : Kd.C k44 w A0 l0.length l0) (hc0 : l0.length ≤ c0) (h : vesperref12_Heard.f k l0 = some (r1, r2)) :
    Calls Tryd.prog 19 #[.slice A0 l0.length c0] w fun e w' => ∃ v0_ : Value, e = .returned (.tuple #[v0_, .int .i64 r2]) ∧ Kd.R k37 37 w' w.heap.size (fun _ => True) v0_ r1 ∧ Below w.heap.size w w' := by
  have hu37 := Tryd.underlying37
  have HR0 := Aside0.mk hr0
  have HC0 := Aside0.mk hc0
  clear hr0 hc0
  have HB := Aside0.mk (Below.refl w.heap.size w)
  have H : ((vesperref07_Check.f k l0).bind fun t233 => (if t233 = 0 then (vesperref12_Heard.l0 k l0 ([] : List (S37)) false 0) else (some (([] : List (S37)), t233)))) = some (r1, r2) := h
  clear h
  replace H := Option.bind_eq_some_iff.mp H
  obtain ⟨t233, A20, H⟩ := H
  replace H : (if t233 = 0 then (vesperref12_Heard.l0 k l0 ([] : List (S37)) false 0) else (some (([] : List (S37)), t233))) = some (r1, r2) := H
  have A2 := Aside0.mk A20
  clear A20
  by_cases c3 : t233 = 0
  · rw [if_pos c3] at H
    have c3b0 : (t233 == 0) = true := beq_iff_eq.mpr c3
    have c3b1 : (t233 != 0) = false := bne_eq_false_iff_eq.mpr c3
    clear c3
    have H' := Aside0.mk H
    clear H
    go_enter Tryd.func19, Tryd.ntmps19
    go_wp2_with (first | ((with_reducible refine gate_callee (f := 31) rfl ?_); refine goesL_ (some 10) rfl rfl Tryd.func31 (by kernel_rfl) rfl #[.slice A0 l0.length c0] rfl (by (try simp only [List.map_toArray, List.map_cons, List.map_nil]); first | done | rfl | (simp only [List.length_drop, List.length_take]; rfl)) ?_; (with_reducible refine (vesperref07_Check.calls k _ _ l0 t233 _ ?side1 ?side2 A2.out).mono ?_); (case side1 => repeat (first | exact HR0.out | (with_reducible refine Kd.C_alloc ?_ _) | (with_reducible refine Kd.C_drewN ?_ _) | (with_reducible refine Kd.C_drew ?_))); (case side2 => exact HC0.out); rintro e w' ⟨rfl, ⟨nd, rfl⟩⟩; refine ⟨_, rfl, ?_⟩))
    go_loopg [5, 6, 7] k (fun kq v5 v6 v7 w' => ∃ (x5_1 : List (S37)) (x6_1 : Bool) (x7_1 : Int), v6 = .bool x6_1 ∧ v7 = .int .i64 x7_1 ∧ Aside0 (vesperref12_Heard.l0 kq l0 x5_1 x6_1 x7_1 = some (r1, r2)) ∧ Aside0 (kq ≤ k) ∧ Aside0 (Kd.R k37 37 w' w.heap.size (fun _ => True) v5 x5_1) ∧ Aside0 (Below w.heap.size w w'))
    case atStart => exact ⟨(([] : List (S37))), (false), (0), (by first | rfl | (simp; done) | (simp [*]; done)), (by first | rfl | (simp; done) | (simp [*]; done)), H', ⟨Nat.le_refl _⟩, ⟨by first | exact Kd.R_nil _ _ _ _ _ | exact Kd.N_nil _ _ _ _ _ | exact Kd.V_nil _ _ _ _ _ | exact Kd.Q_nil _ _ _ _ _ | exact Kd.S_nil _ _ _ _ _⟩, ⟨by repeat (first | (with_reducible first | exact HB.out | apply below_alloc | apply pw_below_drewN | apply below_drew1) | exact HB.out)⟩⟩
    case round =>
      clear H'
      try clear c1
      try clear p2
      try clear c3
      try clear c3b0
      try clear c3b1
      obtain ⟨x5_1, x6_1, x7_1, rfl, rfl, HA, HK1, HO_5, HB⟩ := hrel
      cases gk with
      | zero => exact absurd HA.out (by simp [vesperref12_Heard.l0])
      | succ k1 =>
        have H := HA.out
        clear HA
        simp only [vesperref12_Heard.l0] at H
        by_cases c4 : x7_1 < (l0.length : Int)
        · rw [if_pos c4] at H
          have c4b0 : decide (x7_1 < (l0.length : Int)) = true := decide_eq_true c4
          clear c4
          have HC5 := Aside0.mk H
          clear H
          obtain ⟨Ao6, co6, eo6⟩ := Kd.R_slice HO_5.out
          subst eo6
          go_upto_region 10 with (fail)
          go_cut [22] (fun v22 wc => ∃ (kq : Nat) (x22_4 : Bool), v22 = .bool x22_4 ∧ Aside0 (vesperref12_Heard.j1 kq l0 x5_1 x7_1 (x5_1.length : Int) x22_4 = some (r1, r2)) ∧ Aside0 (kq ≤ k1) ∧ Aside0 (Kd.R k37 37 wc w.heap.size (fun _ => True) (.slice Ao6 x5_1.length co6) x5_1) ∧ Aside0 (Below w.heap.size w wc))
          case first =>
            have H := HC5.out
            clear HC5
            by_cases c7 : 0 ≤ x7_1
            · rw [if_pos c7] at H
              have c7b0 : decide (0 ≤ x7_1) = true := decide_eq_true c7
              clear c7
              (first | rw [c7b0] | (simp only [i64_w, i32_w]; rw [c7b0]) | skip)
              obtain ⟨bq8, hbq8⟩ : ∃ b_ : Bool, b_ = ((rd_T44 l0 x7_1).f2) := ⟨_, rfl⟩
              replace H : (if bq8 = true then (vesperref12_Heard.j1 k1 l0 x5_1 x7_1 (x5_1.length : Int) x6_1) else (vesperref12_Heard.j1 k1 l0 x5_1 x7_1 (x5_1.length : Int) false)) = some (r1, r2) := by rw [← hbq8] at H; exact H
              have Nbq8 := Aside0.mk hbq8
              clear hbq8
              by_cases c9 : bq8 = true
              · subst c9
                have H1 : (vesperref12_Heard.j1 k1 l0 x5_1 x7_1 (x5_1.length : Int) x6_1) = some (r1, r2) := by rw [if_pos rfl] at H; exact H
                clear H
                have H := H1
                clear H1
                have H' := Aside0.mk H
                clear H
                have p234 : 0 ≤ (x7_1 : Int) := of_decide_eq_true (by first | (with_reducible assumption) | assumption)
                have q234 : x7_1 < (l0.length : Int) := of_decide_eq_true (by first | (with_reducible assumption) | assumption)
                obtain ⟨ad234, e234, hx234_0, hx234_1, hx234_2, hx234_3, hx234_4, hx234_5, hx234_6, hx234_7, hx234_8, hx234_9⟩ := at_T44 HR0.out x7_1 p234 q234
                (try rw [← Nbq8.out] at hx234_2)
                (try rw [← Nbq8.out] at hx234_3)
                (try rw [← Nbq8.out] at hx234_4)
                (try rw [← Nbq8.out] at hx234_5)
                (try rw [← Nbq8.out] at hx234_6)
                (try rw [← Nbq8.out] at hx234_7)
                (try rw [← Nbq8.out] at hx234_8)
                cases e234
                replace hx234_0 := (HB.out.cell (World.block_lt_of_cell? w _ hx234_0)).trans hx234_0
                replace hx234_1 := (HB.out.cell (World.block_lt_of_cell? w _ hx234_1)).trans hx234_1
                replace hx234_2 := (HB.out.cell (World.block_lt_of_cell? w _ hx234_2)).trans hx234_2
                replace hx234_3 := (HB.out.cell (World.block_lt_of_cell? w _ hx234_3)).trans hx234_3
                replace hx234_4 := (HB.out.cell (World.block_lt_of_cell? w _ hx234_4)).trans hx234_4
                replace hx234_5 := (HB.out.cell (World.block_lt_of_cell? w _ hx234_5)).trans hx234_5
                replace hx234_6 := (HB.out.cell (World.block_lt_of_cell? w _ hx234_6)).trans hx234_6
                replace hx234_7 := (HB.out.cell (World.block_lt_of_cell? w _ hx234_7)).trans hx234_7
                replace hx234_8 := (HB.out.cell (World.block_lt_of_cell? w _ hx234_8)).trans hx234_8
                replace hx234_9 := (HB.out.cell (World.block_lt_of_cell? w _ hx234_9)).trans hx234_9
                replace p234 := eq_true p234
                replace q234 := eq_true q234
                go_wp2
                go_meet
                case rel => (try rw [← Nbq8.out]); exact ⟨_, (x6_1), (by first | rfl | (simp; done) | (simp [*]; done)), H', ⟨by have := HK1.out; first | omega | exact Nat.le_refl _⟩, ⟨by (with_reducible repeat (first | apply Kd.R_alloc | apply Kd.R_drewN | apply Kd.R_drew)); exact HO_5.out⟩, ⟨by repeat (first | (with_reducible first | exact HB.out | apply below_alloc | apply pw_below_drewN | apply below_drew1) | exact HB.out)⟩⟩
              · replace c9 := Bool.eq_false_iff.mpr c9
                subst c9
                have H1 : (vesperref12_Heard.j1 k1 l0 x5_1 x7_1 (x5_1.length : Int) false) = some (r1, r2) := by rw [if_neg (show ¬ (false = true) by decide)] at H; exact H
                clear H
                have H := H1
                clear H1
                have H' := Aside0.mk H
                clear H
                have p234 : 0 ≤ (x7_1 : Int) := of_decide_eq_true (by first | (with_reducible assumption) | assumption)
                have q234 : x7_1 < (l0.length : Int) := of_decide_eq_true (by first | (with_reducible assumption) | assumption)
                obtain ⟨ad234, e234, hx234_0, hx234_1, hx234_2, hx234_3, hx234_4, hx234_5, hx234_6, hx234_7, hx234_8, hx234_9⟩ := at_T44 HR0.out x7_1 p234 q234
                (try rw [← Nbq8.out] at hx234_2)
                (try rw [← Nbq8.out] at hx234_3)
                (try rw [← Nbq8.out] at hx234_4)
                (try rw [← Nbq8.out] at hx234_5)
                (try rw [← Nbq8.out] at hx234_6)
                (try rw [← Nbq8.out] at hx234_7)
                (try rw [← Nbq8.out] at hx234_8)
                cases e234
                replace hx234_0 := (HB.out.cell (World.block_lt_of_cell? w _ hx234_0)).trans hx234_0
                replace hx234_1 := (HB.out.cell (World.block_lt_of_cell? w _ hx234_1)).trans hx234_1
                replace hx234_2 := (HB.out.cell (World.block_lt_of_cell? w _ hx234_2)).trans hx234_2
                replace hx234_3 := (HB.out.cell (World.block_lt_of_cell? w _ hx234_3)).trans hx234_3
                replace hx234_4 := (HB.out.cell (World.block_lt_of_cell? w _ hx234_4)).trans hx234_4
                replace hx234_5 := (HB.out.cell (World.block_lt_of_cell? w _ hx234_5)).trans hx234_5
                replace hx234_6 := (HB.out.cell (World.block_lt_of_cell? w _ hx234_6)).trans hx234_6
                replace hx234_7 := (HB.out.cell (World.block_lt_of_cell? w _ hx234_7)).trans hx234_7
                replace hx234_8 := (HB.out.cell (World.block_lt_of_cell? w _ hx234_8)).trans hx234_8
                replace hx234_9 := (HB.out.cell (World.block_lt_of_cell? w _ hx234_9)).trans hx234_9
                replace p234 := eq_true p234
                replace q234 := eq_true q234
                go_wp2
                go_meet
                case rel => (try rw [← Nbq8.out]); exact ⟨_, (false), (by first | rfl | (simp; done) | (simp [*]; done)), H', ⟨by have := HK1.out; first | omega | exact Nat.le_refl _⟩, ⟨by (with_reducible repeat (first | apply Kd.R_alloc | apply Kd.R_drewN | apply Kd.R_drew)); exact HO_5.out⟩, ⟨by repeat (first | (with_reducible first | exact HB.out | apply below_alloc | apply pw_below_drewN | apply below_drew1) | exact HB.out)⟩⟩
            · rw [if_neg c7] at H
              exact absurd H (by simp)
          case rest =>
            clear HC5
            try clear c1
            try clear p2
            try clear q2
            try clear hx2
            try clear c3
            try clear c3b0
            try clear c3b1
            try clear c4
            try clear c4b0
            try clear c7
            try clear c7b0
            try clear q8
            try clear c9
            try clear hx234_0
            try clear hx234_1
            try clear hx234_2
            try clear hx234_3
            try clear hx234_4
            try clear hx234_5
            try clear hx234_6
            try clear hx234_7
            try clear hx234_8
            try clear hx234_9
            try clear p2
            try clear p234
            try clear q234
            obtain ⟨kq, x22_4, rfl, HA, HJ4, HO_5, HB⟩ := hcut
            cases kq with
            | zero => exact absurd HA.out (by simp [vesperref12_Heard.j1])
            | succ kj4 =>
              have H := HA.out
              clear HA
              simp only [vesperref12_Heard.j1] at H
              by_cases c10 : x22_4 = true
              · subst c10
                have H1 : (if 0 ≤ (wrap64 ((x5_1.length : Int) - 1)) then (if (wrap64 ((x5_1.length : Int) - 1)) < (x5_1.length : Int) then (if 0 ≤ x7_1 then (if x7_1 < (l0.length : Int) then (vesperref12_Heard.l0 kj4 l0 (x5_1.set ((wrap64 ((x5_1.length : Int) - 1)) : Int).toNat (⟨wrap64 (((rd_T37 x5_1 (wrap64 ((x5_1.length : Int) - 1))).f0) + ((rd_T44 l0 x7_1).f0)), (rd_T37 x5_1 (wrap64 ((x5_1.length : Int) - 1))).f1⟩ : S37)) ((rd_T44 l0 x7_1).f2) (wrap64 (x7_1 + 1))) else (none)) else (none)) else (none)) else (none)) = some (r1, r2) := by rw [if_pos rfl] at H; exact H
                clear H
                have H := H1
                clear H1
                obtain ⟨ji11, hji11⟩ : ∃ j_ : Int, (wrap64 ((x5_1.length : Int) - 1)) = j_ := ⟨_, rfl⟩
                replace H : (if 0 ≤ (ji11) then (if (ji11) < (x5_1.length : Int) then (if 0 ≤ x7_1 then (if x7_1 < (l0.length : Int) then (vesperref12_Heard.l0 kj4 l0 (x5_1.set ((ji11) : Int).toNat (⟨wrap64 (((rd_T37 x5_1 (ji11)).f0) + ((rd_T44 l0 x7_1).f0)), (rd_T37 x5_1 (ji11)).f1⟩ : S37)) ((rd_T44 l0 x7_1).f2) (wrap64 (x7_1 + 1))) else (none)) else (none)) else (none)) else (none)) = some (r1, r2) := by first | (rw [hji11] at H; exact H) | (simp only [hji11] at H ⊢; exact H)
                have hji11w : (IntKind.i64.wrap ((x5_1.length : Int) - 1)) = ji11 := (i64_w _).trans hji11
                by_cases c12 : 0 ≤ (ji11)
                · rw [if_pos c12] at H
                  have c12b0 : decide (0 ≤ (ji11)) = true := decide_eq_true c12
                  clear c12
                  by_cases c13 : (ji11) < (x5_1.length : Int)
                  · rw [if_pos c13] at H
                    have c13b0 : decide ((ji11) < (x5_1.length : Int)) = true := decide_eq_true c13
                    clear c13
                    by_cases c14 : 0 ≤ x7_1
                    · rw [if_pos c14] at H
                      have c14b0 : decide (0 ≤ x7_1) = true := decide_eq_true c14
                      clear c14
                      by_cases c15 : x7_1 < (l0.length : Int)
                      · rw [if_pos c15] at H
                        have c15b0 : decide (x7_1 < (l0.length : Int)) = true := decide_eq_true c15
                        clear c15
                        obtain ⟨y237, hy237⟩ : ∃ y_ : List (S37), y_ = (x5_1.set ((ji11) : Int).toNat (⟨wrap64 (((rd_T37 x5_1 (ji11)).f0) + ((rd_T44 l0 x7_1).f0)), (rd_T37 x5_1 (ji11)).f1⟩ : S37)) := ⟨_, rfl⟩
                        replace H : (vesperref12_Heard.l0 kj4 l0 y237 ((rd_T44 l0 x7_1).f2) (wrap64 (x7_1 + 1))) = some (r1, r2) := by first | (rw [hy237]; with_reducible exact H) | (have H2_ := (Option.bind_some _ _).symm.trans H; rw [hy237]; with_reducible exact H2_) | (have H2_ := (Option.bind_some _ _).symm.trans H; with_reducible exact H2_) | with_reducible exact H | (rw [hy237]; exact H) | exact H
                        have Ny237 := Aside0.mk hy237
                        clear hy237
                        have H' := Aside0.mk H
                        clear H
                        try go_wp2
                        have n0_ := Aside0.mk (Kd.R_drew HO_5.out)
                        have n1_ := Aside0.mk (below_drew1 HB.out)
                        clear HO_5
                        clear HB
                        have HO_5 := n0_
                        have HB := n1_
                        clear n0_ n1_
                        have p235 : 0 ≤ ((ji11) : Int) := of_decide_eq_true (by first | (with_reducible assumption) | assumption)
                        have q235 : (ji11) < (x5_1.length : Int) := of_decide_eq_true (by first | (with_reducible assumption) | assumption)
                        obtain ⟨ad235, e235, hx235_0, hx235_1⟩ := at_T37 (Kd.R_reads' HO_5.out).2.2 (ji11) p235 q235
                        cases e235
                        replace p235 := eq_true p235
                        replace q235 := eq_true q235
                        have p236 : 0 ≤ (x7_1 : Int) := of_decide_eq_true (by first | (with_reducible assumption) | assumption)
                        have q236 : x7_1 < (l0.length : Int) := of_decide_eq_true (by first | (with_reducible assumption) | assumption)
                        obtain ⟨ad236, e236, hx236_0, hx236_1, hx236_2, hx236_3, hx236_4, hx236_5, hx236_6, hx236_7, hx236_8, hx236_9⟩ := at_T44 HR0.out x7_1 p236 q236
                        have hw236_9 := hx236_9
                        have hw236_8 := hx236_8
                        have hw236_7 := hx236_7
                        have hw236_6 := hx236_6
                        have hw236_5 := hx236_5
                        have hw236_4 := hx236_4
                        have hw236_3 := hx236_3
                        have hw236_2 := hx236_2
                        have hw236_1 := hx236_1
                        have hw236_0 := hx236_0
                        cases e236
                        replace hx236_0 := (HB.out.cell (World.block_lt_of_cell? w _ hx236_0)).trans hx236_0
                        replace hx236_1 := (HB.out.cell (World.block_lt_of_cell? w _ hx236_1)).trans hx236_1
                        replace hx236_2 := (HB.out.cell (World.block_lt_of_cell? w _ hx236_2)).trans hx236_2
                        replace hx236_3 := (HB.out.cell (World.block_lt_of_cell? w _ hx236_3)).trans hx236_3
                        replace hx236_4 := (HB.out.cell (World.block_lt_of_cell? w _ hx236_4)).trans hx236_4
                        replace hx236_5 := (HB.out.cell (World.block_lt_of_cell? w _ hx236_5)).trans hx236_5
                        replace hx236_6 := (HB.out.cell (World.block_lt_of_cell? w _ hx236_6)).trans hx236_6
                        replace hx236_7 := (HB.out.cell (World.block_lt_of_cell? w _ hx236_7)).trans hx236_7
                        replace hx236_8 := (HB.out.cell (World.block_lt_of_cell? w _ hx236_8)).trans hx236_8
                        replace hx236_9 := (HB.out.cell (World.block_lt_of_cell? w _ hx236_9)).trans hx236_9
                        replace p236 := eq_true p236
                        replace q236 := eq_true q236
                        have p16 : 0 ≤ ((ji11) : Int) := of_decide_eq_true (by first | (with_reducible assumption) | assumption)
                        have q16 : ((ji11) : Int) < ((x5_1.length : Int) : Int) := of_decide_eq_true (by first | (with_reducible assumption) | assumption)
                        obtain ⟨go16, co16, eo16, gb16, gl16, cl16, HG16⟩ := Kd.R_form HO_5.out (by omega)
                        (first | cases eo16 | (injection eo16 with ea_ en_ ec_; (first | subst ea_ | (injection ea_ with ea_; subst ea_)); subst ec_; clear en_))
                        have GB16 := Aside0.mk gb16
                        have GG16 := Aside0.mk HG16
                        clear gb16 gl16 HG16
                        (first | simp only [add_plain] at hx235_0 | skip)
                        (first | simp only [add_plain] at hx235_1 | skip)
                        obtain ⟨ce16, hcl16, hM16, hcc16, hfr16⟩ := Kd.R_elem HO_5.out z37 ((ji11) : Int) p16 q16
                        obtain rfl := k37_openM hM16
                        have hx16_0 : World.cell? _ ⟨go16, ((ji11) : Int).toNat * 2, none⟩ = some (.int .i64 ((rd_T37 x5_1 (ji11)).f0)) := hcc16 0 _ rfl
                        have hx16_1 : World.cell? _ ⟨go16, ((ji11) : Int).toNat * 2 + 1, none⟩ = some (.int .i64 ((rd_T37 x5_1 (ji11)).f1)) := hcc16 1 _ rfl
                        have hf16_0 : World.frozen? _ ⟨go16, ((ji11) : Int).toNat * 2, none⟩ = false := hfr16 0
                        have hf16_1 : World.frozen? _ ⟨go16, ((ji11) : Int).toNat * 2 + 1, none⟩ = false := hfr16 1
                        clear hcl16 hcc16 hfr16 hM16
                        replace p16 := eq_true p16
                        replace q16 := eq_true q16
                        obtain ⟨ce18, hcl18, hM18, hcc18, hfr18⟩ := Kd.R_elem HO_5.out z37 ((ji11) : Int) (of_decide_eq_true (by first | (with_reducible assumption) | assumption)) (by have h_ : ((ji11) : Int) < ((x5_1.length : Int) : Int) := of_decide_eq_true (by first | (with_reducible assumption) | assumption); first | exact h_ | (have e_ := (Kd.R_reads' HO_5.out).1; omega) | simpa using h_)
                        obtain rfl := k37_openM hM18
                        have HP18 := (Kd.R_seg HO_5.out ((ji11) : Int) (of_decide_eq_true (by first | (with_reducible assumption) | assumption)) (by have h_ : ((ji11) : Int) < ((x5_1.length : Int) : Int) := of_decide_eq_true (by first | (with_reducible assumption) | assumption); first | exact h_ | (have e_ := (Kd.R_reads' HO_5.out).1; omega) | simpa using h_) (seg := [.int .i64 (wrap64 (((rd_T37 x5_1 (ji11)).f0) + ((rd_T44 l0 x7_1).f0)))]) (j := 0) hcl18 hcc18 (show 1 ≤ 2 from by decide) (x' := (⟨wrap64 (((rd_T37 x5_1 (ji11)).f0) + ((rd_T44 l0 x7_1).f0)), (rd_T37 x5_1 (ji11)).f1⟩ : S37)) (k37_mkM _ _ _ (⟨wrap64 (((rd_T37 x5_1 (ji11)).f0) + ((rd_T44 l0 x7_1).f0)), (rd_T37 x5_1 (ji11)).f1⟩ : S37) ) (fun _ hk => hk)).1
                        rw [← Ny237.out] at HP18
                        have HQ18 := Aside0.mk HP18
                        clear hcl18 hcc18 hfr18 hM18 HP18
                        refine start_ (n := 18) (S := fun w' => w'.cell? ⟨go16, ((ji11) : Int).toNat * 2, none⟩ = some (.int .i64 ((rd_T37 x5_1 (ji11)).f0)) ∧ w'.cell? ⟨go16, ((ji11) : Int).toNat * 2 + 1, none⟩ = some (.int .i64 ((rd_T37 x5_1 (ji11)).f1)) ∧ w'.cell? (ad236.add ((x7_1).toNat * 10)) = some (.int .i64 ((rd_T44 l0 x7_1).f0)) ∧ w'.cell? ⟨(ad236.add ((x7_1).toNat * 10)).block, (ad236.add ((x7_1).toNat * 10)).off + 1, none⟩ = some (.int .u16 ((rd_T44 l0 x7_1).f1)) ∧ w'.cell? ⟨(ad236.add ((x7_1).toNat * 10)).block, (ad236.add ((x7_1).toNat * 10)).off + 2, none⟩ = some (.bool ((rd_T44 l0 x7_1).f2)) ∧ w'.cell? ⟨(ad236.add ((x7_1).toNat * 10)).block, (ad236.add ((x7_1).toNat * 10)).off + 3, none⟩ = some (.bool ((rd_T44 l0 x7_1).f3)) ∧ w'.cell? ⟨(ad236.add ((x7_1).toNat * 10)).block, (ad236.add ((x7_1).toNat * 10)).off + 4, none⟩ = some (.bool ((rd_T44 l0 x7_1).f4)) ∧ w'.cell? ⟨(ad236.add ((x7_1).toNat * 10)).block, (ad236.add ((x7_1).toNat * 10)).off + 5, none⟩ = some (.bool ((rd_T44 l0 x7_1).f5)) ∧ w'.cell? ⟨(ad236.add ((x7_1).toNat * 10)).block, (ad236.add ((x7_1).toNat * 10)).off + 6, none⟩ = some (.bool ((rd_T44 l0 x7_1).f6)) ∧ w'.cell? ⟨(ad236.add ((x7_1).toNat * 10)).block, (ad236.add ((x7_1).toNat * 10)).off + 7, none⟩ = some (.bool ((rd_T44 l0 x7_1).f7)) ∧ w'.cell? ⟨(ad236.add ((x7_1).toNat * 10)).block, (ad236.add ((x7_1).toNat * 10)).off + 8, none⟩ = some (.bool ((rd_T44 l0 x7_1).f8)) ∧ w'.cell? ⟨(ad236.add ((x7_1).toNat * 10)).block, (ad236.add ((x7_1).toNat * 10)).off + 9, none⟩ = some (.int .u8 ((rd_T44 l0 x7_1).f9))) (ds := [17]) #[false, false, false, false, false, false, false, false, false, false, false, false, false, false, false, false, false, false] (by kernel_rfl) rfl rfl ⟨hx235_0, hx235_1, ((HB.out.cell (World.block_lt_of_cell? w _ hw236_0)).trans hw236_0), ((HB.out.cell (World.block_lt_of_cell? w _ hw236_1)).trans hw236_1), ((HB.out.cell (World.block_lt_of_cell? w _ hw236_2)).trans hw236_2), ((HB.out.cell (World.block_lt_of_cell? w _ hw236_3)).trans hw236_3), ((HB.out.cell (World.block_lt_of_cell? w _ hw236_4)).trans hw236_4), ((HB.out.cell (World.block_lt_of_cell? w _ hw236_5)).trans hw236_5), ((HB.out.cell (World.block_lt_of_cell? w _ hw236_6)).trans hw236_6), ((HB.out.cell (World.block_lt_of_cell? w _ hw236_7)).trans hw236_7), ((HB.out.cell (World.block_lt_of_cell? w _ hw236_8)).trans hw236_8), ((HB.out.cell (World.block_lt_of_cell? w _ hw236_9)).trans hw236_9)⟩ (fun hHeld => ?_); refine with_tabW vesperref12_Heard.tab11 vesperref12_Heard.bits11 (fun HT_ HW_ => ?_)
                        generalize wc.drew = w17 at HO_5 HB GG16 HQ18 hf16_0 hf16_1 hx16_0 hx16_1 hx235_0 hx235_1 hx236_0 hx236_1 hx236_2 hx236_3 hx236_4 hx236_5 hx236_6 hx236_7 hx236_8 hx236_9 hHeld ⊢
                        refine pure_ (i := 0) (N := some 31) (v := ?_) (a' := ?_) #[true, false, false, false, false, false, false, false, false, false, false, false, false, false, false, false, false, false] rfl rfl (any_of HT_.out (by kernel_rfl)) (fun _ _ _ h => h) (Or.inl ⟨by rfl, ?_⟩) ?_ ?_
                        rotate_left
                        · intro w'
                          go_simp
                          with_reducible rfl
                        rotate_left
                        · simp only [Act.put, List.setIfInBounds_toArray, List.set_cons_zero, List.set_cons_succ, i64_w, i32_w]
                          rfl
                        refine pure_ (i := 1) (N := some 32) (v := ?_) (a' := ?_) #[true, true, false, false, false, false, false, false, false, false, false, false, false, false, false, false, false, false] rfl rfl (any_of HT_.out (by kernel_rfl)) (fun _ _ _ h => h) (Or.inl ⟨by rfl, ?_⟩) ?_ ?_
                        rotate_left
                        · intro w'
                          go_simp
                          with_reducible rfl
                        rotate_left
                        · simp only [Act.put, List.setIfInBounds_toArray, List.set_cons_zero, List.set_cons_succ, i64_w, i32_w]
                          rfl
                        refine pure_ (i := 2) (N := some 33) (v := ?_) (a' := ?_) #[true, true, true, false, false, false, false, false, false, false, false, false, false, false, false, false, false, false] rfl rfl (any_of HT_.out (by kernel_rfl)) (fun _ _ _ h => h) (Or.inl ⟨by rfl, ?_⟩) ?_ ?_
                        rotate_left
                        · intro w'
                          go_simp
                          with_reducible rfl
                        rotate_left
                        · simp only [Act.put, List.setIfInBounds_toArray, List.set_cons_zero, List.set_cons_succ, i64_w, i32_w]
                          rfl
                        refine pure_ (i := 3) (N := some 34) (v := ?_) (a' := ?_) #[true, true, true, true, false, false, false, false, false, false, false, false, false, false, false, false, false, false] rfl rfl (any_of HT_.out (by kernel_rfl)) (fun _ _ _ h => h) (Or.inl ⟨by rfl, ?_⟩) ?_ ?_
                        rotate_left
                        · intro w'
                          go_simp
                          with_reducible rfl
                        rotate_left
                        · simp only [Act.put, List.setIfInBounds_toArray, List.set_cons_zero, List.set_cons_succ, i64_w, i32_w]
                          rfl
                        refine pure_ (i := 4) (N := some 35) (v := ?_) (a' := ?_) #[true, true, true, true, true, false, false, false, false, false, false, false, false, false, false, false, false, false] rfl rfl (any_of HT_.out (by kernel_rfl)) (fun _ _ _ h => h) (Or.inl ⟨by rfl, ?_⟩) ?_ ?_
                        rotate_left
                        · intro w'
                          go_simp
                          with_reducible rfl
                        rotate_left
                        · simp only [Act.put, List.setIfInBounds_toArray, List.set_cons_zero, List.set_cons_succ, i64_w, i32_w]
                          rfl
                        refine pure_ (i := 5) (N := some 36) (v := ?_) (a' := ?_) #[true, true, true, true, true, true, false, false, false, false, false, false, false, false, false, false, false, false] rfl rfl (any_of HT_.out (by kernel_rfl)) (fun _ _ _ h => h) (Or.inl ⟨by rfl, ?_⟩) ?_ ?_
                        rotate_left
                        · intro w'
                          go_simp
                          with_reducible rfl
                        rotate_left
                        · simp only [Act.put, List.setIfInBounds_toArray, List.set_cons_zero, List.set_cons_succ, i64_w, i32_w]
                          rfl
                        refine pure_ (i := 6) (N := some 37) (v := ?_) (a' := ?_) #[true, true, true, true, true, true, true, false, false, false, false, false, false, false, false, false, false, false] rfl rfl (any_of HT_.out (by kernel_rfl)) (fun _ _ _ h => h) (Or.inl ⟨by rfl, ?_⟩) ?_ ?_
                        rotate_left
                        · intro w'
                          go_simp
                          with_reducible rfl
                        rotate_left
                        · simp only [Act.put, List.setIfInBounds_toArray, List.set_cons_zero, List.set_cons_succ, i64_w, i32_w]
                          rfl
                        refine pure_ (i := 7) (N := some 38) (v := ?_) (a' := ?_) #[true, true, true, true, true, true, true, true, false, false, false, false, false, false, false, false, false, false] rfl rfl (any_of HT_.out (by kernel_rfl)) (fun _ _ _ h => h) (Or.inl ⟨by rfl, ?_⟩) ?_ ?_
                        rotate_left
                        · intro w'
                          go_simp
                          with_reducible rfl
                        rotate_left
                        · simp only [Act.put, List.setIfInBounds_toArray, List.set_cons_zero, List.set_cons_succ, i64_w, i32_w]
                          rfl
                        refine pure_ (i := 9) (N := some 40) (v := ?_) (a' := ?_) #[true, true, true, true, true, true, true, true, false, true, false, false, false, false, false, false, false, false] rfl rfl (any_of HT_.out (by kernel_rfl)) (fun _ _ _ h => h) (Or.inl ⟨by rfl, ?_⟩) ?_ ?_
                        rotate_left
                        · intro w'
                          go_simp
                          with_reducible rfl
                        rotate_left
                        · simp only [Act.put, List.setIfInBounds_toArray, List.set_cons_zero, List.set_cons_succ, i64_w, i32_w]
                          rfl
                        refine pure_ (i := 10) (N := some 41) (v := ?_) (a' := ?_) #[true, true, true, true, true, true, true, true, false, true, true, false, false, false, false, false, false, false] rfl rfl (any_of HT_.out (by kernel_rfl)) (fun _ _ _ h => h) (Or.inl ⟨by rfl, ?_⟩) ?_ ?_
                        rotate_left
                        · intro w'
                          go_simp
                          with_reducible rfl
                        rotate_left
                        · simp only [Act.put, List.setIfInBounds_toArray, List.set_cons_zero, List.set_cons_succ, i64_w, i32_w]
                          rfl
                        refine pure_ (i := 11) (N := some 42) (v := ?_) (a' := ?_) #[true, true, true, true, true, true, true, true, false, true, true, true, false, false, false, false, false, false] rfl rfl (any_of HT_.out (by kernel_rfl)) (fun _ _ _ h => h) (Or.inl ⟨by rfl, ?_⟩) ?_ ?_
                        rotate_left
                        · intro w'
                          go_simp
                          with_reducible rfl
                        rotate_left
                        · simp only [Act.put, List.setIfInBounds_toArray, List.set_cons_zero, List.set_cons_succ, i64_w, i32_w]
                          rfl
                        refine pure_ (i := 12) (N := some 43) (v := ?_) (a' := ?_) #[true, true, true, true, true, true, true, true, false, true, true, true, true, false, false, false, false, false] rfl rfl (any_of HT_.out (by kernel_rfl)) (fun _ _ _ h => h) (Or.inl ⟨by rfl, ?_⟩) ?_ ?_
                        rotate_left
                        · intro w'
                          go_simp
                          with_reducible rfl
                        rotate_left
                        · simp only [Act.put, List.setIfInBounds_toArray, List.set_cons_zero, List.set_cons_succ, i64_w, i32_w]
                          rfl
                        refine take_ (i := 8) (N := some 39) (v := ?_) (a' := ?_) #[true, true, true, true, true, true, true, true, true, true, true, true, true, false, false, false, false, false] rfl rfl (take_ofW HT_.out HW_.out (by kernel_rfl)) (fun _ _ _ h => h) (Or.inl ⟨by rfl, ?_⟩) hHeld ?_ ?_
                        rotate_left
                        · rintro w' ⟨s0, s1, s2, s3, s4, s5, s6, s7, s8, s9, s10, s11⟩
                          go_simp
                          with_reducible rfl
                        rotate_left
                        · simp only [Act.put, List.setIfInBounds_toArray, List.set_cons_zero, List.set_cons_succ, i64_w, i32_w]
                          rfl
                        refine take_ (i := 13) (N := some 44) (v := ?_) (a' := ?_) #[true, true, true, true, true, true, true, true, true, true, true, true, true, true, false, false, false, false] rfl rfl (take_ofW HT_.out HW_.out (by kernel_rfl)) (fun _ _ _ h => h) (Or.inl ⟨by rfl, ?_⟩) hHeld ?_ ?_
                        rotate_left
                        · rintro w' ⟨s0, s1, s2, s3, s4, s5, s6, s7, s8, s9, s10, s11⟩
                          go_simp
                          with_reducible rfl
                        rotate_left
                        · simp only [Act.put, List.setIfInBounds_toArray, List.set_cons_zero, List.set_cons_succ, i64_w, i32_w]
                          rfl
                        refine pure_ (i := 14) (N := some 45) (v := ?_) (a' := ?_) #[true, true, true, true, true, true, true, true, true, true, true, true, true, true, true, false, false, false] rfl rfl (any_of HT_.out (by kernel_rfl)) (fun _ _ _ h => h) (Or.inl ⟨by rfl, ?_⟩) ?_ ?_
                        rotate_left
                        · intro w'
                          go_simp
                          with_reducible rfl
                        rotate_left
                        · simp only [Act.put, List.setIfInBounds_toArray, List.set_cons_zero, List.set_cons_succ, i64_w, i32_w]
                          rfl
                        refine pure_ (i := 15) (N := some 46) (v := ?_) (a' := ?_) #[true, true, true, true, true, true, true, true, true, true, true, true, true, true, true, true, false, false] rfl rfl (any_of HT_.out (by kernel_rfl)) (fun _ _ _ h => h) (Or.inl ⟨by rfl, ?_⟩) ?_ ?_
                        rotate_left
                        · intro w'
                          go_simp
                          with_reducible rfl
                        rotate_left
                        · simp only [Act.put, List.setIfInBounds_toArray, List.set_cons_zero, List.set_cons_succ, i64_w, i32_w]
                          rfl
                        refine pure_ (i := 16) (N := some 47) (v := ?_) (a' := ?_) #[true, true, true, true, true, true, true, true, true, true, true, true, true, true, true, true, true, false] rfl rfl (any_of HT_.out (by kernel_rfl)) (fun _ _ _ h => h) (Or.inl ⟨by rfl, ?_⟩) ?_ ?_
                        rotate_left
                        · intro w'
                          go_simp
                          with_reducible rfl
                        rotate_left
                        · simp only [Act.put, List.setIfInBounds_toArray, List.set_cons_zero, List.set_cons_succ, i64_w, i32_w]
                          rfl
                        refine last_ (i := 17) (N := none) #[true, true, true, true, true, true, true, true, true, true, true, true, true, true, true, true, true, true] rfl rfl (one_of HT_.out (by kernel_rfl)) (by decide) (fun K hK => ?_)
                        refine skip_ (w1 := ?_) (by rfl) rfl ?_ ?_
                        rotate_left
                        · go_simp
                          rfl
                        refine hK.out _ _ ?_
                        clear hK K
                        refine done_ (done_of HT_.out (by kernel_rfl)) ?_
                        have p238 : 0 ≤ (x7_1 : Int) := of_decide_eq_true (by first | (with_reducible assumption) | assumption)
                        have q238 : x7_1 < (l0.length : Int) := of_decide_eq_true (by first | (with_reducible assumption) | assumption)
                        obtain ⟨ad238, e238, hx238_0, hx238_1, hx238_2, hx238_3, hx238_4, hx238_5, hx238_6, hx238_7, hx238_8, hx238_9⟩ := at_T44 HR0.out x7_1 p238 q238
                        obtain rfl : ad236 = ad238 := (by injection e238)
                        have hn238_0 : ad236.block ≠ go16 := Nat.ne_of_lt (Nat.lt_of_lt_of_le (by have := World.block_lt_of_cell? _ _ hx238_0; first | rwa [add_block] at this | exact this) GB16.out)
                        replace hx238_0 := (HB.out.cell (World.block_lt_of_cell? w _ hx238_0)).trans hx238_0
                        replace hx238_1 := (HB.out.cell (World.block_lt_of_cell? w _ hx238_1)).trans hx238_1
                        replace hx238_2 := (HB.out.cell (World.block_lt_of_cell? w _ hx238_2)).trans hx238_2
                        replace hx238_3 := (HB.out.cell (World.block_lt_of_cell? w _ hx238_3)).trans hx238_3
                        replace hx238_4 := (HB.out.cell (World.block_lt_of_cell? w _ hx238_4)).trans hx238_4
                        replace hx238_5 := (HB.out.cell (World.block_lt_of_cell? w _ hx238_5)).trans hx238_5
                        replace hx238_6 := (HB.out.cell (World.block_lt_of_cell? w _ hx238_6)).trans hx238_6
                        replace hx238_7 := (HB.out.cell (World.block_lt_of_cell? w _ hx238_7)).trans hx238_7
                        replace hx238_8 := (HB.out.cell (World.block_lt_of_cell? w _ hx238_8)).trans hx238_8
                        replace hx238_9 := (HB.out.cell (World.block_lt_of_cell? w _ hx238_9)).trans hx238_9
                        replace hx238_0 := (cell_far (p := ⟨go16, ((ji11) : Int).toNat * 2, none⟩) (by first | (rw [add_block]; exact hn238_0) | (show (Addr.add _ _).block ≠ _; rw [add_block]; exact hn238_0) | exact hn238_0) (.int .i64 (wrap64 (((rd_T37 x5_1 (ji11)).f0) + ((rd_T44 l0 x7_1).f0))))).trans hx238_0
                        replace hx238_1 := (cell_far (p := ⟨go16, ((ji11) : Int).toNat * 2, none⟩) (by first | (rw [add_block]; exact hn238_0) | (show (Addr.add _ _).block ≠ _; rw [add_block]; exact hn238_0) | exact hn238_0) (.int .i64 (wrap64 (((rd_T37 x5_1 (ji11)).f0) + ((rd_T44 l0 x7_1).f0))))).trans hx238_1
                        replace hx238_2 := (cell_far (p := ⟨go16, ((ji11) : Int).toNat * 2, none⟩) (by first | (rw [add_block]; exact hn238_0) | (show (Addr.add _ _).block ≠ _; rw [add_block]; exact hn238_0) | exact hn238_0) (.int .i64 (wrap64 (((rd_T37 x5_1 (ji11)).f0) + ((rd_T44 l0 x7_1).f0))))).trans hx238_2
                        replace hx238_3 := (cell_far (p := ⟨go16, ((ji11) : Int).toNat * 2, none⟩) (by first | (rw [add_block]; exact hn238_0) | (show (Addr.add _ _).block ≠ _; rw [add_block]; exact hn238_0) | exact hn238_0) (.int .i64 (wrap64 (((rd_T37 x5_1 (ji11)).f0) + ((rd_T44 l0 x7_1).f0))))).trans hx238_3
                        replace hx238_4 := (cell_far (p := ⟨go16, ((ji11) : Int).toNat * 2, none⟩) (by first | (rw [add_block]; exact hn238_0) | (show (Addr.add _ _).block ≠ _; rw [add_block]; exact hn238_0) | exact hn238_0) (.int .i64 (wrap64 (((rd_T37 x5_1 (ji11)).f0) + ((rd_T44 l0 x7_1).f0))))).trans hx238_4
                        replace hx238_5 := (cell_far (p := ⟨go16, ((ji11) : Int).toNat * 2, none⟩) (by first | (rw [add_block]; exact hn238_0) | (show (Addr.add _ _).block ≠ _; rw [add_block]; exact hn238_0) | exact hn238_0) (.int .i64 (wrap64 (((rd_T37 x5_1 (ji11)).f0) + ((rd_T44 l0 x7_1).f0))))).trans hx238_5
                        replace hx238_6 := (cell_far (p := ⟨go16, ((ji11) : Int).toNat * 2, none⟩) (by first | (rw [add_block]; exact hn238_0) | (show (Addr.add _ _).block ≠ _; rw [add_block]; exact hn238_0) | exact hn238_0) (.int .i64 (wrap64 (((rd_T37 x5_1 (ji11)).f0) + ((rd_T44 l0 x7_1).f0))))).trans hx238_6
                        replace hx238_7 := (cell_far (p := ⟨go16, ((ji11) : Int).toNat * 2, none⟩) (by first | (rw [add_block]; exact hn238_0) | (show (Addr.add _ _).block ≠ _; rw [add_block]; exact hn238_0) | exact hn238_0) (.int .i64 (wrap64 (((rd_T37 x5_1 (ji11)).f0) + ((rd_T44 l0 x7_1).f0))))).trans hx238_7
                        replace hx238_8 := (cell_far (p := ⟨go16, ((ji11) : Int).toNat * 2, none⟩) (by first | (rw [add_block]; exact hn238_0) | (show (Addr.add _ _).block ≠ _; rw [add_block]; exact hn238_0) | exact hn238_0) (.int .i64 (wrap64 (((rd_T37 x5_1 (ji11)).f0) + ((rd_T44 l0 x7_1).f0))))).trans hx238_8
                        replace hx238_9 := (cell_far (p := ⟨go16, ((ji11) : Int).toNat * 2, none⟩) (by first | (rw [add_block]; exact hn238_0) | (show (Addr.add _ _).block ≠ _; rw [add_block]; exact hn238_0) | exact hn238_0) (.int .i64 (wrap64 (((rd_T37 x5_1 (ji11)).f0) + ((rd_T44 l0 x7_1).f0))))).trans hx238_9
                        clear hn238_0
                        replace p238 := eq_true p238
                        replace q238 := eq_true q238
                        try go_wp2
                        go_roundg kj4
                        case measure => have := HK1.out; have := HJ4.out; omega
                        case rel => (try rw [← Nbq8.out]); exact ⟨(y237), ((rd_T44 l0 x7_1).f2), (wrap64 (x7_1 + 1)), (by first | rfl | (simp; done) | (simp [*]; done)), (by first | rfl | (simp; done) | (simp [*]; done)), H', ⟨by have := HK1.out; have := HJ4.out; omega⟩, ⟨by (with_reducible repeat (first | apply Kd.R_alloc | apply Kd.R_drewN | apply Kd.R_drew)); exact HQ18.out⟩, ⟨by repeat (first | (with_reducible first | exact HB.out | apply below_alloc | apply pw_below_drewN | apply below_drew1 | refine below_set ?_ GB16.out) | exact HB.out)⟩⟩
                      · rw [if_neg c15] at H
                        exact absurd H (by simp)
                    · rw [if_neg c14] at H
                      exact absurd H (by simp)
                  · rw [if_neg c13] at H
                    exact absurd H (by simp)
                · rw [if_neg c12] at H
                  exact absurd H (by simp)
              · replace c10 := Bool.eq_false_iff.mpr c10
                subst c10
                have H1 : (if 0 ≤ x7_1 then (if x7_1 < (l0.length : Int) then (if (rd_T44 l0 x7_1).f2 = true then (if x5_1.length < 8796093022208 then (vesperref12_Heard.l0 kj4 l0 (x5_1 ++ [(⟨(rd_T44 l0 x7_1).f0, 0⟩ : S37)]) ((rd_T44 l0 x7_1).f2) (wrap64 (x7_1 + 1))) else (none)) else (if (x5_1.length : Int) > 0 then (if 0 ≤ (wrap64 ((x5_1.length : Int) - 1)) then (if (wrap64 ((x5_1.length : Int) - 1)) < (x5_1.length : Int) then (vesperref12_Heard.l0 kj4 l0 (x5_1.set ((wrap64 ((x5_1.length : Int) - 1)) : Int).toNat (⟨(rd_T37 x5_1 (wrap64 ((x5_1.length : Int) - 1))).f0, wrap64 (((rd_T37 x5_1 (wrap64 ((x5_1.length : Int) - 1))).f1) + ((rd_T44 l0 x7_1).f0))⟩ : S37)) ((rd_T44 l0 x7_1).f2) (wrap64 (x7_1 + 1))) else (none)) else (none)) else (vesperref12_Heard.l0 kj4 l0 x5_1 ((rd_T44 l0 x7_1).f2) (wrap64 (x7_1 + 1))))) else (none)) else (none)) = some (r1, r2) := by rw [if_neg (show ¬ (false = true) by decide)] at H; exact H
                clear H
                have H := H1
                clear H1
                by_cases c19 : 0 ≤ x7_1
                · rw [if_pos c19] at H
                  have c19b0 : decide (0 ≤ x7_1) = true := decide_eq_true c19
                  clear c19
                  by_cases c20 : x7_1 < (l0.length : Int)
                  · rw [if_pos c20] at H
                    have c20b0 : decide (x7_1 < (l0.length : Int)) = true := decide_eq_true c20
                    clear c20
                    obtain ⟨bq21, hbq21⟩ : ∃ b_ : Bool, b_ = ((rd_T44 l0 x7_1).f2) := ⟨_, rfl⟩
                    replace H : (if bq21 = true then (if x5_1.length < 8796093022208 then (vesperref12_Heard.l0 kj4 l0 (x5_1 ++ [(⟨(rd_T44 l0 x7_1).f0, 0⟩ : S37)]) bq21 (wrap64 (x7_1 + 1))) else (none)) else (if (x5_1.length : Int) > 0 then (if 0 ≤ (wrap64 ((x5_1.length : Int) - 1)) then (if (wrap64 ((x5_1.length : Int) - 1)) < (x5_1.length : Int) then (vesperref12_Heard.l0 kj4 l0 (x5_1.set ((wrap64 ((x5_1.length : Int) - 1)) : Int).toNat (⟨(rd_T37 x5_1 (wrap64 ((x5_1.length : Int) - 1))).f0, wrap64 (((rd_T37 x5_1 (wrap64 ((x5_1.length : Int) - 1))).f1) + ((rd_T44 l0 x7_1).f0))⟩ : S37)) bq21 (wrap64 (x7_1 + 1))) else (none)) else (none)) else (vesperref12_Heard.l0 kj4 l0 x5_1 bq21 (wrap64 (x7_1 + 1))))) = some (r1, r2) := by rw [← hbq21] at H; exact H
                    have Nbq21 := Aside0.mk hbq21
                    clear hbq21
                    by_cases c22 : bq21 = true
                    · subst c22
                      have H1 : (if x5_1.length < 8796093022208 then (vesperref12_Heard.l0 kj4 l0 (x5_1 ++ [(⟨(rd_T44 l0 x7_1).f0, 0⟩ : S37)]) true (wrap64 (x7_1 + 1))) else (none)) = some (r1, r2) := by rw [if_pos rfl] at H; exact H
                      clear H
                      have H := H1
                      clear H1
                      by_cases c23 : x5_1.length < 8796093022208
                      · rw [if_pos c23] at H
                        have LMc23 := Aside0.mk c23
                        clear c23
                        obtain ⟨y241, hy241⟩ : ∃ y_ : List (S37), y_ = (x5_1 ++ [(⟨(rd_T44 l0 x7_1).f0, 0⟩ : S37)]) := ⟨_, rfl⟩
                        replace H : (vesperref12_Heard.l0 kj4 l0 y241 true (wrap64 (x7_1 + 1))) = some (r1, r2) := by first | (rw [hy241]; with_reducible exact H) | (have H2_ := (Option.bind_some _ _).symm.trans H; rw [hy241]; with_reducible exact H2_) | (have H2_ := (Option.bind_some _ _).symm.trans H; with_reducible exact H2_) | with_reducible exact H | (rw [hy241]; exact H) | exact H
                        have Ny241 := Aside0.mk hy241
                        clear hy241
                        have H' := Aside0.mk H
                        clear H
                        have p239 : 0 ≤ (x7_1 : Int) := of_decide_eq_true (by first | (with_reducible assumption) | assumption)
                        have q239 : x7_1 < (l0.length : Int) := of_decide_eq_true (by first | (with_reducible assumption) | assumption)
                        obtain ⟨ad239, e239, hx239_0, hx239_1, hx239_2, hx239_3, hx239_4, hx239_5, hx239_6, hx239_7, hx239_8, hx239_9⟩ := at_T44 HR0.out x7_1 p239 q239
                        (try rw [← Nbq21.out] at hx239_2)
                        (try rw [← Nbq21.out] at hx239_3)
                        (try rw [← Nbq21.out] at hx239_4)
                        (try rw [← Nbq21.out] at hx239_5)
                        (try rw [← Nbq21.out] at hx239_6)
                        (try rw [← Nbq21.out] at hx239_7)
                        (try rw [← Nbq21.out] at hx239_8)
                        cases e239
                        replace hx239_0 := (HB.out.cell (World.block_lt_of_cell? w _ hx239_0)).trans hx239_0
                        replace hx239_1 := (HB.out.cell (World.block_lt_of_cell? w _ hx239_1)).trans hx239_1
                        replace hx239_2 := (HB.out.cell (World.block_lt_of_cell? w _ hx239_2)).trans hx239_2
                        replace hx239_3 := (HB.out.cell (World.block_lt_of_cell? w _ hx239_3)).trans hx239_3
                        replace hx239_4 := (HB.out.cell (World.block_lt_of_cell? w _ hx239_4)).trans hx239_4
                        replace hx239_5 := (HB.out.cell (World.block_lt_of_cell? w _ hx239_5)).trans hx239_5
                        replace hx239_6 := (HB.out.cell (World.block_lt_of_cell? w _ hx239_6)).trans hx239_6
                        replace hx239_7 := (HB.out.cell (World.block_lt_of_cell? w _ hx239_7)).trans hx239_7
                        replace hx239_8 := (HB.out.cell (World.block_lt_of_cell? w _ hx239_8)).trans hx239_8
                        replace hx239_9 := (HB.out.cell (World.block_lt_of_cell? w _ hx239_9)).trans hx239_9
                        replace p239 := eq_true p239
                        replace q239 := eq_true q239
                        have p240 : 0 ≤ (x7_1 : Int) := of_decide_eq_true (by first | (with_reducible assumption) | assumption)
                        have q240 : x7_1 < (l0.length : Int) := of_decide_eq_true (by first | (with_reducible assumption) | assumption)
                        obtain ⟨ad240, e240, hx240_0, hx240_1, hx240_2, hx240_3, hx240_4, hx240_5, hx240_6, hx240_7, hx240_8, hx240_9⟩ := at_T44 HR0.out x7_1 p240 q240
                        (try rw [← Nbq21.out] at hx240_2)
                        (try rw [← Nbq21.out] at hx240_3)
                        (try rw [← Nbq21.out] at hx240_4)
                        (try rw [← Nbq21.out] at hx240_5)
                        (try rw [← Nbq21.out] at hx240_6)
                        (try rw [← Nbq21.out] at hx240_7)
                        (try rw [← Nbq21.out] at hx240_8)
                        obtain rfl : ad239 = ad240 := (by injection e240)
                        replace hx240_0 := (HB.out.cell (World.block_lt_of_cell? w _ hx240_0)).trans hx240_0
                        replace hx240_1 := (HB.out.cell (World.block_lt_of_cell? w _ hx240_1)).trans hx240_1
                        replace hx240_2 := (HB.out.cell (World.block_lt_of_cell? w _ hx240_2)).trans hx240_2
                        replace hx240_3 := (HB.out.cell (World.block_lt_of_cell? w _ hx240_3)).trans hx240_3
                        replace hx240_4 := (HB.out.cell (World.block_lt_of_cell? w _ hx240_4)).trans hx240_4
                        replace hx240_5 := (HB.out.cell (World.block_lt_of_cell? w _ hx240_5)).trans hx240_5
                        replace hx240_6 := (HB.out.cell (World.block_lt_of_cell? w _ hx240_6)).trans hx240_6
                        replace hx240_7 := (HB.out.cell (World.block_lt_of_cell? w _ hx240_7)).trans hx240_7
                        replace hx240_8 := (HB.out.cell (World.block_lt_of_cell? w _ hx240_8)).trans hx240_8
                        replace hx240_9 := (HB.out.cell (World.block_lt_of_cell? w _ hx240_9)).trans hx240_9
                        replace p240 := eq_true p240
                        replace q240 := eq_true q240
                        go_wp2_with (first | ((with_reducible refine gate_builtin (b := .append) (xs := #[.tmp 54, .tmp 61]) rfl ?_); at_builtin; refine Kd.R_append k37 (w0 := w) w.heap.size rfl (.tmp 54) (.tmp 61) 24 37 (.agg #[(.int .i64 0), (.int .i64 0)]) 16 rfl Tryd.underlying24 info37 rfl (by decide) (by omega) (.slice Ao6 x5_1.length co6) x5_1 (⟨(rd_T44 l0 x7_1).f0, 0⟩ : S37) [.int .i64 ((rd_T44 l0 x7_1).f0), .int .i64 0] (fun _ => True) (fun _ => False) rfl rfl ?aP (fun _ hk => hk.elim) ?aF ?aO ?aB ?aS ?aL ?_; (case aP => exact k37_mkM _ _ _ (⟨(rd_T44 l0 x7_1).f0, 0⟩ : S37)); (case aB => exact (by repeat (first | (with_reducible first | exact HB.out | apply below_alloc | apply pw_below_drewN | apply below_drew1) | exact HB.out))); (case aF => exact (fun _ _ => trivial)); (case aO => exact (by (with_reducible repeat (first | apply Kd.R_alloc | apply Kd.R_drewN | apply Kd.R_drew)); exact HO_5.out)); (case aS => exact (below_size (by repeat (first | (with_reducible first | exact HB.out | apply below_alloc | apply pw_below_drewN | apply below_drew1) | exact HB.out)))); (case aL => have := LMc23.out; omega); intro v242 w24 ho hb hg hat; rw [← Ny241.out] at ho; have n0_ := Aside0.mk (hb); have n1_ := Aside0.mk (ho); clear HB; clear HO_5; have HB := n0_; have HO243 := n1_; clear n0_ n1_; clear ho hb hg hat; have p244 : 0 ≤ (x7_1 : Int) := of_decide_eq_true (by first | (with_reducible assumption) | assumption); have q244 : x7_1 < (l0.length : Int) := of_decide_eq_true (by first | (with_reducible assumption) | assumption); obtain ⟨ad244, e244, hx244_0, hx244_1, hx244_2, hx244_3, hx244_4, hx244_5, hx244_6, hx244_7, hx244_8, hx244_9⟩ := at_T44 HR0.out x7_1 p244 q244; (try rw [← Nbq21.out] at hx244_2); (try rw [← Nbq21.out] at hx244_3); (try rw [← Nbq21.out] at hx244_4); (try rw [← Nbq21.out] at hx244_5); (try rw [← Nbq21.out] at hx244_6); (try rw [← Nbq21.out] at hx244_7); (try rw [← Nbq21.out] at hx244_8); obtain rfl : ad239 = ad244 := (by injection e244); replace hx244_0 := (HB.out.cell (World.block_lt_of_cell? w _ hx244_0)).trans hx244_0; replace hx244_1 := (HB.out.cell (World.block_lt_of_cell? w _ hx244_1)).trans hx244_1; replace hx244_2 := (HB.out.cell (World.block_lt_of_cell? w _ hx244_2)).trans hx244_2; replace hx244_3 := (HB.out.cell (World.block_lt_of_cell? w _ hx244_3)).trans hx244_3; replace hx244_4 := (HB.out.cell (World.block_lt_of_cell? w _ hx244_4)).trans hx244_4; replace hx244_5 := (HB.out.cell (World.block_lt_of_cell? w _ hx244_5)).trans hx244_5; replace hx244_6 := (HB.out.cell (World.block_lt_of_cell? w _ hx244_6)).trans hx244_6; replace hx244_7 := (HB.out.cell (World.block_lt_of_cell? w _ hx244_7)).trans hx244_7; replace hx244_8 := (HB.out.cell (World.block_lt_of_cell? w _ hx244_8)).trans hx244_8; replace hx244_9 := (HB.out.cell (World.block_lt_of_cell? w _ hx244_9)).trans hx244_9; replace p244 := eq_true p244; replace q244 := eq_true q244))
                        go_roundg kj4
                        case measure => have := HK1.out; have := HJ4.out; omega
                        case rel => (try rw [← Nbq21.out]); (try rw [← Nbq8.out]); exact ⟨(y241), (true), (wrap64 (x7_1 + 1)), (by first | rfl | (simp; done) | (simp [*]; done)), (by first | rfl | (simp; done) | (simp [*]; done)), H', ⟨by have := HK1.out; have := HJ4.out; omega⟩, ⟨by (with_reducible repeat (first | apply Kd.R_alloc | apply Kd.R_drewN | apply Kd.R_drew)); exact HO243.out⟩, ⟨by repeat (first | (with_reducible first | exact HB.out | apply below_alloc | apply pw_below_drewN | apply below_drew1) | exact HB.out)⟩⟩
                      · rw [if_neg c23] at H
                        exact absurd H (by simp)
                    · replace c22 := Bool.eq_false_iff.mpr c22
                      subst c22
                      have H1 : (if (x5_1.length : Int) > 0 then (if 0 ≤ (wrap64 ((x5_1.length : Int) - 1)) then (if (wrap64 ((x5_1.length : Int) - 1)) < (x5_1.length : Int) then (vesperref12_Heard.l0 kj4 l0 (x5_1.set ((wrap64 ((x5_1.length : Int) - 1)) : Int).toNat (⟨(rd_T37 x5_1 (wrap64 ((x5_1.length : Int) - 1))).f0, wrap64 (((rd_T37 x5_1 (wrap64 ((x5_1.length : Int) - 1))).f1) + ((rd_T44 l0 x7_1).f0))⟩ : S37)) false (wrap64 (x7_1 + 1))) else (none)) else (none)) else (vesperref12_Heard.l0 kj4 l0 x5_1 false (wrap64 (x7_1 + 1)))) = some (r1, r2) := by rw [if_neg (show ¬ (false = true) by decide)] at H; exact H
                      clear H
                      have H := H1
                      clear H1
                      by_cases c25 : (x5_1.length : Int) > 0
                      · rw [if_pos c25] at H
                        have c25b0 : decide (0 < (x5_1.length : Int)) = true := decide_eq_true c25
                        have c25b1 : decide (0 < x5_1.length) = true := decide_eq_true (by omega)
                        clear c25
                        obtain ⟨ji26, hji26⟩ : ∃ j_ : Int, (wrap64 ((x5_1.length : Int) - 1)) = j_ := ⟨_, rfl⟩
                        replace H : (if 0 ≤ (ji26) then (if (ji26) < (x5_1.length : Int) then (vesperref12_Heard.l0 kj4 l0 (x5_1.set ((ji26) : Int).toNat (⟨(rd_T37 x5_1 (ji26)).f0, wrap64 (((rd_T37 x5_1 (ji26)).f1) + ((rd_T44 l0 x7_1).f0))⟩ : S37)) false (wrap64 (x7_1 + 1))) else (none)) else (none)) = some (r1, r2) := by first | (rw [hji26] at H; exact H) | (simp only [hji26] at H ⊢; exact H)
                        have hji26w : (IntKind.i64.wrap ((x5_1.length : Int) - 1)) = ji26 := (i64_w _).trans hji26
                        by_cases c27 : 0 ≤ (ji26)
                        · rw [if_pos c27] at H
                          have c27b0 : decide (0 ≤ (ji26)) = true := decide_eq_true c27
                          clear c27
                          by_cases c28 : (ji26) < (x5_1.length : Int)
                          · rw [if_pos c28] at H
                            have c28b0 : decide ((ji26) < (x5_1.length : Int)) = true := decide_eq_true c28
                            clear c28
                            obtain ⟨y247, hy247⟩ : ∃ y_ : List (S37), y_ = (x5_1.set ((ji26) : Int).toNat (⟨(rd_T37 x5_1 (ji26)).f0, wrap64 (((rd_T37 x5_1 (ji26)).f1) + ((rd_T44 l0 x7_1).f0))⟩ : S37)) := ⟨_, rfl⟩
                            replace H : (vesperref12_Heard.l0 kj4 l0 y247 false (wrap64 (x7_1 + 1))) = some (r1, r2) := by first | (rw [hy247]; with_reducible exact H) | (have H2_ := (Option.bind_some _ _).symm.trans H; rw [hy247]; with_reducible exact H2_) | (have H2_ := (Option.bind_some _ _).symm.trans H; with_reducible exact H2_) | with_reducible exact H | (rw [hy247]; exact H) | exact H
                            have Ny247 := Aside0.mk hy247
                            clear hy247
                            have H' := Aside0.mk H
                            clear H
                            have p239 : 0 ≤ (x7_1 : Int) := of_decide_eq_true (by first | (with_reducible assumption) | assumption)
                            have q239 : x7_1 < (l0.length : Int) := of_decide_eq_true (by first | (with_reducible assumption) | assumption)
                            obtain ⟨ad239, e239, hx239_0, hx239_1, hx239_2, hx239_3, hx239_4, hx239_5, hx239_6, hx239_7, hx239_8, hx239_9⟩ := at_T44 HR0.out x7_1 p239 q239
                            (try rw [← Nbq21.out] at hx239_2)
                            (try rw [← Nbq21.out] at hx239_3)
                            (try rw [← Nbq21.out] at hx239_4)
                            (try rw [← Nbq21.out] at hx239_5)
                            (try rw [← Nbq21.out] at hx239_6)
                            (try rw [← Nbq21.out] at hx239_7)
                            (try rw [← Nbq21.out] at hx239_8)
                            cases e239
                            replace hx239_0 := (HB.out.cell (World.block_lt_of_cell? w _ hx239_0)).trans hx239_0
                            replace hx239_1 := (HB.out.cell (World.block_lt_of_cell? w _ hx239_1)).trans hx239_1
                            replace hx239_2 := (HB.out.cell (World.block_lt_of_cell? w _ hx239_2)).trans hx239_2
                            replace hx239_3 := (HB.out.cell (World.block_lt_of_cell? w _ hx239_3)).trans hx239_3
                            replace hx239_4 := (HB.out.cell (World.block_lt_of_cell? w _ hx239_4)).trans hx239_4
                            replace hx239_5 := (HB.out.cell (World.block_lt_of_cell? w _ hx239_5)).trans hx239_5
                            replace hx239_6 := (HB.out.cell (World.block_lt_of_cell? w _ hx239_6)).trans hx239_6
                            replace hx239_7 := (HB.out.cell (World.block_lt_of_cell? w _ hx239_7)).trans hx239_7
                            replace hx239_8 := (HB.out.cell (World.block_lt_of_cell? w _ hx239_8)).trans hx239_8
                            replace hx239_9 := (HB.out.cell (World.block_lt_of_cell? w _ hx239_9)).trans hx239_9
                            replace p239 := eq_true p239
                            replace q239 := eq_true q239
                            try go_wp2
                            have n0_ := Aside0.mk (Kd.R_drew HO_5.out)
                            have n1_ := Aside0.mk (below_drew1 HB.out)
                            clear HO_5
                            clear HB
                            have HO_5 := n0_
                            have HB := n1_
                            clear n0_ n1_
                            have p245 : 0 ≤ ((ji26) : Int) := of_decide_eq_true (by first | (with_reducible assumption) | assumption)
                            have q245 : (ji26) < (x5_1.length : Int) := of_decide_eq_true (by first | (with_reducible assumption) | assumption)
                            obtain ⟨ad245, e245, hx245_0, hx245_1⟩ := at_T37 (Kd.R_reads' HO_5.out).2.2 (ji26) p245 q245
                            cases e245
                            replace p245 := eq_true p245
                            replace q245 := eq_true q245
                            have p246 : 0 ≤ (x7_1 : Int) := of_decide_eq_true (by first | (with_reducible assumption) | assumption)
                            have q246 : x7_1 < (l0.length : Int) := of_decide_eq_true (by first | (with_reducible assumption) | assumption)
                            obtain ⟨ad246, e246, hx246_0, hx246_1, hx246_2, hx246_3, hx246_4, hx246_5, hx246_6, hx246_7, hx246_8, hx246_9⟩ := at_T44 HR0.out x7_1 p246 q246
                            have hw246_9 := hx246_9
                            have hw246_8 := hx246_8
                            have hw246_7 := hx246_7
                            have hw246_6 := hx246_6
                            have hw246_5 := hx246_5
                            have hw246_4 := hx246_4
                            have hw246_3 := hx246_3
                            have hw246_2 := hx246_2
                            have hw246_1 := hx246_1
                            have hw246_0 := hx246_0
                            (try rw [← Nbq21.out] at hx246_2)
                            (try rw [← Nbq21.out] at hw246_2)
                            (try rw [← Nbq21.out] at hx246_3)
                            (try rw [← Nbq21.out] at hw246_3)
                            (try rw [← Nbq21.out] at hx246_4)
                            (try rw [← Nbq21.out] at hw246_4)
                            (try rw [← Nbq21.out] at hx246_5)
                            (try rw [← Nbq21.out] at hw246_5)
                            (try rw [← Nbq21.out] at hx246_6)
                            (try rw [← Nbq21.out] at hw246_6)
                            (try rw [← Nbq21.out] at hx246_7)
                            (try rw [← Nbq21.out] at hw246_7)
                            (try rw [← Nbq21.out] at hx246_8)
                            (try rw [← Nbq21.out] at hw246_8)
                            obtain rfl : ad239 = ad246 := (by injection e246)
                            replace hx246_0 := (HB.out.cell (World.block_lt_of_cell? w _ hx246_0)).trans hx246_0
                            replace hx246_1 := (HB.out.cell (World.block_lt_of_cell? w _ hx246_1)).trans hx246_1
                            replace hx246_2 := (HB.out.cell (World.block_lt_of_cell? w _ hx246_2)).trans hx246_2
                            replace hx246_3 := (HB.out.cell (World.block_lt_of_cell? w _ hx246_3)).trans hx246_3
                            replace hx246_4 := (HB.out.cell (World.block_lt_of_cell? w _ hx246_4)).trans hx246_4
                            replace hx246_5 := (HB.out.cell (World.block_lt_of_cell? w _ hx246_5)).trans hx246_5
                            replace hx246_6 := (HB.out.cell (World.block_lt_of_cell? w _ hx246_6)).trans hx246_6
                            replace hx246_7 := (HB.out.cell (World.block_lt_of_cell? w _ hx246_7)).trans hx246_7
                            replace hx246_8 := (HB.out.cell (World.block_lt_of_cell? w _ hx246_8)).trans hx246_8
                            replace hx246_9 := (HB.out.cell (World.block_lt_of_cell? w _ hx246_9)).trans hx246_9
                            replace p246 := eq_true p246
                            replace q246 := eq_true q246
                            have p29 : 0 ≤ ((ji26) : Int) := of_decide_eq_true (by first | (with_reducible assumption) | assumption)
                            have q29 : ((ji26) : Int) < ((x5_1.length : Int) : Int) := of_decide_eq_true (by first | (with_reducible assumption) | assumption)
                            obtain ⟨go29, co29, eo29, gb29, gl29, cl29, HG29⟩ := Kd.R_form HO_5.out (by omega)
                            (first | cases eo29 | (injection eo29 with ea_ en_ ec_; (first | subst ea_ | (injection ea_ with ea_; subst ea_)); subst ec_; clear en_))
                            have GB29 := Aside0.mk gb29
                            have GG29 := Aside0.mk HG29
                            clear gb29 gl29 HG29
                            (first | simp only [add_plain] at hx245_0 | skip)
                            (first | simp only [add_plain] at hx245_1 | skip)
                            obtain ⟨ce29, hcl29, hM29, hcc29, hfr29⟩ := Kd.R_elem HO_5.out z37 ((ji26) : Int) p29 q29
                            obtain rfl := k37_openM hM29
                            have hx29_0 : World.cell? _ ⟨go29, ((ji26) : Int).toNat * 2, none⟩ = some (.int .i64 ((rd_T37 x5_1 (ji26)).f0)) := hcc29 0 _ rfl
                            have hx29_1 : World.cell? _ ⟨go29, ((ji26) : Int).toNat * 2 + 1, none⟩ = some (.int .i64 ((rd_T37 x5_1 (ji26)).f1)) := hcc29 1 _ rfl
                            have hf29_0 : World.frozen? _ ⟨go29, ((ji26) : Int).toNat * 2, none⟩ = false := hfr29 0
                            have hf29_1 : World.frozen? _ ⟨go29, ((ji26) : Int).toNat * 2 + 1, none⟩ = false := hfr29 1
                            clear hcl29 hcc29 hfr29 hM29
                            replace p29 := eq_true p29
                            replace q29 := eq_true q29
                            obtain ⟨ce31, hcl31, hM31, hcc31, hfr31⟩ := Kd.R_elem HO_5.out z37 ((ji26) : Int) (of_decide_eq_true (by first | (with_reducible assumption) | assumption)) (by have h_ : ((ji26) : Int) < ((x5_1.length : Int) : Int) := of_decide_eq_true (by first | (with_reducible assumption) | assumption); first | exact h_ | (have e_ := (Kd.R_reads' HO_5.out).1; omega) | simpa using h_)
                            obtain rfl := k37_openM hM31
                            have HP31 := (Kd.R_seg HO_5.out ((ji26) : Int) (of_decide_eq_true (by first | (with_reducible assumption) | assumption)) (by have h_ : ((ji26) : Int) < ((x5_1.length : Int) : Int) := of_decide_eq_true (by first | (with_reducible assumption) | assumption); first | exact h_ | (have e_ := (Kd.R_reads' HO_5.out).1; omega) | simpa using h_) (seg := [.int .i64 (wrap64 (((rd_T37 x5_1 (ji26)).f1) + ((rd_T44 l0 x7_1).f0)))]) (j := 1) hcl31 hcc31 (show 2 ≤ 2 from by decide) (x' := (⟨(rd_T37 x5_1 (ji26)).f0, wrap64 (((rd_T37 x5_1 (ji26)).f1) + ((rd_T44 l0 x7_1).f0))⟩ : S37)) (k37_mkM _ _ _ (⟨(rd_T37 x5_1 (ji26)).f0, wrap64 (((rd_T37 x5_1 (ji26)).f1) + ((rd_T44 l0 x7_1).f0))⟩ : S37) ) (fun _ hk => hk)).1
                            rw [← Ny247.out] at HP31
                            have HQ31 := Aside0.mk HP31
                            clear hcl31 hcc31 hfr31 hM31 HP31
                            refine start_ (n := 18) (S := fun w' => w'.cell? ⟨go29, ((ji26) : Int).toNat * 2, none⟩ = some (.int .i64 ((rd_T37 x5_1 (ji26)).f0)) ∧ w'.cell? ⟨go29, ((ji26) : Int).toNat * 2 + 1, none⟩ = some (.int .i64 ((rd_T37 x5_1 (ji26)).f1)) ∧ w'.cell? (ad239.add ((x7_1).toNat * 10)) = some (.int .i64 ((rd_T44 l0 x7_1).f0)) ∧ w'.cell? ⟨(ad239.add ((x7_1).toNat * 10)).block, (ad239.add ((x7_1).toNat * 10)).off + 1, none⟩ = some (.int .u16 ((rd_T44 l0 x7_1).f1)) ∧ w'.cell? ⟨(ad239.add ((x7_1).toNat * 10)).block, (ad239.add ((x7_1).toNat * 10)).off + 2, none⟩ = some (.bool (false)) ∧ w'.cell? ⟨(ad239.add ((x7_1).toNat * 10)).block, (ad239.add ((x7_1).toNat * 10)).off + 3, none⟩ = some (.bool ((rd_T44 l0 x7_1).f3)) ∧ w'.cell? ⟨(ad239.add ((x7_1).toNat * 10)).block, (ad239.add ((x7_1).toNat * 10)).off + 4, none⟩ = some (.bool ((rd_T44 l0 x7_1).f4)) ∧ w'.cell? ⟨(ad239.add ((x7_1).toNat * 10)).block, (ad239.add ((x7_1).toNat * 10)).off + 5, none⟩ = some (.bool ((rd_T44 l0 x7_1).f5)) ∧ w'.cell? ⟨(ad239.add ((x7_1).toNat * 10)).block, (ad239.add ((x7_1).toNat * 10)).off + 6, none⟩ = some (.bool ((rd_T44 l0 x7_1).f6)) ∧ w'.cell? ⟨(ad239.add ((x7_1).toNat * 10)).block, (ad239.add ((x7_1).toNat * 10)).off + 7, none⟩ = some (.bool ((rd_T44 l0 x7_1).f7)) ∧ w'.cell? ⟨(ad239.add ((x7_1).toNat * 10)).block, (ad239.add ((x7_1).toNat * 10)).off + 8, none⟩ = some (.bool ((rd_T44 l0 x7_1).f8)) ∧ w'.cell? ⟨(ad239.add ((x7_1).toNat * 10)).block, (ad239.add ((x7_1).toNat * 10)).off + 9, none⟩ = some (.int .u8 ((rd_T44 l0 x7_1).f9))) (ds := [17]) #[false, false, false, false, false, false, false, false, false, false, false, false, false, false, false, false, false, false] (by kernel_rfl) rfl rfl ⟨hx245_0, hx245_1, ((HB.out.cell (World.block_lt_of_cell? w _ hw246_0)).trans hw246_0), ((HB.out.cell (World.block_lt_of_cell? w _ hw246_1)).trans hw246_1), ((HB.out.cell (World.block_lt_of_cell? w _ hw246_2)).trans hw246_2), ((HB.out.cell (World.block_lt_of_cell? w _ hw246_3)).trans hw246_3), ((HB.out.cell (World.block_lt_of_cell? w _ hw246_4)).trans hw246_4), ((HB.out.cell (World.block_lt_of_cell? w _ hw246_5)).trans hw246_5), ((HB.out.cell (World.block_lt_of_cell? w _ hw246_6)).trans hw246_6), ((HB.out.cell (World.block_lt_of_cell? w _ hw246_7)).trans hw246_7), ((HB.out.cell (World.block_lt_of_cell? w _ hw246_8)).trans hw246_8), ((HB.out.cell (World.block_lt_of_cell? w _ hw246_9)).trans hw246_9)⟩ (fun hHeld => ?_); refine with_tabW vesperref12_Heard.tab15 vesperref12_Heard.bits15 (fun HT_ HW_ => ?_)
                            generalize wc.drew = w30 at HO_5 HB GG29 HQ31 hf29_0 hf29_1 hx245_0 hx245_1 hx246_0 hx246_1 hx246_2 hx246_3 hx246_4 hx246_5 hx246_6 hx246_7 hx246_8 hx246_9 hx29_0 hx29_1 hHeld ⊢
                            refine pure_ (i := 0) (N := some 66) (v := ?_) (a' := ?_) #[true, false, false, false, false, false, false, false, false, false, false, false, false, false, false, false, false, false] rfl rfl (any_of HT_.out (by kernel_rfl)) (fun _ _ _ h => h) (Or.inl ⟨by rfl, ?_⟩) ?_ ?_
                            rotate_left
                            · intro w'
                              go_simp
                              with_reducible rfl
                            rotate_left
                            · simp only [Act.put, List.setIfInBounds_toArray, List.set_cons_zero, List.set_cons_succ, i64_w, i32_w]
                              rfl
                            refine pure_ (i := 1) (N := some 67) (v := ?_) (a' := ?_) #[true, true, false, false, false, false, false, false, false, false, false, false, false, false, false, false, false, false] rfl rfl (any_of HT_.out (by kernel_rfl)) (fun _ _ _ h => h) (Or.inl ⟨by rfl, ?_⟩) ?_ ?_
                            rotate_left
                            · intro w'
                              go_simp
                              with_reducible rfl
                            rotate_left
                            · simp only [Act.put, List.setIfInBounds_toArray, List.set_cons_zero, List.set_cons_succ, i64_w, i32_w]
                              rfl
                            refine pure_ (i := 2) (N := some 68) (v := ?_) (a' := ?_) #[true, true, true, false, false, false, false, false, false, false, false, false, false, false, false, false, false, false] rfl rfl (any_of HT_.out (by kernel_rfl)) (fun _ _ _ h => h) (Or.inl ⟨by rfl, ?_⟩) ?_ ?_
                            rotate_left
                            · intro w'
                              go_simp
                              with_reducible rfl
                            rotate_left
                            · simp only [Act.put, List.setIfInBounds_toArray, List.set_cons_zero, List.set_cons_succ, i64_w, i32_w]
                              rfl
                            refine pure_ (i := 3) (N := some 69) (v := ?_) (a' := ?_) #[true, true, true, true, false, false, false, false, false, false, false, false, false, false, false, false, false, false] rfl rfl (any_of HT_.out (by kernel_rfl)) (fun _ _ _ h => h) (Or.inl ⟨by rfl, ?_⟩) ?_ ?_
                            rotate_left
                            · intro w'
                              go_simp
                              with_reducible rfl
                            rotate_left
                            · simp only [Act.put, List.setIfInBounds_toArray, List.set_cons_zero, List.set_cons_succ, i64_w, i32_w]
                              rfl
                            refine pure_ (i := 4) (N := some 70) (v := ?_) (a' := ?_) #[true, true, true, true, true, false, false, false, false, false, false, false, false, false, false, false, false, false] rfl rfl (any_of HT_.out (by kernel_rfl)) (fun _ _ _ h => h) (Or.inl ⟨by rfl, ?_⟩) ?_ ?_
                            rotate_left
                            · intro w'
                              go_simp
                              with_reducible rfl
                            rotate_left
                            · simp only [Act.put, List.setIfInBounds_toArray, List.set_cons_zero, List.set_cons_succ, i64_w, i32_w]
                              rfl
                            refine pure_ (i := 5) (N := some 71) (v := ?_) (a' := ?_) #[true, true, true, true, true, true, false, false, false, false, false, false, false, false, false, false, false, false] rfl rfl (any_of HT_.out (by kernel_rfl)) (fun _ _ _ h => h) (Or.inl ⟨by rfl, ?_⟩) ?_ ?_
                            rotate_left
                            · intro w'
                              go_simp
                              with_reducible rfl
                            rotate_left
                            · simp only [Act.put, List.setIfInBounds_toArray, List.set_cons_zero, List.set_cons_succ, i64_w, i32_w]
                              rfl
                            refine pure_ (i := 6) (N := some 72) (v := ?_) (a' := ?_) #[true, true, true, true, true, true, true, false, false, false, false, false, false, false, false, false, false, false] rfl rfl (any_of HT_.out (by kernel_rfl)) (fun _ _ _ h => h) (Or.inl ⟨by rfl, ?_⟩) ?_ ?_
                            rotate_left
                            · intro w'
                              go_simp
                              with_reducible rfl
                            rotate_left
                            · simp only [Act.put, List.setIfInBounds_toArray, List.set_cons_zero, List.set_cons_succ, i64_w, i32_w]
                              rfl
                            refine pure_ (i := 7) (N := some 73) (v := ?_) (a' := ?_) #[true, true, true, true, true, true, true, true, false, false, false, false, false, false, false, false, false, false] rfl rfl (any_of HT_.out (by kernel_rfl)) (fun _ _ _ h => h) (Or.inl ⟨by rfl, ?_⟩) ?_ ?_
                            rotate_left
                            · intro w'
                              go_simp
                              with_reducible rfl
                            rotate_left
                            · simp only [Act.put, List.setIfInBounds_toArray, List.set_cons_zero, List.set_cons_succ, i64_w, i32_w]
                              rfl
                            refine pure_ (i := 9) (N := some 75) (v := ?_) (a' := ?_) #[true, true, true, true, true, true, true, true, false, true, false, false, false, false, false, false, false, false] rfl rfl (any_of HT_.out (by kernel_rfl)) (fun _ _ _ h => h) (Or.inl ⟨by rfl, ?_⟩) ?_ ?_
                            rotate_left
                            · intro w'
                              go_simp
                              with_reducible rfl
                            rotate_left
                            · simp only [Act.put, List.setIfInBounds_toArray, List.set_cons_zero, List.set_cons_succ, i64_w, i32_w]
                              rfl
                            refine pure_ (i := 10) (N := some 76) (v := ?_) (a' := ?_) #[true, true, true, true, true, true, true, true, false, true, true, false, false, false, false, false, false, false] rfl rfl (any_of HT_.out (by kernel_rfl)) (fun _ _ _ h => h) (Or.inl ⟨by rfl, ?_⟩) ?_ ?_
                            rotate_left
                            · intro w'
                              go_simp
                              with_reducible rfl
                            rotate_left
                            · simp only [Act.put, List.setIfInBounds_toArray, List.set_cons_zero, List.set_cons_succ, i64_w, i32_w]
                              rfl
                            refine pure_ (i := 11) (N := some 77) (v := ?_) (a' := ?_) #[true, true, true, true, true, true, true, true, false, true, true, true, false, false, false, false, false, false] rfl rfl (any_of HT_.out (by kernel_rfl)) (fun _ _ _ h => h) (Or.inl ⟨by rfl, ?_⟩) ?_ ?_
                            rotate_left
                            · intro w'
                              go_simp
                              with_reducible rfl
                            rotate_left
                            · simp only [Act.put, List.setIfInBounds_toArray, List.set_cons_zero, List.set_cons_succ, i64_w, i32_w]
                              rfl
                            refine pure_ (i := 12) (N := some 78) (v := ?_) (a' := ?_) #[true, true, true, true, true, true, true, true, false, true, true, true, true, false, false, false, false, false] rfl rfl (any_of HT_.out (by kernel_rfl)) (fun _ _ _ h => h) (Or.inl ⟨by rfl, ?_⟩) ?_ ?_
                            rotate_left
                            · intro w'
                              go_simp
                              with_reducible rfl
                            rotate_left
                            · simp only [Act.put, List.setIfInBounds_toArray, List.set_cons_zero, List.set_cons_succ, i64_w, i32_w]
                              rfl
                            refine take_ (i := 8) (N := some 74) (v := ?_) (a' := ?_) #[true, true, true, true, true, true, true, true, true, true, true, true, true, false, false, false, false, false] rfl rfl (take_ofW HT_.out HW_.out (by kernel_rfl)) (fun _ _ _ h => h) (Or.inl ⟨by rfl, ?_⟩) hHeld ?_ ?_
                            rotate_left
                            · rintro w' ⟨s0, s1, s2, s3, s4, s5, s6, s7, s8, s9, s10, s11⟩
                              go_simp
                              with_reducible rfl
                            rotate_left
                            · simp only [Act.put, List.setIfInBounds_toArray, List.set_cons_zero, List.set_cons_succ, i64_w, i32_w]
                              rfl
                            refine take_ (i := 13) (N := some 79) (v := ?_) (a' := ?_) #[true, true, true, true, true, true, true, true, true, true, true, true, true, true, false, false, false, false] rfl rfl (take_ofW HT_.out HW_.out (by kernel_rfl)) (fun _ _ _ h => h) (Or.inl ⟨by rfl, ?_⟩) hHeld ?_ ?_
                            rotate_left
                            · rintro w' ⟨s0, s1, s2, s3, s4, s5, s6, s7, s8, s9, s10, s11⟩
                              go_simp
                              with_reducible rfl
                            rotate_left
                            · simp only [Act.put, List.setIfInBounds_toArray, List.set_cons_zero, List.set_cons_succ, i64_w, i32_w]
                              rfl
                            refine pure_ (i := 14) (N := some 80) (v := ?_) (a' := ?_) #[true, true, true, true, true, true, true, true, true, true, true, true, true, true, true, false, false, false] rfl rfl (any_of HT_.out (by kernel_rfl)) (fun _ _ _ h => h) (Or.inl ⟨by rfl, ?_⟩) ?_ ?_
                            rotate_left
                            · intro w'
                              go_simp
                              with_reducible rfl
                            rotate_left
                            · simp only [Act.put, List.setIfInBounds_toArray, List.set_cons_zero, List.set_cons_succ, i64_w, i32_w]
                              rfl
                            refine pure_ (i := 15) (N := some 81) (v := ?_) (a' := ?_) #[true, true, true, true, true, true, true, true, true, true, true, true, true, true, true, true, false, false] rfl rfl (any_of HT_.out (by kernel_rfl)) (fun _ _ _ h => h) (Or.inl ⟨by rfl, ?_⟩) ?_ ?_
                            rotate_left
                            · intro w'
                              go_simp
                              with_reducible rfl
                            rotate_left
                            · simp only [Act.put, List.setIfInBounds_toArray, List.set_cons_zero, List.set_cons_succ, i64_w, i32_w]
                              rfl
                            refine pure_ (i := 16) (N := some 82) (v := ?_) (a' := ?_) #[true, true, true, true, true, true, true, true, true, true, true, true, true, true, true, true, true, false] rfl rfl (any_of HT_.out (by kernel_rfl)) (fun _ _ _ h => h) (Or.inl ⟨by rfl, ?_⟩) ?_ ?_
                            rotate_left
                            · intro w'
                              go_simp
                              with_reducible rfl
                            rotate_left
                            · simp only [Act.put, List.setIfInBounds_toArray, List.set_cons_zero, List.set_cons_succ, i64_w, i32_w]
                              rfl
                            refine last_ (i := 17) (N := none) #[true, true, true, true, true, true, true, true, true, true, true, true, true, true, true, true, true, true] rfl rfl (one_of HT_.out (by kernel_rfl)) (by decide) (fun K hK => ?_)
                            refine skip_ (w1 := ?_) (by rfl) rfl ?_ ?_
                            rotate_left
                            · go_simp
                              rfl
                            refine hK.out _ _ ?_
                            clear hK K
                            refine done_ (done_of HT_.out (by kernel_rfl)) ?_
                            have p248 : 0 ≤ (x7_1 : Int) := of_decide_eq_true (by first | (with_reducible assumption) | assumption)
                            have q248 : x7_1 < (l0.length : Int) := of_decide_eq_true (by first | (with_reducible assumption) | assumption)
                            obtain ⟨ad248, e248, hx248_0, hx248_1, hx248_2, hx248_3, hx248_4, hx248_5, hx248_6, hx248_7, hx248_8, hx248_9⟩ := at_T44 HR0.out x7_1 p248 q248
                            (try rw [← Nbq21.out] at hx248_2)
                            (try rw [← Nbq21.out] at hx248_3)
                            (try rw [← Nbq21.out] at hx248_4)
                            (try rw [← Nbq21.out] at hx248_5)
                            (try rw [← Nbq21.out] at hx248_6)
                            (try rw [← Nbq21.out] at hx248_7)
                            (try rw [← Nbq21.out] at hx248_8)
                            obtain rfl : ad239 = ad248 := (by injection e248)
                            have hn248_0 : ad239.block ≠ go29 := Nat.ne_of_lt (Nat.lt_of_lt_of_le (by have := World.block_lt_of_cell? _ _ hx248_0; first | rwa [add_block] at this | exact this) GB29.out)
                            replace hx248_0 := (HB.out.cell (World.block_lt_of_cell? w _ hx248_0)).trans hx248_0
                            replace hx248_1 := (HB.out.cell (World.block_lt_of_cell? w _ hx248_1)).trans hx248_1
                            replace hx248_2 := (HB.out.cell (World.block_lt_of_cell? w _ hx248_2)).trans hx248_2
                            replace hx248_3 := (HB.out.cell (World.block_lt_of_cell? w _ hx248_3)).trans hx248_3
                            replace hx248_4 := (HB.out.cell (World.block_lt_of_cell? w _ hx248_4)).trans hx248_4
                            replace hx248_5 := (HB.out.cell (World.block_lt_of_cell? w _ hx248_5)).trans hx248_5
                            replace hx248_6 := (HB.out.cell (World.block_lt_of_cell? w _ hx248_6)).trans hx248_6
                            replace hx248_7 := (HB.out.cell (World.block_lt_of_cell? w _ hx248_7)).trans hx248_7
                            replace hx248_8 := (HB.out.cell (World.block_lt_of_cell? w _ hx248_8)).trans hx248_8
                            replace hx248_9 := (HB.out.cell (World.block_lt_of_cell? w _ hx248_9)).trans hx248_9
                            replace hx248_0 := (cell_far (p := ⟨go29, ((ji26) : Int).toNat * 2 + 1, none⟩) (by first | (rw [add_block]; exact hn248_0) | (show (Addr.add _ _).block ≠ _; rw [add_block]; exact hn248_0) | exact hn248_0) (.int .i64 (wrap64 (((rd_T37 x5_1 (ji26)).f1) + ((rd_T44 l0 x7_1).f0))))).trans hx248_0
                            replace hx248_1 := (cell_far (p := ⟨go29, ((ji26) : Int).toNat * 2 + 1, none⟩) (by first | (rw [add_block]; exact hn248_0) | (show (Addr.add _ _).block ≠ _; rw [add_block]; exact hn248_0) | exact hn248_0) (.int .i64 (wrap64 (((rd_T37 x5_1 (ji26)).f1) + ((rd_T44 l0 x7_1).f0))))).trans hx248_1
                            replace hx248_2 := (cell_far (p := ⟨go29, ((ji26) : Int).toNat * 2 + 1, none⟩) (by first | (rw [add_block]; exact hn248_0) | (show (Addr.add _ _).block ≠ _; rw [add_block]; exact hn248_0) | exact hn248_0) (.int .i64 (wrap64 (((rd_T37 x5_1 (ji26)).f1) + ((rd_T44 l0 x7_1).f0))))).trans hx248_2
                            replace hx248_3 := (cell_far (p := ⟨go29, ((ji26) : Int).toNat * 2 + 1, none⟩) (by first | (rw [add_block]; exact hn248_0) | (show (Addr.add _ _).block ≠ _; rw [add_block]; exact hn248_0) | exact hn248_0) (.int .i64 (wrap64 (((rd_T37 x5_1 (ji26)).f1) + ((rd_T44 l0 x7_1).f0))))).trans hx248_3
                            replace hx248_4 := (cell_far (p := ⟨go29, ((ji26) : Int).toNat * 2 + 1, none⟩) (by first | (rw [add_block]; exact hn248_0) | (show (Addr.add _ _).block ≠ _; rw [add_block]; exact hn248_0) | exact hn248_0) (.int .i64 (wrap64 (((rd_T37 x5_1 (ji26)).f1) + ((rd_T44 l0 x7_1).f0))))).trans hx248_4
                            replace hx248_5 := (cell_far (p := ⟨go29, ((ji26) : Int).toNat * 2 + 1, none⟩) (by first | (rw [add_block]; exact hn248_0) | (show (Addr.add _ _).block ≠ _; rw [add_block]; exact hn248_0) | exact hn248_0) (.int .i64 (wrap64 (((rd_T37 x5_1 (ji26)).f1) + ((rd_T44 l0 x7_1).f0))))).trans hx248_5
                            replace hx248_6 := (cell_far (p := ⟨go29, ((ji26) : Int).toNat * 2 + 1, none⟩) (by first | (rw [add_block]; exact hn248_0) | (show (Addr.add _ _).block ≠ _; rw [add_block]; exact hn248_0) | exact hn248_0) (.int .i64 (wrap64 (((rd_T37 x5_1 (ji26)).f1) + ((rd_T44 l0 x7_1).f0))))).trans hx248_6
                            replace hx248_7 := (cell_far (p := ⟨go29, ((ji26) : Int).toNat * 2 + 1, none⟩) (by first | (rw [add_block]; exact hn248_0) | (show (Addr.add _ _).block ≠ _; rw [add_block]; exact hn248_0) | exact hn248_0) (.int .i64 (wrap64 (((rd_T37 x5_1 (ji26)).f1) + ((rd_T44 l0 x7_1).f0))))).trans hx248_7
                            replace hx248_8 := (cell_far (p := ⟨go29, ((ji26) : Int).toNat * 2 + 1, none⟩) (by first | (rw [add_block]; exact hn248_0) | (show (Addr.add _ _).block ≠ _; rw [add_block]; exact hn248_0) | exact hn248_0) (.int .i64 (wrap64 (((rd_T37 x5_1 (ji26)).f1) + ((rd_T44 l0 x7_1).f0))))).trans hx248_8
                            replace hx248_9 := (cell_far (p := ⟨go29, ((ji26) : Int).toNat * 2 + 1, none⟩) (by first | (rw [add_block]; exact hn248_0) | (show (Addr.add _ _).block ≠ _; rw [add_block]; exact hn248_0) | exact hn248_0) (.int .i64 (wrap64 (((rd_T37 x5_1 (ji26)).f1) + ((rd_T44 l0 x7_1).f0))))).trans hx248_9
                            clear hn248_0
                            replace p248 := eq_true p248
                            replace q248 := eq_true q248
                            try go_wp2
                            go_roundg kj4
                            case measure => have := HK1.out; have := HJ4.out; omega
                            case rel => (try rw [← Nbq21.out]); (try rw [← Nbq8.out]); exact ⟨(y247), (false), (wrap64 (x7_1 + 1)), (by first | rfl | (simp; done) | (simp [*]; done)), (by first | rfl | (simp; done) | (simp [*]; done)), H', ⟨by have := HK1.out; have := HJ4.out; omega⟩, ⟨by (with_reducible repeat (first | apply Kd.R_alloc | apply Kd.R_drewN | apply Kd.R_drew)); exact HQ31.out⟩, ⟨by repeat (first | (with_reducible first | exact HB.out | apply below_alloc | apply pw_below_drewN | apply below_drew1 | refine below_set ?_ GB29.out) | exact HB.out)⟩⟩
                          · rw [if_neg c28] at H
                            exact absurd H (by simp)
                        · rw [if_neg c27] at H
                          exact absurd H (by simp)
                      · rw [if_neg c25] at H
                        have c25b0 : decide (0 < (x5_1.length : Int)) = false := decide_eq_false c25
                        have c25b1 : decide (0 < x5_1.length) = false := decide_eq_false (by omega)
                        clear c25
                        have H' := Aside0.mk H
                        clear H
                        have p239 : 0 ≤ (x7_1 : Int) := of_decide_eq_true (by first | (with_reducible assumption) | assumption)
                        have q239 : x7_1 < (l0.length : Int) := of_decide_eq_true (by first | (with_reducible assumption) | assumption)
                        obtain ⟨ad239, e239, hx239_0, hx239_1, hx239_2, hx239_3, hx239_4, hx239_5, hx239_6, hx239_7, hx239_8, hx239_9⟩ := at_T44 HR0.out x7_1 p239 q239
                        (try rw [← Nbq21.out] at hx239_2)
                        (try rw [← Nbq21.out] at hx239_3)
                        (try rw [← Nbq21.out] at hx239_4)
                        (try rw [← Nbq21.out] at hx239_5)
                        (try rw [← Nbq21.out] at hx239_6)
                        (try rw [← Nbq21.out] at hx239_7)
                        (try rw [← Nbq21.out] at hx239_8)
                        cases e239
                        replace hx239_0 := (HB.out.cell (World.block_lt_of_cell? w _ hx239_0)).trans hx239_0
                        replace hx239_1 := (HB.out.cell (World.block_lt_of_cell? w _ hx239_1)).trans hx239_1
                        replace hx239_2 := (HB.out.cell (World.block_lt_of_cell? w _ hx239_2)).trans hx239_2
                        replace hx239_3 := (HB.out.cell (World.block_lt_of_cell? w _ hx239_3)).trans hx239_3
                        replace hx239_4 := (HB.out.cell (World.block_lt_of_cell? w _ hx239_4)).trans hx239_4
                        replace hx239_5 := (HB.out.cell (World.block_lt_of_cell? w _ hx239_5)).trans hx239_5
                        replace hx239_6 := (HB.out.cell (World.block_lt_of_cell? w _ hx239_6)).trans hx239_6
                        replace hx239_7 := (HB.out.cell (World.block_lt_of_cell? w _ hx239_7)).trans hx239_7
                        replace hx239_8 := (HB.out.cell (World.block_lt_of_cell? w _ hx239_8)).trans hx239_8
                        replace hx239_9 := (HB.out.cell (World.block_lt_of_cell? w _ hx239_9)).trans hx239_9
                        replace p239 := eq_true p239
                        replace q239 := eq_true q239
                        have p249 : 0 ≤ (x7_1 : Int) := of_decide_eq_true (by first | (with_reducible assumption) | assumption)
                        have q249 : x7_1 < (l0.length : Int) := of_decide_eq_true (by first | (with_reducible assumption) | assumption)
                        obtain ⟨ad249, e249, hx249_0, hx249_1, hx249_2, hx249_3, hx249_4, hx249_5, hx249_6, hx249_7, hx249_8, hx249_9⟩ := at_T44 HR0.out x7_1 p249 q249
                        (try rw [← Nbq21.out] at hx249_2)
                        (try rw [← Nbq21.out] at hx249_3)
                        (try rw [← Nbq21.out] at hx249_4)
                        (try rw [← Nbq21.out] at hx249_5)
                        (try rw [← Nbq21.out] at hx249_6)
                        (try rw [← Nbq21.out] at hx249_7)
                        (try rw [← Nbq21.out] at hx249_8)
                        obtain rfl : ad239 = ad249 := (by injection e249)
                        replace hx249_0 := (HB.out.cell (World.block_lt_of_cell? w _ hx249_0)).trans hx249_0
                        replace hx249_1 := (HB.out.cell (World.block_lt_of_cell? w _ hx249_1)).trans hx249_1
                        replace hx249_2 := (HB.out.cell (World.block_lt_of_cell? w _ hx249_2)).trans hx249_2
                        replace hx249_3 := (HB.out.cell (World.block_lt_of_cell? w _ hx249_3)).trans hx249_3
                        replace hx249_4 := (HB.out.cell (World.block_lt_of_cell? w _ hx249_4)).trans hx249_4
                        replace hx249_5 := (HB.out.cell (World.block_lt_of_cell? w _ hx249_5)).trans hx249_5
                        replace hx249_6 := (HB.out.cell (World.block_lt_of_cell? w _ hx249_6)).trans hx249_6
                        replace hx249_7 := (HB.out.cell (World.block_lt_of_cell? w _ hx249_7)).trans hx249_7
                        replace hx249_8 := (HB.out.cell (World.block_lt_of_cell? w _ hx249_8)).trans hx249_8
                        replace hx249_9 := (HB.out.cell (World.block_lt_of_cell? w _ hx249_9)).trans hx249_9
                        replace p249 := eq_true p249
                        replace q249 := eq_true q249
                        go_wp2
                        go_roundg kj4
                        case measure => have := HK1.out; have := HJ4.out; omega
                        case rel => (try rw [← Nbq21.out]); (try rw [← Nbq8.out]); exact ⟨(x5_1), (false), (wrap64 (x7_1 + 1)), (by first | rfl | (simp; done) | (simp [*]; done)), (by first | rfl | (simp; done) | (simp [*]; done)), H', ⟨by have := HK1.out; have := HJ4.out; omega⟩, ⟨by (with_reducible repeat (first | apply Kd.R_alloc | apply Kd.R_drewN | apply Kd.R_drew)); exact HO_5.out⟩, ⟨by repeat (first | (with_reducible first | exact HB.out | apply below_alloc | apply pw_below_drewN | apply below_drew1) | exact HB.out)⟩⟩
                  · rw [if_neg c20] at H
                    exact absurd H (by simp)
                · rw [if_neg c19] at H
                  exact absurd H (by simp)
        · rw [if_neg c4] at H
          have c4b0 : decide (x7_1 < (l0.length : Int)) = false := decide_eq_false c4
          clear c4
          simp only [Option.some.injEq, Prod.mk.injEq] at H
          obtain ⟨rfl, rfl⟩ := H
          go_wp2
          go_ret2
          exact ⟨_, by first | rfl | (simp [errW_none, errW_some] <;> rfl) | (simp [*, errW_none, errW_some] <;> rfl), by (with_reducible repeat (first | apply Kd.R_alloc | apply Kd.R_drewN | apply Kd.R_drew)); exact HO_5.out, by repeat (first | (with_reducible first | exact HB.out | apply below_alloc | apply pw_below_drewN | apply below_drew1) | exact HB.out)⟩
  · rw [if_neg c3] at H
    have c3b0 : (t233 == 0) = false := beq_eq_false_iff_ne.mpr c3
    have c3b1 : (t233 != 0) = true := bne_iff_ne.mpr c3
    simp only [Option.some.injEq, Prod.mk.injEq] at H
    obtain ⟨rfl, rfl⟩ := H
    go_enter Tryd.func19, Tryd.ntmps19
    go_wp2_with (first | ((with_reducible refine gate_callee (f := 31) rfl ?_); refine goesL_ (some 10) rfl rfl Tryd.func31 (by kernel_rfl) rfl #[.slice A0 l0.length c0] rfl (by (try simp only [List.map_toArray, List.map_cons, List.map_nil]); first | done | rfl | (simp only [List.length_drop, List.length_take]; rfl)) ?_; (with_reducible refine (vesperref07_Check.calls k _ _ l0 t233 _ ?side1 ?side2 A2.out).mono ?_); (case side1 => repeat (first | exact HR0.out | (with_reducible refine Kd.C_alloc ?_ _) | (with_reducible refine Kd.C_drewN ?_ _) | (with_reducible refine Kd.C_drew ?_))); (case side2 => exact HC0.out); rintro e w' ⟨rfl, ⟨nd, rfl⟩⟩; refine ⟨_, rfl, ?_⟩))
    go_ret2
    exact ⟨_, by first | rfl | (simp [errW_none, errW_some] <;> rfl) | (simp [*, errW_none, errW_some] <;> rfl), by first | exact Kd.R_nil _ _ _ _ _ | exact Kd.N_nil _ _ _ _ _ | exact Kd.V_nil _ _ _ _ _ | exact Kd.Q_nil _ _ _ _ _ | exact Kd.S_nil _ _ _ _ _, by repeat (first | (with_reducible first | exact HB.out | apply below_alloc | apply pw_below_drewN | apply below_drew1) | exact HB.out)⟩

end Go.Proofs.YtdibgdiiamcmfaaDoor.PTape
