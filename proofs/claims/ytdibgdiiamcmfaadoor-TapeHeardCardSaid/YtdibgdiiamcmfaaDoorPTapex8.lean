/- Written by a program of this session (gprint.py, over the kit's printer): functions of the seat YtdibgdiiamcmfaaDoor and their contracts. No condition but each contract's own. -/
import Derived.Test.YtdibgdiiamcmfaaDoorTapeWriteC
import Derived.Test.YtdibgdiiamcmfaaDoorTapeReadC
import Derived.Test.YtdibgdiiamcmfaaDoorPTapex0
import Derived.Test.YtdibgdiiamcmfaaDoorPTapex7
namespace Go.Proofs.YtdibgdiiamcmfaaDoor.PTape
open Go.RowKit Go.Proofs.YtdibgdiiamcmfaaDoorW.PrintWords Go.Proofs.YtdibgdiiamcmfaaDoorW.PrintLast Go.Proofs.YtdibgdiiamcmfaaDoorW.PrintMore
open Go.Proofs.YtdibgdiiamcmfaaDoor.Reader (GOk)
attribute [local go_sem] max2_int min2_int max_two min_two max_three min_three max_four min_four   -- for this text's walks alone
set_option linter.unusedVariables false
set_option linter.unusedSimpArgs false

/-! ### tape_Heard: function 18 -/
mutual
def tape_Heard.l0 : Nat → List (S44) → List (S37) → List (S44) → Int → Int → Option ((List (S37)) × Int)
  | 0, _, _, _, _, _ => none
  | k + 1, x0, x5, x15, x16, x17 => if x17 < x16 then (if 0 ≤ x17 then (if x17 < (x15.length : Int) then (if (rd_T44 x15 x17).f2 = true then (if x17 = 0 then (tape_Heard.j1 k x0 x5 true x15 x16 x17 ((rd_T44 x15 x17).f0) ((rd_T44 x15 x17).f1) ((rd_T44 x15 x17).f2) ((rd_T44 x15 x17).f3) ((rd_T44 x15 x17).f4) ((rd_T44 x15 x17).f5) ((rd_T44 x15 x17).f6) ((rd_T44 x15 x17).f7) ((rd_T44 x15 x17).f8) ((rd_T44 x15 x17).f9)) else (if 0 ≤ (wrap64 (x17 - 1)) then (if (wrap64 (x17 - 1)) < (x0.length : Int) then (tape_Heard.j1 k x0 x5 (!((rd_T44 x0 (wrap64 (x17 - 1))).f2)) x15 x16 x17 ((rd_T44 x15 x17).f0) ((rd_T44 x15 x17).f1) ((rd_T44 x15 x17).f2) ((rd_T44 x15 x17).f3) ((rd_T44 x15 x17).f4) ((rd_T44 x15 x17).f5) ((rd_T44 x15 x17).f6) ((rd_T44 x15 x17).f7) ((rd_T44 x15 x17).f8) ((rd_T44 x15 x17).f9)) else (none)) else (none))) else (tape_Heard.j1 k x0 x5 false x15 x16 x17 ((rd_T44 x15 x17).f0) ((rd_T44 x15 x17).f1) ((rd_T44 x15 x17).f2) ((rd_T44 x15 x17).f3) ((rd_T44 x15 x17).f4) ((rd_T44 x15 x17).f5) ((rd_T44 x15 x17).f6) ((rd_T44 x15 x17).f7) ((rd_T44 x15 x17).f8) ((rd_T44 x15 x17).f9))) else (none)) else (none)) else (some (x5, 0))
def tape_Heard.j1 : Nat → List (S44) → List (S37) → Bool → List (S44) → Int → Int → Int → Int → Bool → Bool → Bool → Bool → Bool → Bool → Bool → Int → Option ((List (S37)) × Int)
  | 0, _, _, _, _, _, _, _, _, _, _, _, _, _, _, _, _ => none
  | k + 1, x0, x5, x8, x15, x16, x17, x222000, x222001, x222002, x222003, x222004, x222005, x222006, x222007, x222008, x222009 => if x8 = true then (if x5.length < 8796093022208 then (tape_Heard.j2 k x0 (x5 ++ [(⟨0, 0⟩ : S37)]) x15 x16 x17 x222000 x222001 x222002 x222003 x222004 x222005 x222006 x222007 x222008 x222009) else (none)) else (tape_Heard.j2 k x0 x5 x15 x16 x17 x222000 x222001 x222002 x222003 x222004 x222005 x222006 x222007 x222008 x222009)
def tape_Heard.j2 : Nat → List (S44) → List (S37) → List (S44) → Int → Int → Int → Int → Bool → Bool → Bool → Bool → Bool → Bool → Bool → Int → Option ((List (S37)) × Int)
  | 0, _, _, _, _, _, _, _, _, _, _, _, _, _, _, _ => none
  | k + 1, x0, x5, x15, x16, x17, x222000, x222001, x222002, x222003, x222004, x222005, x222006, x222007, x222008, x222009 => if x222002 = true then (if 0 ≤ (wrap64 ((x5.length : Int) - 1)) then (if (wrap64 ((x5.length : Int) - 1)) < (x5.length : Int) then (tape_Heard.l0 k x0 (x5.set ((wrap64 ((x5.length : Int) - 1)) : Int).toNat (⟨wrap64 (((rd_T37 x5 (wrap64 ((x5.length : Int) - 1))).f0) + x222000), (rd_T37 x5 (wrap64 ((x5.length : Int) - 1))).f1⟩ : S37)) x15 x16 (wrap64 (x17 + 1))) else (none)) else (none)) else (if (x5.length : Int) > 0 then (if 0 ≤ (wrap64 ((x5.length : Int) - 1)) then (if (wrap64 ((x5.length : Int) - 1)) < (x5.length : Int) then (tape_Heard.l0 k x0 (x5.set ((wrap64 ((x5.length : Int) - 1)) : Int).toNat (⟨(rd_T37 x5 (wrap64 ((x5.length : Int) - 1))).f0, wrap64 (((rd_T37 x5 (wrap64 ((x5.length : Int) - 1))).f1) + x222000)⟩ : S37)) x15 x16 (wrap64 (x17 + 1))) else (none)) else (none)) else (tape_Heard.l0 k x0 x5 x15 x16 (wrap64 (x17 + 1))))
end
def tape_Heard.f (k : Nat) (l0 : List (S44)) : Option ((List (S37)) × Int) := (script_Check.f k l0).bind fun t219 => (if t219 = 0 then (tape_Heard.l0 k l0 ([] : List (S37)) l0 (l0.length : Int) 0) else (some (([] : List (S37)), t219)))
theorem tape_Heard.mono_l : ∀ k, (∀ y0 y1 y2 y3 y4, LeO (tape_Heard.l0 k y0 y1 y2 y3 y4) (tape_Heard.l0 (k + 1) y0 y1 y2 y3 y4)) ∧ (∀ y0 y1 y2 y3 y4 y5 y6 y7 y8 y9 y10 y11 y12 y13 y14 y15, LeO (tape_Heard.j1 k y0 y1 y2 y3 y4 y5 y6 y7 y8 y9 y10 y11 y12 y13 y14 y15) (tape_Heard.j1 (k + 1) y0 y1 y2 y3 y4 y5 y6 y7 y8 y9 y10 y11 y12 y13 y14 y15)) ∧ (∀ y0 y1 y2 y3 y4 y5 y6 y7 y8 y9 y10 y11 y12 y13 y14, LeO (tape_Heard.j2 k y0 y1 y2 y3 y4 y5 y6 y7 y8 y9 y10 y11 y12 y13 y14) (tape_Heard.j2 (k + 1) y0 y1 y2 y3 y4 y5 y6 y7 y8 y9 y10 y11 y12 y13 y14))
  | 0 => ⟨fun _ _ _ _ _ r h => by simp [tape_Heard.l0] at h, fun _ _ _ _ _ _ _ _ _ _ _ _ _ _ _ _ r h => by simp [tape_Heard.j1] at h, fun _ _ _ _ _ _ _ _ _ _ _ _ _ _ _ r h => by simp [tape_Heard.j2] at h⟩
  | k + 1 => by
    obtain ⟨ih0, ih1, ih2⟩ := tape_Heard.mono_l k
    refine ⟨?_, ?_, ?_⟩
    · intro y0 y1 y2 y3 y4
      unfold tape_Heard.l0
      repeat' first
      | (with_reducible exact ih0 _ _ _ _ _)
      | (with_reducible exact ih1 _ _ _ _ _ _ _ _ _ _ _ _ _ _ _ _)
      | (with_reducible exact ih2 _ _ _ _ _ _ _ _ _ _ _ _ _ _ _)
      | (with_reducible exact script_Check.mono _ _)
      | (with_reducible exact LeO.refl _)
      | (with_reducible exact LeO.none _)
      | (with_reducible refine LeO.ite ?_ ?_)
      | (with_reducible refine LeO.bind ?_ (fun _ => ?_))
      | exact ih0 _ _ _ _ _
      | exact ih1 _ _ _ _ _ _ _ _ _ _ _ _ _ _ _ _
      | exact ih2 _ _ _ _ _ _ _ _ _ _ _ _ _ _ _
      | exact script_Check.mono _ _
      | exact LeO.none _
      | refine LeO.ite ?_ ?_
      | refine LeO.bind ?_ (fun _ => ?_)
    · intro y0 y1 y2 y3 y4 y5 y6 y7 y8 y9 y10 y11 y12 y13 y14 y15
      unfold tape_Heard.j1
      repeat' first
      | (with_reducible exact ih0 _ _ _ _ _)
      | (with_reducible exact ih1 _ _ _ _ _ _ _ _ _ _ _ _ _ _ _ _)
      | (with_reducible exact ih2 _ _ _ _ _ _ _ _ _ _ _ _ _ _ _)
      | (with_reducible exact script_Check.mono _ _)
      | (with_reducible exact LeO.refl _)
      | (with_reducible exact LeO.none _)
      | (with_reducible refine LeO.ite ?_ ?_)
      | (with_reducible refine LeO.bind ?_ (fun _ => ?_))
      | exact ih0 _ _ _ _ _
      | exact ih1 _ _ _ _ _ _ _ _ _ _ _ _ _ _ _ _
      | exact ih2 _ _ _ _ _ _ _ _ _ _ _ _ _ _ _
      | exact script_Check.mono _ _
      | exact LeO.none _
      | refine LeO.ite ?_ ?_
      | refine LeO.bind ?_ (fun _ => ?_)
    · intro y0 y1 y2 y3 y4 y5 y6 y7 y8 y9 y10 y11 y12 y13 y14
      unfold tape_Heard.j2
      repeat' first
      | (with_reducible exact ih0 _ _ _ _ _)
      | (with_reducible exact ih1 _ _ _ _ _ _ _ _ _ _ _ _ _ _ _ _)
      | (with_reducible exact ih2 _ _ _ _ _ _ _ _ _ _ _ _ _ _ _)
      | (with_reducible exact script_Check.mono _ _)
      | (with_reducible exact LeO.refl _)
      | (with_reducible exact LeO.none _)
      | (with_reducible refine LeO.ite ?_ ?_)
      | (with_reducible refine LeO.bind ?_ (fun _ => ?_))
      | exact ih0 _ _ _ _ _
      | exact ih1 _ _ _ _ _ _ _ _ _ _ _ _ _ _ _ _
      | exact ih2 _ _ _ _ _ _ _ _ _ _ _ _ _ _ _
      | exact script_Check.mono _ _
      | exact LeO.none _
      | refine LeO.ite ?_ ?_
      | refine LeO.bind ?_ (fun _ => ?_)
theorem tape_Heard.mono : ∀ a0 k, LeO (tape_Heard.f k a0) (tape_Heard.f (k + 1) a0) := by
  intro a0 k
  obtain ⟨ih0, ih1, ih2⟩ := tape_Heard.mono_l k
  unfold tape_Heard.f
  repeat' first
      | (with_reducible exact ih0 _ _ _ _ _)
      | (with_reducible exact ih1 _ _ _ _ _ _ _ _ _ _ _ _ _ _ _ _)
      | (with_reducible exact ih2 _ _ _ _ _ _ _ _ _ _ _ _ _ _ _)
      | (with_reducible exact script_Check.mono _ _)
      | (with_reducible exact LeO.refl _)
      | (with_reducible exact LeO.none _)
      | (with_reducible refine LeO.ite ?_ ?_)
      | (with_reducible refine LeO.bind ?_ (fun _ => ?_))
      | exact ih0 _ _ _ _ _
      | exact ih1 _ _ _ _ _ _ _ _ _ _ _ _ _ _ _ _
      | exact ih2 _ _ _ _ _ _ _ _ _ _ _ _ _ _ _
      | exact script_Check.mono _ _
      | exact LeO.none _
      | refine LeO.ite ?_ ?_
      | refine LeO.bind ?_ (fun _ => ?_)
def tape_Heard.T13 : Bool × List (List Nat × List Nat) := (true, [([], []), ([], []), ([1], [1]), ([0, 2], [0, 2]), ([3], [3]), ([4], [4]), ([], []), ([6], [6]), ([5, 7], [5, 7]), ([0, 2, 0, 1, 2, 3, 4, 5, 6, 7, 8], [0, 2]), ([9, 0, 1, 2, 3, 4, 5, 6, 7, 8], [9]), ([10, 8, 0, 1, 2, 3, 4, 5, 6, 7, 8], [8, 10])])
def tape_Heard.B13 : List Nat := [0, 0, 2, 7, 15, 31, 0, 64, 255, 511, 1023, 2047]
theorem tape_Heard.tab13 : rtab .any (opsOf Tryd.f18 13) = tape_Heard.T13 := by kernel_rfl
theorem tape_Heard.bits13 : waitsOk tape_Heard.T13.2 tape_Heard.B13 = true := by kernel_rfl
def tape_Heard.T15 : Bool × List (List Nat × List Nat) := (true, [([], []), ([], []), ([1], [1]), ([0, 2], [0, 2]), ([3], [3]), ([4], [4]), ([], []), ([6], [6]), ([5, 7], [5, 7]), ([0, 2, 0, 1, 2, 3, 4, 5, 6, 7, 8], [0, 2]), ([9, 0, 1, 2, 3, 4, 5, 6, 7, 8], [9]), ([10, 8, 0, 1, 2, 3, 4, 5, 6, 7, 8], [8, 10])])
def tape_Heard.B15 : List Nat := [0, 0, 2, 7, 15, 31, 0, 64, 255, 511, 1023, 2047]
theorem tape_Heard.tab15 : rtab .any (opsOf Tryd.f18 15) = tape_Heard.T15 := by kernel_rfl
theorem tape_Heard.bits15 : waitsOk tape_Heard.T15.2 tape_Heard.B15 = true := by kernel_rfl
set_option maxHeartbeats 8000000 in
set_option maxRecDepth 100000 in
theorem tape_Heard.calls (k : Nat) (A0 : Option Addr) (c0 : Nat) (l0 : List (S44)) (r1 : List (S37)) (r2 : Int) (w : World) (hr0 : Kd.C k44 w A0 l0.length l0) (hc0 : l0.length ≤ c0) (h : tape_Heard.f k l0 = some (r1, r2)) :
    Calls Tryd.prog 18 #[.slice A0 l0.length c0] w fun e w' => ∃ v0_ : Value, e = .returned (.tuple #[v0_, .int .i64 r2]) ∧ Kd.R k37 37 w' w.heap.size (fun _ => True) v0_ r1 ∧ Below w.heap.size w w' := by
  have hu44 := Tryd.underlying44
  have hu37 := Tryd.underlying37
  have HR0 := Aside0.mk hr0
  have HC0 := Aside0.mk hc0
  clear hr0 hc0
  have HB := Aside0.mk (Below.refl w.heap.size w)
  have H : ((script_Check.f k l0).bind fun t219 => (if t219 = 0 then (tape_Heard.l0 k l0 ([] : List (S37)) l0 (l0.length : Int) 0) else (some (([] : List (S37)), t219)))) = some (r1, r2) := h
  clear h
  replace H := Option.bind_eq_some_iff.mp H
  obtain ⟨t219, A20, H⟩ := H
  replace H : (if t219 = 0 then (tape_Heard.l0 k l0 ([] : List (S37)) l0 (l0.length : Int) 0) else (some (([] : List (S37)), t219))) = some (r1, r2) := H
  have A2 := Aside0.mk A20
  clear A20
  by_cases c3 : t219 = 0
  · rw [if_pos c3] at H
    have c3b0 : (t219 == 0) = true := beq_iff_eq.mpr c3
    have c3b1 : (t219 != 0) = false := bne_eq_false_iff_eq.mpr c3
    clear c3
    have H' := Aside0.mk H
    clear H
    go_enter Tryd.func18, Tryd.ntmps18
    go_wp2_with (first | ((with_reducible refine gate_callee (f := 30) rfl ?_); refine goesL_ (some 11) rfl rfl Tryd.func30 (by kernel_rfl) rfl #[.slice A0 l0.length c0] rfl (by (try simp only [List.map_toArray, List.map_cons, List.map_nil]); first | done | rfl | (simp only [List.length_drop, List.length_take]; rfl)) ?_; (with_reducible refine (script_Check.calls k _ _ l0 t219 _ ?side1 ?side2 A2.out).mono ?_); (case side1 => repeat (first | exact HR0.out | (with_reducible refine Kd.C_alloc ?_ _) | (with_reducible refine Kd.C_drewN ?_ _) | (with_reducible refine Kd.C_drew ?_))); (case side2 => exact HC0.out); rintro e w4 ⟨rfl, hb⟩; refine ⟨_, rfl, ?_⟩; have n0_ := Aside0.mk (below_step (by repeat (first | (with_reducible first | exact HB.out | apply below_alloc | apply pw_below_drewN | apply below_drew1) | exact HB.out)) hb); clear HB; have HB := n0_; clear n0_; (try clear hb); (try clear hb2); (try clear hk); (try clear hi)))
    go_loopg [5, 17] k (fun kq v5 v17 w' => ∃ (x5_1 : List (S37)) (x17_1 : Int), v17 = .int .i64 x17_1 ∧ Aside0 (tape_Heard.l0 kq l0 x5_1 l0 (l0.length : Int) x17_1 = some (r1, r2)) ∧ Aside0 (kq ≤ k) ∧ Aside0 (Kd.R k37 37 w' w.heap.size (fun _ => True) v5 x5_1) ∧ Aside0 (Below w.heap.size w w'))
    case atStart => exact ⟨(([] : List (S37))), (0), (by first | rfl | (simp; done) | (simp [*]; done)), H', ⟨Nat.le_refl _⟩, ⟨by first | exact Kd.R_nil _ _ _ _ _ | exact Kd.N_nil _ _ _ _ _ | exact Kd.V_nil _ _ _ _ _ | exact Kd.Q_nil _ _ _ _ _ | exact Kd.S_nil _ _ _ _ _⟩, ⟨by repeat (first | (with_reducible first | exact HB.out | apply below_alloc | apply pw_below_drewN | apply below_drew1) | exact HB.out)⟩⟩
    case round =>
      clear H'
      try clear c1
      try clear p2
      try clear c3
      try clear c3b0
      try clear c3b1
      obtain ⟨x5_1, x17_1, rfl, HA, HK1, HO_5, HB⟩ := hrel
      cases gk with
      | zero => exact absurd HA.out (by simp [tape_Heard.l0])
      | succ k1 =>
        have H := HA.out
        clear HA
        simp only [tape_Heard.l0] at H
        by_cases c5 : x17_1 < (l0.length : Int)
        · rw [if_pos c5] at H
          have c5b0 : decide (x17_1 < (l0.length : Int)) = true := decide_eq_true c5
          clear c5
          by_cases c6 : 0 ≤ x17_1
          · rw [if_pos c6] at H
            have c6b0 : decide (0 ≤ x17_1) = true := decide_eq_true c6
            clear c6
            by_cases c7 : x17_1 < (l0.length : Int)
            · rw [if_pos c7] at H
              have c7b0 : decide (x17_1 < (l0.length : Int)) = true := decide_eq_true c7
              clear c7
              have HC8 := Aside0.mk H
              clear H
              have p220 : 0 ≤ (x17_1 : Int) := of_decide_eq_true (by first | (with_reducible assumption) | assumption)
              have q220 : x17_1 < (l0.length : Int) := of_decide_eq_true (by first | (with_reducible assumption) | assumption)
              obtain ⟨ad220, e220, hx220_0, hx220_1, hx220_2, hx220_3, hx220_4, hx220_5, hx220_6, hx220_7, hx220_8, hx220_9⟩ := at_T44 HR0.out x17_1 p220 q220
              cases e220
              replace hx220_0 := (HB.out.cell (World.block_lt_of_cell? w _ hx220_0)).trans hx220_0
              replace hx220_1 := (HB.out.cell (World.block_lt_of_cell? w _ hx220_1)).trans hx220_1
              replace hx220_2 := (HB.out.cell (World.block_lt_of_cell? w _ hx220_2)).trans hx220_2
              replace hx220_3 := (HB.out.cell (World.block_lt_of_cell? w _ hx220_3)).trans hx220_3
              replace hx220_4 := (HB.out.cell (World.block_lt_of_cell? w _ hx220_4)).trans hx220_4
              replace hx220_5 := (HB.out.cell (World.block_lt_of_cell? w _ hx220_5)).trans hx220_5
              replace hx220_6 := (HB.out.cell (World.block_lt_of_cell? w _ hx220_6)).trans hx220_6
              replace hx220_7 := (HB.out.cell (World.block_lt_of_cell? w _ hx220_7)).trans hx220_7
              replace hx220_8 := (HB.out.cell (World.block_lt_of_cell? w _ hx220_8)).trans hx220_8
              replace hx220_9 := (HB.out.cell (World.block_lt_of_cell? w _ hx220_9)).trans hx220_9
              replace p220 := eq_true p220
              replace q220 := eq_true q220
              go_upto_region 8 with (first | ((with_reducible refine gate_dst (N := 7) rfl ?_); refine box_event ?hg (N := 7) ?hd (cs := #[.int .i64 0, .int .u16 0, .bool false, .bool false, .bool false, .bool false, .bool false, .bool false, .bool false, .int .u8 0]) (t := 44) ?hr ?_; (case hd => rfl); (case hg => rfl); (case hr => first | (go_simp; done) | (go_simp; rfl)); intro gb221 hg w9 hbox hb; have n0_ := Aside0.mk (Kd.R_below (by (with_reducible repeat (first | apply Kd.R_alloc | apply Kd.R_drewN | apply Kd.R_drew)); exact HO_5.out) hb); have n1_ := Aside0.mk (below_step (by repeat (first | (with_reducible first | exact HB.out | apply below_alloc | apply pw_below_drewN | apply below_drew1) | exact HB.out)) hb); have n2_ := Aside0.mk (hbox); have n3_ := Aside0.mk ((by rw [hg]; exact (below_size (by repeat (first | (with_reducible first | exact HB.out | apply below_alloc | apply pw_below_drewN | apply below_drew1) | exact HB.out))) : w.heap.size ≤ gb221)); have n4_ := Aside0.mk ((by rw [hg]; exact (below_size (by repeat (first | (with_reducible first | exact HB.out | apply below_alloc | apply pw_below_drewN | apply below_drew1) | exact HB.out))) : w.heap.size ≤ gb221)); clear HO_5; clear HB; have HO_5 := n0_; have HB := n1_; have BK221 := n2_; have GW221 := n3_; have GE221 := n4_; clear n0_ n1_ n2_ n3_ n4_; clear hb hbox hg; have hcz10_0 : w9.cell? ⟨gb221, 0, none⟩ = some (.int .i64 0) := (blk_cell BK221.out 0).trans rfl; have hcz10_1 : w9.cell? ⟨gb221, 1, none⟩ = some (.int .u16 0) := (blk_cell BK221.out 1).trans rfl; have hcz10_2 : w9.cell? ⟨gb221, 2, none⟩ = some (.bool false) := (blk_cell BK221.out 2).trans rfl; have hcz10_3 : w9.cell? ⟨gb221, 3, none⟩ = some (.bool false) := (blk_cell BK221.out 3).trans rfl; have hcz10_4 : w9.cell? ⟨gb221, 4, none⟩ = some (.bool false) := (blk_cell BK221.out 4).trans rfl; have hcz10_5 : w9.cell? ⟨gb221, 5, none⟩ = some (.bool false) := (blk_cell BK221.out 5).trans rfl; have hcz10_6 : w9.cell? ⟨gb221, 6, none⟩ = some (.bool false) := (blk_cell BK221.out 6).trans rfl; have hcz10_7 : w9.cell? ⟨gb221, 7, none⟩ = some (.bool false) := (blk_cell BK221.out 7).trans rfl; have hcz10_8 : w9.cell? ⟨gb221, 8, none⟩ = some (.bool false) := (blk_cell BK221.out 8).trans rfl; have hcz10_9 : w9.cell? ⟨gb221, 9, none⟩ = some (.int .u8 0) := (blk_cell BK221.out 9).trans rfl; have hfz10_0 := blk_frozen BK221.out 0; have hfz10_1 := blk_frozen BK221.out 1; have hfz10_2 := blk_frozen BK221.out 2; have hfz10_3 := blk_frozen BK221.out 3; have hfz10_4 := blk_frozen BK221.out 4; have hfz10_5 := blk_frozen BK221.out 5; have hfz10_6 := blk_frozen BK221.out 6; have hfz10_7 := blk_frozen BK221.out 7; have hfz10_8 := blk_frozen BK221.out 8; have hfz10_9 := blk_frozen BK221.out 9))
              (try simp only [Act.put, List.setIfInBounds_toArray, List.set_cons_zero, List.set_cons_succ])
              go_cut [8] (fun v8 wc => ∃ (kq : Nat) (x8_7 : Bool), v8 = .bool x8_7 ∧ Aside0 (tape_Heard.j1 kq l0 x5_1 x8_7 l0 (l0.length : Int) x17_1 ((rd_T44 l0 x17_1).f0) ((rd_T44 l0 x17_1).f1) ((rd_T44 l0 x17_1).f2) ((rd_T44 l0 x17_1).f3) ((rd_T44 l0 x17_1).f4) ((rd_T44 l0 x17_1).f5) ((rd_T44 l0 x17_1).f6) ((rd_T44 l0 x17_1).f7) ((rd_T44 l0 x17_1).f8) ((rd_T44 l0 x17_1).f9) = some (r1, r2)) ∧ Aside0 (kq ≤ k1) ∧ Aside0 (Kd.R k37 37 wc w.heap.size (fun _ => True) u5 x5_1) ∧ Aside0 (wc.heap[gb221]? = some (.cells #[.int .i64 ((rd_T44 l0 x17_1).f0), .int .u16 ((rd_T44 l0 x17_1).f1), .bool ((rd_T44 l0 x17_1).f2), .bool ((rd_T44 l0 x17_1).f3), .bool ((rd_T44 l0 x17_1).f4), .bool ((rd_T44 l0 x17_1).f5), .bool ((rd_T44 l0 x17_1).f6), .bool ((rd_T44 l0 x17_1).f7), .bool ((rd_T44 l0 x17_1).f8), .int .u8 ((rd_T44 l0 x17_1).f9)] 44 (0, 0))) ∧ Aside0 (Below w.heap.size w wc))
              case first =>
                have H := HC8.out
                clear HC8
                obtain ⟨bq11, hbq11⟩ : ∃ b_ : Bool, b_ = ((rd_T44 l0 x17_1).f2) := ⟨_, rfl⟩
                replace H : (if bq11 = true then (if x17_1 = 0 then (tape_Heard.j1 k1 l0 x5_1 true l0 (l0.length : Int) x17_1 ((rd_T44 l0 x17_1).f0) ((rd_T44 l0 x17_1).f1) bq11 ((rd_T44 l0 x17_1).f3) ((rd_T44 l0 x17_1).f4) ((rd_T44 l0 x17_1).f5) ((rd_T44 l0 x17_1).f6) ((rd_T44 l0 x17_1).f7) ((rd_T44 l0 x17_1).f8) ((rd_T44 l0 x17_1).f9)) else (if 0 ≤ (wrap64 (x17_1 - 1)) then (if (wrap64 (x17_1 - 1)) < (l0.length : Int) then (tape_Heard.j1 k1 l0 x5_1 (!((rd_T44 l0 (wrap64 (x17_1 - 1))).f2)) l0 (l0.length : Int) x17_1 ((rd_T44 l0 x17_1).f0) ((rd_T44 l0 x17_1).f1) bq11 ((rd_T44 l0 x17_1).f3) ((rd_T44 l0 x17_1).f4) ((rd_T44 l0 x17_1).f5) ((rd_T44 l0 x17_1).f6) ((rd_T44 l0 x17_1).f7) ((rd_T44 l0 x17_1).f8) ((rd_T44 l0 x17_1).f9)) else (none)) else (none))) else (tape_Heard.j1 k1 l0 x5_1 false l0 (l0.length : Int) x17_1 ((rd_T44 l0 x17_1).f0) ((rd_T44 l0 x17_1).f1) bq11 ((rd_T44 l0 x17_1).f3) ((rd_T44 l0 x17_1).f4) ((rd_T44 l0 x17_1).f5) ((rd_T44 l0 x17_1).f6) ((rd_T44 l0 x17_1).f7) ((rd_T44 l0 x17_1).f8) ((rd_T44 l0 x17_1).f9))) = some (r1, r2) := by rw [← hbq11] at H; exact H
                have Nbq11 := Aside0.mk hbq11
                clear hbq11
                (try rw [← Nbq11.out])
                by_cases c12 : bq11 = true
                · subst c12
                  have H1 : (if x17_1 = 0 then (tape_Heard.j1 k1 l0 x5_1 true l0 (l0.length : Int) x17_1 ((rd_T44 l0 x17_1).f0) ((rd_T44 l0 x17_1).f1) true ((rd_T44 l0 x17_1).f3) ((rd_T44 l0 x17_1).f4) ((rd_T44 l0 x17_1).f5) ((rd_T44 l0 x17_1).f6) ((rd_T44 l0 x17_1).f7) ((rd_T44 l0 x17_1).f8) ((rd_T44 l0 x17_1).f9)) else (if 0 ≤ (wrap64 (x17_1 - 1)) then (if (wrap64 (x17_1 - 1)) < (l0.length : Int) then (tape_Heard.j1 k1 l0 x5_1 (!((rd_T44 l0 (wrap64 (x17_1 - 1))).f2)) l0 (l0.length : Int) x17_1 ((rd_T44 l0 x17_1).f0) ((rd_T44 l0 x17_1).f1) true ((rd_T44 l0 x17_1).f3) ((rd_T44 l0 x17_1).f4) ((rd_T44 l0 x17_1).f5) ((rd_T44 l0 x17_1).f6) ((rd_T44 l0 x17_1).f7) ((rd_T44 l0 x17_1).f8) ((rd_T44 l0 x17_1).f9)) else (none)) else (none))) = some (r1, r2) := by rw [if_pos rfl] at H; exact H
                  clear H
                  have H := H1
                  clear H1
                  by_cases c13 : x17_1 = 0
                  · rw [if_pos c13] at H
                    have c13b0 : (x17_1 == 0) = true := beq_iff_eq.mpr c13
                    have c13b1 : (x17_1 != 0) = false := bne_eq_false_iff_eq.mpr c13
                    clear c13
                    have H' := Aside0.mk H
                    clear H
                    have hcz14_0 : w9.cell? ⟨gb221, 0, none⟩ = some (.int .i64 0) := (blk_cell BK221.out 0).trans rfl
                    have hcz14_1 : w9.cell? ⟨gb221, 1, none⟩ = some (.int .u16 0) := (blk_cell BK221.out 1).trans rfl
                    have hcz14_2 : w9.cell? ⟨gb221, 2, none⟩ = some (.bool false) := (blk_cell BK221.out 2).trans rfl
                    have hcz14_3 : w9.cell? ⟨gb221, 3, none⟩ = some (.bool false) := (blk_cell BK221.out 3).trans rfl
                    have hcz14_4 : w9.cell? ⟨gb221, 4, none⟩ = some (.bool false) := (blk_cell BK221.out 4).trans rfl
                    have hcz14_5 : w9.cell? ⟨gb221, 5, none⟩ = some (.bool false) := (blk_cell BK221.out 5).trans rfl
                    have hcz14_6 : w9.cell? ⟨gb221, 6, none⟩ = some (.bool false) := (blk_cell BK221.out 6).trans rfl
                    have hcz14_7 : w9.cell? ⟨gb221, 7, none⟩ = some (.bool false) := (blk_cell BK221.out 7).trans rfl
                    have hcz14_8 : w9.cell? ⟨gb221, 8, none⟩ = some (.bool false) := (blk_cell BK221.out 8).trans rfl
                    have hcz14_9 : w9.cell? ⟨gb221, 9, none⟩ = some (.int .u8 0) := (blk_cell BK221.out 9).trans rfl
                    have hfz14_0 := blk_frozen BK221.out 0
                    have hfz14_1 := blk_frozen BK221.out 1
                    have hfz14_2 := blk_frozen BK221.out 2
                    have hfz14_3 := blk_frozen BK221.out 3
                    have hfz14_4 := blk_frozen BK221.out 4
                    have hfz14_5 := blk_frozen BK221.out 5
                    have hfz14_6 := blk_frozen BK221.out 6
                    have hfz14_7 := blk_frozen BK221.out 7
                    have hfz14_8 := blk_frozen BK221.out 8
                    have hfz14_9 := blk_frozen BK221.out 9
                    go_wp2
                    go_meet
                    case rel => (try rw [← Nbq11.out]); exact ⟨_, (true), (by first | rfl | (simp; done) | (simp [*]; done)), H', ⟨by have := HK1.out; first | omega | exact Nat.le_refl _⟩, ⟨by (with_reducible repeat (first | apply Kd.R_alloc | apply Kd.R_drewN | apply Kd.R_drew)); exact Kd.R_mono (Kd.R_far (p := ⟨gb221, 9, none⟩) (Kd.R_far (p := ⟨gb221, 8, none⟩) (Kd.R_far (p := ⟨gb221, 7, none⟩) (Kd.R_far (p := ⟨gb221, 6, none⟩) (Kd.R_far (p := ⟨gb221, 5, none⟩) (Kd.R_far (p := ⟨gb221, 4, none⟩) (Kd.R_far (p := ⟨gb221, 3, none⟩) (Kd.R_far (p := ⟨gb221, 2, none⟩) (Kd.R_far (p := ⟨gb221, 1, none⟩) (Kd.R_far (p := ⟨gb221, 0, none⟩) (Kd.R_types HO_5.out BK221.out (by decide)) (fun _ hk => hk.2) (.int .i64 ((rd_T44 l0 x17_1).f0))) (fun _ hk => hk.2) (.int .u16 ((rd_T44 l0 x17_1).f1))) (fun _ hk => hk.2) (.bool (true))) (fun _ hk => hk.2) (.bool ((rd_T44 l0 x17_1).f3))) (fun _ hk => hk.2) (.bool ((rd_T44 l0 x17_1).f4))) (fun _ hk => hk.2) (.bool ((rd_T44 l0 x17_1).f5))) (fun _ hk => hk.2) (.bool ((rd_T44 l0 x17_1).f6))) (fun _ hk => hk.2) (.bool ((rd_T44 l0 x17_1).f7))) (fun _ hk => hk.2) (.bool ((rd_T44 l0 x17_1).f8))) (fun _ hk => hk.2) (.int .u8 ((rd_T44 l0 x17_1).f9))) (fun _ hk => trivial)⟩, ⟨by (with_reducible repeat (first | refine blk_drewN ?_ _ | refine blk_drew ?_ | refine blk_alloc ?_ _)); refine blk_put (cs := #[.int .i64 ((rd_T44 l0 x17_1).f0), .int .u16 ((rd_T44 l0 x17_1).f1), .bool (true), .bool ((rd_T44 l0 x17_1).f3), .bool ((rd_T44 l0 x17_1).f4), .bool ((rd_T44 l0 x17_1).f5), .bool ((rd_T44 l0 x17_1).f6), .bool ((rd_T44 l0 x17_1).f7), .bool ((rd_T44 l0 x17_1).f8), .int .u8 0]) ?_ 9 _ rfl; (with_reducible repeat (first | refine blk_drewN ?_ _ | refine blk_drew ?_ | refine blk_alloc ?_ _)); refine blk_put (cs := #[.int .i64 ((rd_T44 l0 x17_1).f0), .int .u16 ((rd_T44 l0 x17_1).f1), .bool (true), .bool ((rd_T44 l0 x17_1).f3), .bool ((rd_T44 l0 x17_1).f4), .bool ((rd_T44 l0 x17_1).f5), .bool ((rd_T44 l0 x17_1).f6), .bool ((rd_T44 l0 x17_1).f7), .bool false, .int .u8 0]) ?_ 8 _ rfl; (with_reducible repeat (first | refine blk_drewN ?_ _ | refine blk_drew ?_ | refine blk_alloc ?_ _)); refine blk_put (cs := #[.int .i64 ((rd_T44 l0 x17_1).f0), .int .u16 ((rd_T44 l0 x17_1).f1), .bool (true), .bool ((rd_T44 l0 x17_1).f3), .bool ((rd_T44 l0 x17_1).f4), .bool ((rd_T44 l0 x17_1).f5), .bool ((rd_T44 l0 x17_1).f6), .bool false, .bool false, .int .u8 0]) ?_ 7 _ rfl; (with_reducible repeat (first | refine blk_drewN ?_ _ | refine blk_drew ?_ | refine blk_alloc ?_ _)); refine blk_put (cs := #[.int .i64 ((rd_T44 l0 x17_1).f0), .int .u16 ((rd_T44 l0 x17_1).f1), .bool (true), .bool ((rd_T44 l0 x17_1).f3), .bool ((rd_T44 l0 x17_1).f4), .bool ((rd_T44 l0 x17_1).f5), .bool false, .bool false, .bool false, .int .u8 0]) ?_ 6 _ rfl; (with_reducible repeat (first | refine blk_drewN ?_ _ | refine blk_drew ?_ | refine blk_alloc ?_ _)); refine blk_put (cs := #[.int .i64 ((rd_T44 l0 x17_1).f0), .int .u16 ((rd_T44 l0 x17_1).f1), .bool (true), .bool ((rd_T44 l0 x17_1).f3), .bool ((rd_T44 l0 x17_1).f4), .bool false, .bool false, .bool false, .bool false, .int .u8 0]) ?_ 5 _ rfl; (with_reducible repeat (first | refine blk_drewN ?_ _ | refine blk_drew ?_ | refine blk_alloc ?_ _)); refine blk_put (cs := #[.int .i64 ((rd_T44 l0 x17_1).f0), .int .u16 ((rd_T44 l0 x17_1).f1), .bool (true), .bool ((rd_T44 l0 x17_1).f3), .bool false, .bool false, .bool false, .bool false, .bool false, .int .u8 0]) ?_ 4 _ rfl; (with_reducible repeat (first | refine blk_drewN ?_ _ | refine blk_drew ?_ | refine blk_alloc ?_ _)); refine blk_put (cs := #[.int .i64 ((rd_T44 l0 x17_1).f0), .int .u16 ((rd_T44 l0 x17_1).f1), .bool (true), .bool false, .bool false, .bool false, .bool false, .bool false, .bool false, .int .u8 0]) ?_ 3 _ rfl; (with_reducible repeat (first | refine blk_drewN ?_ _ | refine blk_drew ?_ | refine blk_alloc ?_ _)); refine blk_put (cs := #[.int .i64 ((rd_T44 l0 x17_1).f0), .int .u16 ((rd_T44 l0 x17_1).f1), .bool false, .bool false, .bool false, .bool false, .bool false, .bool false, .bool false, .int .u8 0]) ?_ 2 _ rfl; (with_reducible repeat (first | refine blk_drewN ?_ _ | refine blk_drew ?_ | refine blk_alloc ?_ _)); refine blk_put (cs := #[.int .i64 ((rd_T44 l0 x17_1).f0), .int .u16 0, .bool false, .bool false, .bool false, .bool false, .bool false, .bool false, .bool false, .int .u8 0]) ?_ 1 _ rfl; (with_reducible repeat (first | refine blk_drewN ?_ _ | refine blk_drew ?_ | refine blk_alloc ?_ _)); refine blk_put (cs := #[.int .i64 0, .int .u16 0, .bool false, .bool false, .bool false, .bool false, .bool false, .bool false, .bool false, .int .u8 0]) ?_ 0 _ rfl; (with_reducible repeat (first | refine blk_drewN ?_ _ | refine blk_drew ?_ | refine blk_alloc ?_ _)); exact BK221.out⟩, ⟨by repeat (first | (with_reducible first | exact HB.out | apply below_alloc | apply pw_below_drewN | apply below_drew1 | refine below_set ?_ GE221.out) | exact HB.out)⟩⟩
                  · rw [if_neg c13] at H
                    have c13b0 : (x17_1 == 0) = false := beq_eq_false_iff_ne.mpr c13
                    have c13b1 : (x17_1 != 0) = true := bne_iff_ne.mpr c13
                    obtain ⟨ji15, hji15⟩ : ∃ j_ : Int, (wrap64 (x17_1 - 1)) = j_ := ⟨_, rfl⟩
                    replace H : (if 0 ≤ (ji15) then (if (ji15) < (l0.length : Int) then (tape_Heard.j1 k1 l0 x5_1 (!((rd_T44 l0 (ji15)).f2)) l0 (l0.length : Int) x17_1 ((rd_T44 l0 x17_1).f0) ((rd_T44 l0 x17_1).f1) true ((rd_T44 l0 x17_1).f3) ((rd_T44 l0 x17_1).f4) ((rd_T44 l0 x17_1).f5) ((rd_T44 l0 x17_1).f6) ((rd_T44 l0 x17_1).f7) ((rd_T44 l0 x17_1).f8) ((rd_T44 l0 x17_1).f9)) else (none)) else (none)) = some (r1, r2) := by first | (rw [hji15] at H; exact H) | (simp only [hji15] at H ⊢; exact H)
                    have hji15w : (IntKind.i64.wrap (x17_1 - 1)) = ji15 := (i64_w _).trans hji15
                    by_cases c16 : 0 ≤ (ji15)
                    · rw [if_pos c16] at H
                      have c16b0 : decide (0 ≤ (ji15)) = true := decide_eq_true c16
                      clear c16
                      by_cases c17 : (ji15) < (l0.length : Int)
                      · rw [if_pos c17] at H
                        have c17b0 : decide ((ji15) < (l0.length : Int)) = true := decide_eq_true c17
                        clear c17
                        have H' := Aside0.mk H
                        clear H
                        have hcz18_0 : w9.cell? ⟨gb221, 0, none⟩ = some (.int .i64 0) := (blk_cell BK221.out 0).trans rfl
                        have hcz18_1 : w9.cell? ⟨gb221, 1, none⟩ = some (.int .u16 0) := (blk_cell BK221.out 1).trans rfl
                        have hcz18_2 : w9.cell? ⟨gb221, 2, none⟩ = some (.bool false) := (blk_cell BK221.out 2).trans rfl
                        have hcz18_3 : w9.cell? ⟨gb221, 3, none⟩ = some (.bool false) := (blk_cell BK221.out 3).trans rfl
                        have hcz18_4 : w9.cell? ⟨gb221, 4, none⟩ = some (.bool false) := (blk_cell BK221.out 4).trans rfl
                        have hcz18_5 : w9.cell? ⟨gb221, 5, none⟩ = some (.bool false) := (blk_cell BK221.out 5).trans rfl
                        have hcz18_6 : w9.cell? ⟨gb221, 6, none⟩ = some (.bool false) := (blk_cell BK221.out 6).trans rfl
                        have hcz18_7 : w9.cell? ⟨gb221, 7, none⟩ = some (.bool false) := (blk_cell BK221.out 7).trans rfl
                        have hcz18_8 : w9.cell? ⟨gb221, 8, none⟩ = some (.bool false) := (blk_cell BK221.out 8).trans rfl
                        have hcz18_9 : w9.cell? ⟨gb221, 9, none⟩ = some (.int .u8 0) := (blk_cell BK221.out 9).trans rfl
                        have hfz18_0 := blk_frozen BK221.out 0
                        have hfz18_1 := blk_frozen BK221.out 1
                        have hfz18_2 := blk_frozen BK221.out 2
                        have hfz18_3 := blk_frozen BK221.out 3
                        have hfz18_4 := blk_frozen BK221.out 4
                        have hfz18_5 := blk_frozen BK221.out 5
                        have hfz18_6 := blk_frozen BK221.out 6
                        have hfz18_7 := blk_frozen BK221.out 7
                        have hfz18_8 := blk_frozen BK221.out 8
                        have hfz18_9 := blk_frozen BK221.out 9
                        have p222 : 0 ≤ ((ji15) : Int) := of_decide_eq_true (by first | (with_reducible assumption) | assumption)
                        have q222 : (ji15) < (l0.length : Int) := of_decide_eq_true (by first | (with_reducible assumption) | assumption)
                        obtain ⟨ad222, e222, hx222_0, hx222_1, hx222_2, hx222_3, hx222_4, hx222_5, hx222_6, hx222_7, hx222_8, hx222_9⟩ := at_T44 HR0.out (ji15) p222 q222
                        (try rw [← Nbq11.out] at hx222_2)
                        (try rw [← Nbq11.out] at hx222_3)
                        (try rw [← Nbq11.out] at hx222_4)
                        (try rw [← Nbq11.out] at hx222_5)
                        (try rw [← Nbq11.out] at hx222_6)
                        (try rw [← Nbq11.out] at hx222_7)
                        (try rw [← Nbq11.out] at hx222_8)
                        obtain rfl : ad220 = ad222 := (by injection e222)
                        have hn222_0 : ad220.block ≠ gb221 := Nat.ne_of_lt (Nat.lt_of_lt_of_le (by have := World.block_lt_of_cell? _ _ hx222_0; first | rwa [add_block] at this | exact this) GW221.out)
                        have hn222_1 : ad220.block ≠ gb221 := Nat.ne_of_lt (Nat.lt_of_lt_of_le (by have := World.block_lt_of_cell? _ _ hx222_0; first | rwa [add_block] at this | exact this) GW221.out)
                        have hn222_2 : ad220.block ≠ gb221 := Nat.ne_of_lt (Nat.lt_of_lt_of_le (by have := World.block_lt_of_cell? _ _ hx222_0; first | rwa [add_block] at this | exact this) GW221.out)
                        have hn222_3 : ad220.block ≠ gb221 := Nat.ne_of_lt (Nat.lt_of_lt_of_le (by have := World.block_lt_of_cell? _ _ hx222_0; first | rwa [add_block] at this | exact this) GW221.out)
                        have hn222_4 : ad220.block ≠ gb221 := Nat.ne_of_lt (Nat.lt_of_lt_of_le (by have := World.block_lt_of_cell? _ _ hx222_0; first | rwa [add_block] at this | exact this) GW221.out)
                        have hn222_5 : ad220.block ≠ gb221 := Nat.ne_of_lt (Nat.lt_of_lt_of_le (by have := World.block_lt_of_cell? _ _ hx222_0; first | rwa [add_block] at this | exact this) GW221.out)
                        have hn222_6 : ad220.block ≠ gb221 := Nat.ne_of_lt (Nat.lt_of_lt_of_le (by have := World.block_lt_of_cell? _ _ hx222_0; first | rwa [add_block] at this | exact this) GW221.out)
                        have hn222_7 : ad220.block ≠ gb221 := Nat.ne_of_lt (Nat.lt_of_lt_of_le (by have := World.block_lt_of_cell? _ _ hx222_0; first | rwa [add_block] at this | exact this) GW221.out)
                        have hn222_8 : ad220.block ≠ gb221 := Nat.ne_of_lt (Nat.lt_of_lt_of_le (by have := World.block_lt_of_cell? _ _ hx222_0; first | rwa [add_block] at this | exact this) GW221.out)
                        have hn222_9 : ad220.block ≠ gb221 := Nat.ne_of_lt (Nat.lt_of_lt_of_le (by have := World.block_lt_of_cell? _ _ hx222_0; first | rwa [add_block] at this | exact this) GW221.out)
                        replace hx222_0 := (HB.out.cell (World.block_lt_of_cell? w _ hx222_0)).trans hx222_0
                        replace hx222_1 := (HB.out.cell (World.block_lt_of_cell? w _ hx222_1)).trans hx222_1
                        replace hx222_2 := (HB.out.cell (World.block_lt_of_cell? w _ hx222_2)).trans hx222_2
                        replace hx222_3 := (HB.out.cell (World.block_lt_of_cell? w _ hx222_3)).trans hx222_3
                        replace hx222_4 := (HB.out.cell (World.block_lt_of_cell? w _ hx222_4)).trans hx222_4
                        replace hx222_5 := (HB.out.cell (World.block_lt_of_cell? w _ hx222_5)).trans hx222_5
                        replace hx222_6 := (HB.out.cell (World.block_lt_of_cell? w _ hx222_6)).trans hx222_6
                        replace hx222_7 := (HB.out.cell (World.block_lt_of_cell? w _ hx222_7)).trans hx222_7
                        replace hx222_8 := (HB.out.cell (World.block_lt_of_cell? w _ hx222_8)).trans hx222_8
                        replace hx222_9 := (HB.out.cell (World.block_lt_of_cell? w _ hx222_9)).trans hx222_9
                        replace hx222_0 := (cell_far (p := ⟨gb221, 0, none⟩) (by first | (rw [add_block]; exact hn222_0) | (show (Addr.add _ _).block ≠ _; rw [add_block]; exact hn222_0) | exact hn222_0) (.int .i64 ((rd_T44 l0 x17_1).f0))).trans hx222_0
                        replace hx222_1 := (cell_far (p := ⟨gb221, 0, none⟩) (by first | (rw [add_block]; exact hn222_0) | (show (Addr.add _ _).block ≠ _; rw [add_block]; exact hn222_0) | exact hn222_0) (.int .i64 ((rd_T44 l0 x17_1).f0))).trans hx222_1
                        replace hx222_2 := (cell_far (p := ⟨gb221, 0, none⟩) (by first | (rw [add_block]; exact hn222_0) | (show (Addr.add _ _).block ≠ _; rw [add_block]; exact hn222_0) | exact hn222_0) (.int .i64 ((rd_T44 l0 x17_1).f0))).trans hx222_2
                        replace hx222_3 := (cell_far (p := ⟨gb221, 0, none⟩) (by first | (rw [add_block]; exact hn222_0) | (show (Addr.add _ _).block ≠ _; rw [add_block]; exact hn222_0) | exact hn222_0) (.int .i64 ((rd_T44 l0 x17_1).f0))).trans hx222_3
                        replace hx222_4 := (cell_far (p := ⟨gb221, 0, none⟩) (by first | (rw [add_block]; exact hn222_0) | (show (Addr.add _ _).block ≠ _; rw [add_block]; exact hn222_0) | exact hn222_0) (.int .i64 ((rd_T44 l0 x17_1).f0))).trans hx222_4
                        replace hx222_5 := (cell_far (p := ⟨gb221, 0, none⟩) (by first | (rw [add_block]; exact hn222_0) | (show (Addr.add _ _).block ≠ _; rw [add_block]; exact hn222_0) | exact hn222_0) (.int .i64 ((rd_T44 l0 x17_1).f0))).trans hx222_5
                        replace hx222_6 := (cell_far (p := ⟨gb221, 0, none⟩) (by first | (rw [add_block]; exact hn222_0) | (show (Addr.add _ _).block ≠ _; rw [add_block]; exact hn222_0) | exact hn222_0) (.int .i64 ((rd_T44 l0 x17_1).f0))).trans hx222_6
                        replace hx222_7 := (cell_far (p := ⟨gb221, 0, none⟩) (by first | (rw [add_block]; exact hn222_0) | (show (Addr.add _ _).block ≠ _; rw [add_block]; exact hn222_0) | exact hn222_0) (.int .i64 ((rd_T44 l0 x17_1).f0))).trans hx222_7
                        replace hx222_8 := (cell_far (p := ⟨gb221, 0, none⟩) (by first | (rw [add_block]; exact hn222_0) | (show (Addr.add _ _).block ≠ _; rw [add_block]; exact hn222_0) | exact hn222_0) (.int .i64 ((rd_T44 l0 x17_1).f0))).trans hx222_8
                        replace hx222_9 := (cell_far (p := ⟨gb221, 0, none⟩) (by first | (rw [add_block]; exact hn222_0) | (show (Addr.add _ _).block ≠ _; rw [add_block]; exact hn222_0) | exact hn222_0) (.int .i64 ((rd_T44 l0 x17_1).f0))).trans hx222_9
                        replace hx222_0 := (cell_far (p := ⟨gb221, 1, none⟩) (by first | (rw [add_block]; exact hn222_1) | (show (Addr.add _ _).block ≠ _; rw [add_block]; exact hn222_1) | exact hn222_1) (.int .u16 ((rd_T44 l0 x17_1).f1))).trans hx222_0
                        replace hx222_1 := (cell_far (p := ⟨gb221, 1, none⟩) (by first | (rw [add_block]; exact hn222_1) | (show (Addr.add _ _).block ≠ _; rw [add_block]; exact hn222_1) | exact hn222_1) (.int .u16 ((rd_T44 l0 x17_1).f1))).trans hx222_1
                        replace hx222_2 := (cell_far (p := ⟨gb221, 1, none⟩) (by first | (rw [add_block]; exact hn222_1) | (show (Addr.add _ _).block ≠ _; rw [add_block]; exact hn222_1) | exact hn222_1) (.int .u16 ((rd_T44 l0 x17_1).f1))).trans hx222_2
                        replace hx222_3 := (cell_far (p := ⟨gb221, 1, none⟩) (by first | (rw [add_block]; exact hn222_1) | (show (Addr.add _ _).block ≠ _; rw [add_block]; exact hn222_1) | exact hn222_1) (.int .u16 ((rd_T44 l0 x17_1).f1))).trans hx222_3
                        replace hx222_4 := (cell_far (p := ⟨gb221, 1, none⟩) (by first | (rw [add_block]; exact hn222_1) | (show (Addr.add _ _).block ≠ _; rw [add_block]; exact hn222_1) | exact hn222_1) (.int .u16 ((rd_T44 l0 x17_1).f1))).trans hx222_4
                        replace hx222_5 := (cell_far (p := ⟨gb221, 1, none⟩) (by first | (rw [add_block]; exact hn222_1) | (show (Addr.add _ _).block ≠ _; rw [add_block]; exact hn222_1) | exact hn222_1) (.int .u16 ((rd_T44 l0 x17_1).f1))).trans hx222_5
                        replace hx222_6 := (cell_far (p := ⟨gb221, 1, none⟩) (by first | (rw [add_block]; exact hn222_1) | (show (Addr.add _ _).block ≠ _; rw [add_block]; exact hn222_1) | exact hn222_1) (.int .u16 ((rd_T44 l0 x17_1).f1))).trans hx222_6
                        replace hx222_7 := (cell_far (p := ⟨gb221, 1, none⟩) (by first | (rw [add_block]; exact hn222_1) | (show (Addr.add _ _).block ≠ _; rw [add_block]; exact hn222_1) | exact hn222_1) (.int .u16 ((rd_T44 l0 x17_1).f1))).trans hx222_7
                        replace hx222_8 := (cell_far (p := ⟨gb221, 1, none⟩) (by first | (rw [add_block]; exact hn222_1) | (show (Addr.add _ _).block ≠ _; rw [add_block]; exact hn222_1) | exact hn222_1) (.int .u16 ((rd_T44 l0 x17_1).f1))).trans hx222_8
                        replace hx222_9 := (cell_far (p := ⟨gb221, 1, none⟩) (by first | (rw [add_block]; exact hn222_1) | (show (Addr.add _ _).block ≠ _; rw [add_block]; exact hn222_1) | exact hn222_1) (.int .u16 ((rd_T44 l0 x17_1).f1))).trans hx222_9
                        replace hx222_0 := (cell_far (p := ⟨gb221, 2, none⟩) (by first | (rw [add_block]; exact hn222_2) | (show (Addr.add _ _).block ≠ _; rw [add_block]; exact hn222_2) | exact hn222_2) (.bool (true))).trans hx222_0
                        replace hx222_1 := (cell_far (p := ⟨gb221, 2, none⟩) (by first | (rw [add_block]; exact hn222_2) | (show (Addr.add _ _).block ≠ _; rw [add_block]; exact hn222_2) | exact hn222_2) (.bool (true))).trans hx222_1
                        replace hx222_2 := (cell_far (p := ⟨gb221, 2, none⟩) (by first | (rw [add_block]; exact hn222_2) | (show (Addr.add _ _).block ≠ _; rw [add_block]; exact hn222_2) | exact hn222_2) (.bool (true))).trans hx222_2
                        replace hx222_3 := (cell_far (p := ⟨gb221, 2, none⟩) (by first | (rw [add_block]; exact hn222_2) | (show (Addr.add _ _).block ≠ _; rw [add_block]; exact hn222_2) | exact hn222_2) (.bool (true))).trans hx222_3
                        replace hx222_4 := (cell_far (p := ⟨gb221, 2, none⟩) (by first | (rw [add_block]; exact hn222_2) | (show (Addr.add _ _).block ≠ _; rw [add_block]; exact hn222_2) | exact hn222_2) (.bool (true))).trans hx222_4
                        replace hx222_5 := (cell_far (p := ⟨gb221, 2, none⟩) (by first | (rw [add_block]; exact hn222_2) | (show (Addr.add _ _).block ≠ _; rw [add_block]; exact hn222_2) | exact hn222_2) (.bool (true))).trans hx222_5
                        replace hx222_6 := (cell_far (p := ⟨gb221, 2, none⟩) (by first | (rw [add_block]; exact hn222_2) | (show (Addr.add _ _).block ≠ _; rw [add_block]; exact hn222_2) | exact hn222_2) (.bool (true))).trans hx222_6
                        replace hx222_7 := (cell_far (p := ⟨gb221, 2, none⟩) (by first | (rw [add_block]; exact hn222_2) | (show (Addr.add _ _).block ≠ _; rw [add_block]; exact hn222_2) | exact hn222_2) (.bool (true))).trans hx222_7
                        replace hx222_8 := (cell_far (p := ⟨gb221, 2, none⟩) (by first | (rw [add_block]; exact hn222_2) | (show (Addr.add _ _).block ≠ _; rw [add_block]; exact hn222_2) | exact hn222_2) (.bool (true))).trans hx222_8
                        replace hx222_9 := (cell_far (p := ⟨gb221, 2, none⟩) (by first | (rw [add_block]; exact hn222_2) | (show (Addr.add _ _).block ≠ _; rw [add_block]; exact hn222_2) | exact hn222_2) (.bool (true))).trans hx222_9
                        replace hx222_0 := (cell_far (p := ⟨gb221, 3, none⟩) (by first | (rw [add_block]; exact hn222_3) | (show (Addr.add _ _).block ≠ _; rw [add_block]; exact hn222_3) | exact hn222_3) (.bool ((rd_T44 l0 x17_1).f3))).trans hx222_0
                        replace hx222_1 := (cell_far (p := ⟨gb221, 3, none⟩) (by first | (rw [add_block]; exact hn222_3) | (show (Addr.add _ _).block ≠ _; rw [add_block]; exact hn222_3) | exact hn222_3) (.bool ((rd_T44 l0 x17_1).f3))).trans hx222_1
                        replace hx222_2 := (cell_far (p := ⟨gb221, 3, none⟩) (by first | (rw [add_block]; exact hn222_3) | (show (Addr.add _ _).block ≠ _; rw [add_block]; exact hn222_3) | exact hn222_3) (.bool ((rd_T44 l0 x17_1).f3))).trans hx222_2
                        replace hx222_3 := (cell_far (p := ⟨gb221, 3, none⟩) (by first | (rw [add_block]; exact hn222_3) | (show (Addr.add _ _).block ≠ _; rw [add_block]; exact hn222_3) | exact hn222_3) (.bool ((rd_T44 l0 x17_1).f3))).trans hx222_3
                        replace hx222_4 := (cell_far (p := ⟨gb221, 3, none⟩) (by first | (rw [add_block]; exact hn222_3) | (show (Addr.add _ _).block ≠ _; rw [add_block]; exact hn222_3) | exact hn222_3) (.bool ((rd_T44 l0 x17_1).f3))).trans hx222_4
                        replace hx222_5 := (cell_far (p := ⟨gb221, 3, none⟩) (by first | (rw [add_block]; exact hn222_3) | (show (Addr.add _ _).block ≠ _; rw [add_block]; exact hn222_3) | exact hn222_3) (.bool ((rd_T44 l0 x17_1).f3))).trans hx222_5
                        replace hx222_6 := (cell_far (p := ⟨gb221, 3, none⟩) (by first | (rw [add_block]; exact hn222_3) | (show (Addr.add _ _).block ≠ _; rw [add_block]; exact hn222_3) | exact hn222_3) (.bool ((rd_T44 l0 x17_1).f3))).trans hx222_6
                        replace hx222_7 := (cell_far (p := ⟨gb221, 3, none⟩) (by first | (rw [add_block]; exact hn222_3) | (show (Addr.add _ _).block ≠ _; rw [add_block]; exact hn222_3) | exact hn222_3) (.bool ((rd_T44 l0 x17_1).f3))).trans hx222_7
                        replace hx222_8 := (cell_far (p := ⟨gb221, 3, none⟩) (by first | (rw [add_block]; exact hn222_3) | (show (Addr.add _ _).block ≠ _; rw [add_block]; exact hn222_3) | exact hn222_3) (.bool ((rd_T44 l0 x17_1).f3))).trans hx222_8
                        replace hx222_9 := (cell_far (p := ⟨gb221, 3, none⟩) (by first | (rw [add_block]; exact hn222_3) | (show (Addr.add _ _).block ≠ _; rw [add_block]; exact hn222_3) | exact hn222_3) (.bool ((rd_T44 l0 x17_1).f3))).trans hx222_9
                        replace hx222_0 := (cell_far (p := ⟨gb221, 4, none⟩) (by first | (rw [add_block]; exact hn222_4) | (show (Addr.add _ _).block ≠ _; rw [add_block]; exact hn222_4) | exact hn222_4) (.bool ((rd_T44 l0 x17_1).f4))).trans hx222_0
                        replace hx222_1 := (cell_far (p := ⟨gb221, 4, none⟩) (by first | (rw [add_block]; exact hn222_4) | (show (Addr.add _ _).block ≠ _; rw [add_block]; exact hn222_4) | exact hn222_4) (.bool ((rd_T44 l0 x17_1).f4))).trans hx222_1
                        replace hx222_2 := (cell_far (p := ⟨gb221, 4, none⟩) (by first | (rw [add_block]; exact hn222_4) | (show (Addr.add _ _).block ≠ _; rw [add_block]; exact hn222_4) | exact hn222_4) (.bool ((rd_T44 l0 x17_1).f4))).trans hx222_2
                        replace hx222_3 := (cell_far (p := ⟨gb221, 4, none⟩) (by first | (rw [add_block]; exact hn222_4) | (show (Addr.add _ _).block ≠ _; rw [add_block]; exact hn222_4) | exact hn222_4) (.bool ((rd_T44 l0 x17_1).f4))).trans hx222_3
                        replace hx222_4 := (cell_far (p := ⟨gb221, 4, none⟩) (by first | (rw [add_block]; exact hn222_4) | (show (Addr.add _ _).block ≠ _; rw [add_block]; exact hn222_4) | exact hn222_4) (.bool ((rd_T44 l0 x17_1).f4))).trans hx222_4
                        replace hx222_5 := (cell_far (p := ⟨gb221, 4, none⟩) (by first | (rw [add_block]; exact hn222_4) | (show (Addr.add _ _).block ≠ _; rw [add_block]; exact hn222_4) | exact hn222_4) (.bool ((rd_T44 l0 x17_1).f4))).trans hx222_5
                        replace hx222_6 := (cell_far (p := ⟨gb221, 4, none⟩) (by first | (rw [add_block]; exact hn222_4) | (show (Addr.add _ _).block ≠ _; rw [add_block]; exact hn222_4) | exact hn222_4) (.bool ((rd_T44 l0 x17_1).f4))).trans hx222_6
                        replace hx222_7 := (cell_far (p := ⟨gb221, 4, none⟩) (by first | (rw [add_block]; exact hn222_4) | (show (Addr.add _ _).block ≠ _; rw [add_block]; exact hn222_4) | exact hn222_4) (.bool ((rd_T44 l0 x17_1).f4))).trans hx222_7
                        replace hx222_8 := (cell_far (p := ⟨gb221, 4, none⟩) (by first | (rw [add_block]; exact hn222_4) | (show (Addr.add _ _).block ≠ _; rw [add_block]; exact hn222_4) | exact hn222_4) (.bool ((rd_T44 l0 x17_1).f4))).trans hx222_8
                        replace hx222_9 := (cell_far (p := ⟨gb221, 4, none⟩) (by first | (rw [add_block]; exact hn222_4) | (show (Addr.add _ _).block ≠ _; rw [add_block]; exact hn222_4) | exact hn222_4) (.bool ((rd_T44 l0 x17_1).f4))).trans hx222_9
                        replace hx222_0 := (cell_far (p := ⟨gb221, 5, none⟩) (by first | (rw [add_block]; exact hn222_5) | (show (Addr.add _ _).block ≠ _; rw [add_block]; exact hn222_5) | exact hn222_5) (.bool ((rd_T44 l0 x17_1).f5))).trans hx222_0
                        replace hx222_1 := (cell_far (p := ⟨gb221, 5, none⟩) (by first | (rw [add_block]; exact hn222_5) | (show (Addr.add _ _).block ≠ _; rw [add_block]; exact hn222_5) | exact hn222_5) (.bool ((rd_T44 l0 x17_1).f5))).trans hx222_1
                        replace hx222_2 := (cell_far (p := ⟨gb221, 5, none⟩) (by first | (rw [add_block]; exact hn222_5) | (show (Addr.add _ _).block ≠ _; rw [add_block]; exact hn222_5) | exact hn222_5) (.bool ((rd_T44 l0 x17_1).f5))).trans hx222_2
                        replace hx222_3 := (cell_far (p := ⟨gb221, 5, none⟩) (by first | (rw [add_block]; exact hn222_5) | (show (Addr.add _ _).block ≠ _; rw [add_block]; exact hn222_5) | exact hn222_5) (.bool ((rd_T44 l0 x17_1).f5))).trans hx222_3
                        replace hx222_4 := (cell_far (p := ⟨gb221, 5, none⟩) (by first | (rw [add_block]; exact hn222_5) | (show (Addr.add _ _).block ≠ _; rw [add_block]; exact hn222_5) | exact hn222_5) (.bool ((rd_T44 l0 x17_1).f5))).trans hx222_4
                        replace hx222_5 := (cell_far (p := ⟨gb221, 5, none⟩) (by first | (rw [add_block]; exact hn222_5) | (show (Addr.add _ _).block ≠ _; rw [add_block]; exact hn222_5) | exact hn222_5) (.bool ((rd_T44 l0 x17_1).f5))).trans hx222_5
                        replace hx222_6 := (cell_far (p := ⟨gb221, 5, none⟩) (by first | (rw [add_block]; exact hn222_5) | (show (Addr.add _ _).block ≠ _; rw [add_block]; exact hn222_5) | exact hn222_5) (.bool ((rd_T44 l0 x17_1).f5))).trans hx222_6
                        replace hx222_7 := (cell_far (p := ⟨gb221, 5, none⟩) (by first | (rw [add_block]; exact hn222_5) | (show (Addr.add _ _).block ≠ _; rw [add_block]; exact hn222_5) | exact hn222_5) (.bool ((rd_T44 l0 x17_1).f5))).trans hx222_7
                        replace hx222_8 := (cell_far (p := ⟨gb221, 5, none⟩) (by first | (rw [add_block]; exact hn222_5) | (show (Addr.add _ _).block ≠ _; rw [add_block]; exact hn222_5) | exact hn222_5) (.bool ((rd_T44 l0 x17_1).f5))).trans hx222_8
                        replace hx222_9 := (cell_far (p := ⟨gb221, 5, none⟩) (by first | (rw [add_block]; exact hn222_5) | (show (Addr.add _ _).block ≠ _; rw [add_block]; exact hn222_5) | exact hn222_5) (.bool ((rd_T44 l0 x17_1).f5))).trans hx222_9
                        replace hx222_0 := (cell_far (p := ⟨gb221, 6, none⟩) (by first | (rw [add_block]; exact hn222_6) | (show (Addr.add _ _).block ≠ _; rw [add_block]; exact hn222_6) | exact hn222_6) (.bool ((rd_T44 l0 x17_1).f6))).trans hx222_0
                        replace hx222_1 := (cell_far (p := ⟨gb221, 6, none⟩) (by first | (rw [add_block]; exact hn222_6) | (show (Addr.add _ _).block ≠ _; rw [add_block]; exact hn222_6) | exact hn222_6) (.bool ((rd_T44 l0 x17_1).f6))).trans hx222_1
                        replace hx222_2 := (cell_far (p := ⟨gb221, 6, none⟩) (by first | (rw [add_block]; exact hn222_6) | (show (Addr.add _ _).block ≠ _; rw [add_block]; exact hn222_6) | exact hn222_6) (.bool ((rd_T44 l0 x17_1).f6))).trans hx222_2
                        replace hx222_3 := (cell_far (p := ⟨gb221, 6, none⟩) (by first | (rw [add_block]; exact hn222_6) | (show (Addr.add _ _).block ≠ _; rw [add_block]; exact hn222_6) | exact hn222_6) (.bool ((rd_T44 l0 x17_1).f6))).trans hx222_3
                        replace hx222_4 := (cell_far (p := ⟨gb221, 6, none⟩) (by first | (rw [add_block]; exact hn222_6) | (show (Addr.add _ _).block ≠ _; rw [add_block]; exact hn222_6) | exact hn222_6) (.bool ((rd_T44 l0 x17_1).f6))).trans hx222_4
                        replace hx222_5 := (cell_far (p := ⟨gb221, 6, none⟩) (by first | (rw [add_block]; exact hn222_6) | (show (Addr.add _ _).block ≠ _; rw [add_block]; exact hn222_6) | exact hn222_6) (.bool ((rd_T44 l0 x17_1).f6))).trans hx222_5
                        replace hx222_6 := (cell_far (p := ⟨gb221, 6, none⟩) (by first | (rw [add_block]; exact hn222_6) | (show (Addr.add _ _).block ≠ _; rw [add_block]; exact hn222_6) | exact hn222_6) (.bool ((rd_T44 l0 x17_1).f6))).trans hx222_6
                        replace hx222_7 := (cell_far (p := ⟨gb221, 6, none⟩) (by first | (rw [add_block]; exact hn222_6) | (show (Addr.add _ _).block ≠ _; rw [add_block]; exact hn222_6) | exact hn222_6) (.bool ((rd_T44 l0 x17_1).f6))).trans hx222_7
                        replace hx222_8 := (cell_far (p := ⟨gb221, 6, none⟩) (by first | (rw [add_block]; exact hn222_6) | (show (Addr.add _ _).block ≠ _; rw [add_block]; exact hn222_6) | exact hn222_6) (.bool ((rd_T44 l0 x17_1).f6))).trans hx222_8
                        replace hx222_9 := (cell_far (p := ⟨gb221, 6, none⟩) (by first | (rw [add_block]; exact hn222_6) | (show (Addr.add _ _).block ≠ _; rw [add_block]; exact hn222_6) | exact hn222_6) (.bool ((rd_T44 l0 x17_1).f6))).trans hx222_9
                        replace hx222_0 := (cell_far (p := ⟨gb221, 7, none⟩) (by first | (rw [add_block]; exact hn222_7) | (show (Addr.add _ _).block ≠ _; rw [add_block]; exact hn222_7) | exact hn222_7) (.bool ((rd_T44 l0 x17_1).f7))).trans hx222_0
                        replace hx222_1 := (cell_far (p := ⟨gb221, 7, none⟩) (by first | (rw [add_block]; exact hn222_7) | (show (Addr.add _ _).block ≠ _; rw [add_block]; exact hn222_7) | exact hn222_7) (.bool ((rd_T44 l0 x17_1).f7))).trans hx222_1
                        replace hx222_2 := (cell_far (p := ⟨gb221, 7, none⟩) (by first | (rw [add_block]; exact hn222_7) | (show (Addr.add _ _).block ≠ _; rw [add_block]; exact hn222_7) | exact hn222_7) (.bool ((rd_T44 l0 x17_1).f7))).trans hx222_2
                        replace hx222_3 := (cell_far (p := ⟨gb221, 7, none⟩) (by first | (rw [add_block]; exact hn222_7) | (show (Addr.add _ _).block ≠ _; rw [add_block]; exact hn222_7) | exact hn222_7) (.bool ((rd_T44 l0 x17_1).f7))).trans hx222_3
                        replace hx222_4 := (cell_far (p := ⟨gb221, 7, none⟩) (by first | (rw [add_block]; exact hn222_7) | (show (Addr.add _ _).block ≠ _; rw [add_block]; exact hn222_7) | exact hn222_7) (.bool ((rd_T44 l0 x17_1).f7))).trans hx222_4
                        replace hx222_5 := (cell_far (p := ⟨gb221, 7, none⟩) (by first | (rw [add_block]; exact hn222_7) | (show (Addr.add _ _).block ≠ _; rw [add_block]; exact hn222_7) | exact hn222_7) (.bool ((rd_T44 l0 x17_1).f7))).trans hx222_5
                        replace hx222_6 := (cell_far (p := ⟨gb221, 7, none⟩) (by first | (rw [add_block]; exact hn222_7) | (show (Addr.add _ _).block ≠ _; rw [add_block]; exact hn222_7) | exact hn222_7) (.bool ((rd_T44 l0 x17_1).f7))).trans hx222_6
                        replace hx222_7 := (cell_far (p := ⟨gb221, 7, none⟩) (by first | (rw [add_block]; exact hn222_7) | (show (Addr.add _ _).block ≠ _; rw [add_block]; exact hn222_7) | exact hn222_7) (.bool ((rd_T44 l0 x17_1).f7))).trans hx222_7
                        replace hx222_8 := (cell_far (p := ⟨gb221, 7, none⟩) (by first | (rw [add_block]; exact hn222_7) | (show (Addr.add _ _).block ≠ _; rw [add_block]; exact hn222_7) | exact hn222_7) (.bool ((rd_T44 l0 x17_1).f7))).trans hx222_8
                        replace hx222_9 := (cell_far (p := ⟨gb221, 7, none⟩) (by first | (rw [add_block]; exact hn222_7) | (show (Addr.add _ _).block ≠ _; rw [add_block]; exact hn222_7) | exact hn222_7) (.bool ((rd_T44 l0 x17_1).f7))).trans hx222_9
                        replace hx222_0 := (cell_far (p := ⟨gb221, 8, none⟩) (by first | (rw [add_block]; exact hn222_8) | (show (Addr.add _ _).block ≠ _; rw [add_block]; exact hn222_8) | exact hn222_8) (.bool ((rd_T44 l0 x17_1).f8))).trans hx222_0
                        replace hx222_1 := (cell_far (p := ⟨gb221, 8, none⟩) (by first | (rw [add_block]; exact hn222_8) | (show (Addr.add _ _).block ≠ _; rw [add_block]; exact hn222_8) | exact hn222_8) (.bool ((rd_T44 l0 x17_1).f8))).trans hx222_1
                        replace hx222_2 := (cell_far (p := ⟨gb221, 8, none⟩) (by first | (rw [add_block]; exact hn222_8) | (show (Addr.add _ _).block ≠ _; rw [add_block]; exact hn222_8) | exact hn222_8) (.bool ((rd_T44 l0 x17_1).f8))).trans hx222_2
                        replace hx222_3 := (cell_far (p := ⟨gb221, 8, none⟩) (by first | (rw [add_block]; exact hn222_8) | (show (Addr.add _ _).block ≠ _; rw [add_block]; exact hn222_8) | exact hn222_8) (.bool ((rd_T44 l0 x17_1).f8))).trans hx222_3
                        replace hx222_4 := (cell_far (p := ⟨gb221, 8, none⟩) (by first | (rw [add_block]; exact hn222_8) | (show (Addr.add _ _).block ≠ _; rw [add_block]; exact hn222_8) | exact hn222_8) (.bool ((rd_T44 l0 x17_1).f8))).trans hx222_4
                        replace hx222_5 := (cell_far (p := ⟨gb221, 8, none⟩) (by first | (rw [add_block]; exact hn222_8) | (show (Addr.add _ _).block ≠ _; rw [add_block]; exact hn222_8) | exact hn222_8) (.bool ((rd_T44 l0 x17_1).f8))).trans hx222_5
                        replace hx222_6 := (cell_far (p := ⟨gb221, 8, none⟩) (by first | (rw [add_block]; exact hn222_8) | (show (Addr.add _ _).block ≠ _; rw [add_block]; exact hn222_8) | exact hn222_8) (.bool ((rd_T44 l0 x17_1).f8))).trans hx222_6
                        replace hx222_7 := (cell_far (p := ⟨gb221, 8, none⟩) (by first | (rw [add_block]; exact hn222_8) | (show (Addr.add _ _).block ≠ _; rw [add_block]; exact hn222_8) | exact hn222_8) (.bool ((rd_T44 l0 x17_1).f8))).trans hx222_7
                        replace hx222_8 := (cell_far (p := ⟨gb221, 8, none⟩) (by first | (rw [add_block]; exact hn222_8) | (show (Addr.add _ _).block ≠ _; rw [add_block]; exact hn222_8) | exact hn222_8) (.bool ((rd_T44 l0 x17_1).f8))).trans hx222_8
                        replace hx222_9 := (cell_far (p := ⟨gb221, 8, none⟩) (by first | (rw [add_block]; exact hn222_8) | (show (Addr.add _ _).block ≠ _; rw [add_block]; exact hn222_8) | exact hn222_8) (.bool ((rd_T44 l0 x17_1).f8))).trans hx222_9
                        replace hx222_0 := (cell_far (p := ⟨gb221, 9, none⟩) (by first | (rw [add_block]; exact hn222_9) | (show (Addr.add _ _).block ≠ _; rw [add_block]; exact hn222_9) | exact hn222_9) (.int .u8 ((rd_T44 l0 x17_1).f9))).trans hx222_0
                        replace hx222_1 := (cell_far (p := ⟨gb221, 9, none⟩) (by first | (rw [add_block]; exact hn222_9) | (show (Addr.add _ _).block ≠ _; rw [add_block]; exact hn222_9) | exact hn222_9) (.int .u8 ((rd_T44 l0 x17_1).f9))).trans hx222_1
                        replace hx222_2 := (cell_far (p := ⟨gb221, 9, none⟩) (by first | (rw [add_block]; exact hn222_9) | (show (Addr.add _ _).block ≠ _; rw [add_block]; exact hn222_9) | exact hn222_9) (.int .u8 ((rd_T44 l0 x17_1).f9))).trans hx222_2
                        replace hx222_3 := (cell_far (p := ⟨gb221, 9, none⟩) (by first | (rw [add_block]; exact hn222_9) | (show (Addr.add _ _).block ≠ _; rw [add_block]; exact hn222_9) | exact hn222_9) (.int .u8 ((rd_T44 l0 x17_1).f9))).trans hx222_3
                        replace hx222_4 := (cell_far (p := ⟨gb221, 9, none⟩) (by first | (rw [add_block]; exact hn222_9) | (show (Addr.add _ _).block ≠ _; rw [add_block]; exact hn222_9) | exact hn222_9) (.int .u8 ((rd_T44 l0 x17_1).f9))).trans hx222_4
                        replace hx222_5 := (cell_far (p := ⟨gb221, 9, none⟩) (by first | (rw [add_block]; exact hn222_9) | (show (Addr.add _ _).block ≠ _; rw [add_block]; exact hn222_9) | exact hn222_9) (.int .u8 ((rd_T44 l0 x17_1).f9))).trans hx222_5
                        replace hx222_6 := (cell_far (p := ⟨gb221, 9, none⟩) (by first | (rw [add_block]; exact hn222_9) | (show (Addr.add _ _).block ≠ _; rw [add_block]; exact hn222_9) | exact hn222_9) (.int .u8 ((rd_T44 l0 x17_1).f9))).trans hx222_6
                        replace hx222_7 := (cell_far (p := ⟨gb221, 9, none⟩) (by first | (rw [add_block]; exact hn222_9) | (show (Addr.add _ _).block ≠ _; rw [add_block]; exact hn222_9) | exact hn222_9) (.int .u8 ((rd_T44 l0 x17_1).f9))).trans hx222_7
                        replace hx222_8 := (cell_far (p := ⟨gb221, 9, none⟩) (by first | (rw [add_block]; exact hn222_9) | (show (Addr.add _ _).block ≠ _; rw [add_block]; exact hn222_9) | exact hn222_9) (.int .u8 ((rd_T44 l0 x17_1).f9))).trans hx222_8
                        replace hx222_9 := (cell_far (p := ⟨gb221, 9, none⟩) (by first | (rw [add_block]; exact hn222_9) | (show (Addr.add _ _).block ≠ _; rw [add_block]; exact hn222_9) | exact hn222_9) (.int .u8 ((rd_T44 l0 x17_1).f9))).trans hx222_9
                        clear hn222_0
                        clear hn222_1
                        clear hn222_2
                        clear hn222_3
                        clear hn222_4
                        clear hn222_5
                        clear hn222_6
                        clear hn222_7
                        clear hn222_8
                        clear hn222_9
                        replace p222 := eq_true p222
                        replace q222 := eq_true q222
                        go_wp2
                        go_meet
                        case rel => (try rw [← Nbq11.out]); exact ⟨_, (!((rd_T44 l0 (ji15)).f2)), (by first | rfl | (simp; done) | (simp only [← hji15] <;> (first | rfl | simp)) | (simp [*]; done)), H', ⟨by have := HK1.out; first | omega | exact Nat.le_refl _⟩, ⟨by (with_reducible repeat (first | apply Kd.R_alloc | apply Kd.R_drewN | apply Kd.R_drew)); exact Kd.R_mono (Kd.R_far (p := ⟨gb221, 9, none⟩) (Kd.R_far (p := ⟨gb221, 8, none⟩) (Kd.R_far (p := ⟨gb221, 7, none⟩) (Kd.R_far (p := ⟨gb221, 6, none⟩) (Kd.R_far (p := ⟨gb221, 5, none⟩) (Kd.R_far (p := ⟨gb221, 4, none⟩) (Kd.R_far (p := ⟨gb221, 3, none⟩) (Kd.R_far (p := ⟨gb221, 2, none⟩) (Kd.R_far (p := ⟨gb221, 1, none⟩) (Kd.R_far (p := ⟨gb221, 0, none⟩) (Kd.R_types HO_5.out BK221.out (by decide)) (fun _ hk => hk.2) (.int .i64 ((rd_T44 l0 x17_1).f0))) (fun _ hk => hk.2) (.int .u16 ((rd_T44 l0 x17_1).f1))) (fun _ hk => hk.2) (.bool (true))) (fun _ hk => hk.2) (.bool ((rd_T44 l0 x17_1).f3))) (fun _ hk => hk.2) (.bool ((rd_T44 l0 x17_1).f4))) (fun _ hk => hk.2) (.bool ((rd_T44 l0 x17_1).f5))) (fun _ hk => hk.2) (.bool ((rd_T44 l0 x17_1).f6))) (fun _ hk => hk.2) (.bool ((rd_T44 l0 x17_1).f7))) (fun _ hk => hk.2) (.bool ((rd_T44 l0 x17_1).f8))) (fun _ hk => hk.2) (.int .u8 ((rd_T44 l0 x17_1).f9))) (fun _ hk => trivial)⟩, ⟨by (with_reducible repeat (first | refine blk_drewN ?_ _ | refine blk_drew ?_ | refine blk_alloc ?_ _)); refine blk_put (cs := #[.int .i64 ((rd_T44 l0 x17_1).f0), .int .u16 ((rd_T44 l0 x17_1).f1), .bool (true), .bool ((rd_T44 l0 x17_1).f3), .bool ((rd_T44 l0 x17_1).f4), .bool ((rd_T44 l0 x17_1).f5), .bool ((rd_T44 l0 x17_1).f6), .bool ((rd_T44 l0 x17_1).f7), .bool ((rd_T44 l0 x17_1).f8), .int .u8 0]) ?_ 9 _ rfl; (with_reducible repeat (first | refine blk_drewN ?_ _ | refine blk_drew ?_ | refine blk_alloc ?_ _)); refine blk_put (cs := #[.int .i64 ((rd_T44 l0 x17_1).f0), .int .u16 ((rd_T44 l0 x17_1).f1), .bool (true), .bool ((rd_T44 l0 x17_1).f3), .bool ((rd_T44 l0 x17_1).f4), .bool ((rd_T44 l0 x17_1).f5), .bool ((rd_T44 l0 x17_1).f6), .bool ((rd_T44 l0 x17_1).f7), .bool false, .int .u8 0]) ?_ 8 _ rfl; (with_reducible repeat (first | refine blk_drewN ?_ _ | refine blk_drew ?_ | refine blk_alloc ?_ _)); refine blk_put (cs := #[.int .i64 ((rd_T44 l0 x17_1).f0), .int .u16 ((rd_T44 l0 x17_1).f1), .bool (true), .bool ((rd_T44 l0 x17_1).f3), .bool ((rd_T44 l0 x17_1).f4), .bool ((rd_T44 l0 x17_1).f5), .bool ((rd_T44 l0 x17_1).f6), .bool false, .bool false, .int .u8 0]) ?_ 7 _ rfl; (with_reducible repeat (first | refine blk_drewN ?_ _ | refine blk_drew ?_ | refine blk_alloc ?_ _)); refine blk_put (cs := #[.int .i64 ((rd_T44 l0 x17_1).f0), .int .u16 ((rd_T44 l0 x17_1).f1), .bool (true), .bool ((rd_T44 l0 x17_1).f3), .bool ((rd_T44 l0 x17_1).f4), .bool ((rd_T44 l0 x17_1).f5), .bool false, .bool false, .bool false, .int .u8 0]) ?_ 6 _ rfl; (with_reducible repeat (first | refine blk_drewN ?_ _ | refine blk_drew ?_ | refine blk_alloc ?_ _)); refine blk_put (cs := #[.int .i64 ((rd_T44 l0 x17_1).f0), .int .u16 ((rd_T44 l0 x17_1).f1), .bool (true), .bool ((rd_T44 l0 x17_1).f3), .bool ((rd_T44 l0 x17_1).f4), .bool false, .bool false, .bool false, .bool false, .int .u8 0]) ?_ 5 _ rfl; (with_reducible repeat (first | refine blk_drewN ?_ _ | refine blk_drew ?_ | refine blk_alloc ?_ _)); refine blk_put (cs := #[.int .i64 ((rd_T44 l0 x17_1).f0), .int .u16 ((rd_T44 l0 x17_1).f1), .bool (true), .bool ((rd_T44 l0 x17_1).f3), .bool false, .bool false, .bool false, .bool false, .bool false, .int .u8 0]) ?_ 4 _ rfl; (with_reducible repeat (first | refine blk_drewN ?_ _ | refine blk_drew ?_ | refine blk_alloc ?_ _)); refine blk_put (cs := #[.int .i64 ((rd_T44 l0 x17_1).f0), .int .u16 ((rd_T44 l0 x17_1).f1), .bool (true), .bool false, .bool false, .bool false, .bool false, .bool false, .bool false, .int .u8 0]) ?_ 3 _ rfl; (with_reducible repeat (first | refine blk_drewN ?_ _ | refine blk_drew ?_ | refine blk_alloc ?_ _)); refine blk_put (cs := #[.int .i64 ((rd_T44 l0 x17_1).f0), .int .u16 ((rd_T44 l0 x17_1).f1), .bool false, .bool false, .bool false, .bool false, .bool false, .bool false, .bool false, .int .u8 0]) ?_ 2 _ rfl; (with_reducible repeat (first | refine blk_drewN ?_ _ | refine blk_drew ?_ | refine blk_alloc ?_ _)); refine blk_put (cs := #[.int .i64 ((rd_T44 l0 x17_1).f0), .int .u16 0, .bool false, .bool false, .bool false, .bool false, .bool false, .bool false, .bool false, .int .u8 0]) ?_ 1 _ rfl; (with_reducible repeat (first | refine blk_drewN ?_ _ | refine blk_drew ?_ | refine blk_alloc ?_ _)); refine blk_put (cs := #[.int .i64 0, .int .u16 0, .bool false, .bool false, .bool false, .bool false, .bool false, .bool false, .bool false, .int .u8 0]) ?_ 0 _ rfl; (with_reducible repeat (first | refine blk_drewN ?_ _ | refine blk_drew ?_ | refine blk_alloc ?_ _)); exact BK221.out⟩, ⟨by repeat (first | (with_reducible first | exact HB.out | apply below_alloc | apply pw_below_drewN | apply below_drew1 | refine below_set ?_ GE221.out) | exact HB.out)⟩⟩
                      · rw [if_neg c17] at H
                        exact absurd H (by simp)
                    · rw [if_neg c16] at H
                      exact absurd H (by simp)
                · replace c12 := Bool.eq_false_iff.mpr c12
                  subst c12
                  have H1 : (tape_Heard.j1 k1 l0 x5_1 false l0 (l0.length : Int) x17_1 ((rd_T44 l0 x17_1).f0) ((rd_T44 l0 x17_1).f1) false ((rd_T44 l0 x17_1).f3) ((rd_T44 l0 x17_1).f4) ((rd_T44 l0 x17_1).f5) ((rd_T44 l0 x17_1).f6) ((rd_T44 l0 x17_1).f7) ((rd_T44 l0 x17_1).f8) ((rd_T44 l0 x17_1).f9)) = some (r1, r2) := by rw [if_neg (show ¬ (false = true) by decide)] at H; exact H
                  clear H
                  have H := H1
                  clear H1
                  have H' := Aside0.mk H
                  clear H
                  have hcz19_0 : w9.cell? ⟨gb221, 0, none⟩ = some (.int .i64 0) := (blk_cell BK221.out 0).trans rfl
                  have hcz19_1 : w9.cell? ⟨gb221, 1, none⟩ = some (.int .u16 0) := (blk_cell BK221.out 1).trans rfl
                  have hcz19_2 : w9.cell? ⟨gb221, 2, none⟩ = some (.bool false) := (blk_cell BK221.out 2).trans rfl
                  have hcz19_3 : w9.cell? ⟨gb221, 3, none⟩ = some (.bool false) := (blk_cell BK221.out 3).trans rfl
                  have hcz19_4 : w9.cell? ⟨gb221, 4, none⟩ = some (.bool false) := (blk_cell BK221.out 4).trans rfl
                  have hcz19_5 : w9.cell? ⟨gb221, 5, none⟩ = some (.bool false) := (blk_cell BK221.out 5).trans rfl
                  have hcz19_6 : w9.cell? ⟨gb221, 6, none⟩ = some (.bool false) := (blk_cell BK221.out 6).trans rfl
                  have hcz19_7 : w9.cell? ⟨gb221, 7, none⟩ = some (.bool false) := (blk_cell BK221.out 7).trans rfl
                  have hcz19_8 : w9.cell? ⟨gb221, 8, none⟩ = some (.bool false) := (blk_cell BK221.out 8).trans rfl
                  have hcz19_9 : w9.cell? ⟨gb221, 9, none⟩ = some (.int .u8 0) := (blk_cell BK221.out 9).trans rfl
                  have hfz19_0 := blk_frozen BK221.out 0
                  have hfz19_1 := blk_frozen BK221.out 1
                  have hfz19_2 := blk_frozen BK221.out 2
                  have hfz19_3 := blk_frozen BK221.out 3
                  have hfz19_4 := blk_frozen BK221.out 4
                  have hfz19_5 := blk_frozen BK221.out 5
                  have hfz19_6 := blk_frozen BK221.out 6
                  have hfz19_7 := blk_frozen BK221.out 7
                  have hfz19_8 := blk_frozen BK221.out 8
                  have hfz19_9 := blk_frozen BK221.out 9
                  go_wp2
                  go_meet
                  case rel => (try rw [← Nbq11.out]); exact ⟨_, (false), (by first | rfl | (simp; done) | (simp [*]; done)), H', ⟨by have := HK1.out; first | omega | exact Nat.le_refl _⟩, ⟨by (with_reducible repeat (first | apply Kd.R_alloc | apply Kd.R_drewN | apply Kd.R_drew)); exact Kd.R_mono (Kd.R_far (p := ⟨gb221, 9, none⟩) (Kd.R_far (p := ⟨gb221, 8, none⟩) (Kd.R_far (p := ⟨gb221, 7, none⟩) (Kd.R_far (p := ⟨gb221, 6, none⟩) (Kd.R_far (p := ⟨gb221, 5, none⟩) (Kd.R_far (p := ⟨gb221, 4, none⟩) (Kd.R_far (p := ⟨gb221, 3, none⟩) (Kd.R_far (p := ⟨gb221, 2, none⟩) (Kd.R_far (p := ⟨gb221, 1, none⟩) (Kd.R_far (p := ⟨gb221, 0, none⟩) (Kd.R_types HO_5.out BK221.out (by decide)) (fun _ hk => hk.2) (.int .i64 ((rd_T44 l0 x17_1).f0))) (fun _ hk => hk.2) (.int .u16 ((rd_T44 l0 x17_1).f1))) (fun _ hk => hk.2) (.bool (false))) (fun _ hk => hk.2) (.bool ((rd_T44 l0 x17_1).f3))) (fun _ hk => hk.2) (.bool ((rd_T44 l0 x17_1).f4))) (fun _ hk => hk.2) (.bool ((rd_T44 l0 x17_1).f5))) (fun _ hk => hk.2) (.bool ((rd_T44 l0 x17_1).f6))) (fun _ hk => hk.2) (.bool ((rd_T44 l0 x17_1).f7))) (fun _ hk => hk.2) (.bool ((rd_T44 l0 x17_1).f8))) (fun _ hk => hk.2) (.int .u8 ((rd_T44 l0 x17_1).f9))) (fun _ hk => trivial)⟩, ⟨by (with_reducible repeat (first | refine blk_drewN ?_ _ | refine blk_drew ?_ | refine blk_alloc ?_ _)); refine blk_put (cs := #[.int .i64 ((rd_T44 l0 x17_1).f0), .int .u16 ((rd_T44 l0 x17_1).f1), .bool (false), .bool ((rd_T44 l0 x17_1).f3), .bool ((rd_T44 l0 x17_1).f4), .bool ((rd_T44 l0 x17_1).f5), .bool ((rd_T44 l0 x17_1).f6), .bool ((rd_T44 l0 x17_1).f7), .bool ((rd_T44 l0 x17_1).f8), .int .u8 0]) ?_ 9 _ rfl; (with_reducible repeat (first | refine blk_drewN ?_ _ | refine blk_drew ?_ | refine blk_alloc ?_ _)); refine blk_put (cs := #[.int .i64 ((rd_T44 l0 x17_1).f0), .int .u16 ((rd_T44 l0 x17_1).f1), .bool (false), .bool ((rd_T44 l0 x17_1).f3), .bool ((rd_T44 l0 x17_1).f4), .bool ((rd_T44 l0 x17_1).f5), .bool ((rd_T44 l0 x17_1).f6), .bool ((rd_T44 l0 x17_1).f7), .bool false, .int .u8 0]) ?_ 8 _ rfl; (with_reducible repeat (first | refine blk_drewN ?_ _ | refine blk_drew ?_ | refine blk_alloc ?_ _)); refine blk_put (cs := #[.int .i64 ((rd_T44 l0 x17_1).f0), .int .u16 ((rd_T44 l0 x17_1).f1), .bool (false), .bool ((rd_T44 l0 x17_1).f3), .bool ((rd_T44 l0 x17_1).f4), .bool ((rd_T44 l0 x17_1).f5), .bool ((rd_T44 l0 x17_1).f6), .bool false, .bool false, .int .u8 0]) ?_ 7 _ rfl; (with_reducible repeat (first | refine blk_drewN ?_ _ | refine blk_drew ?_ | refine blk_alloc ?_ _)); refine blk_put (cs := #[.int .i64 ((rd_T44 l0 x17_1).f0), .int .u16 ((rd_T44 l0 x17_1).f1), .bool (false), .bool ((rd_T44 l0 x17_1).f3), .bool ((rd_T44 l0 x17_1).f4), .bool ((rd_T44 l0 x17_1).f5), .bool false, .bool false, .bool false, .int .u8 0]) ?_ 6 _ rfl; (with_reducible repeat (first | refine blk_drewN ?_ _ | refine blk_drew ?_ | refine blk_alloc ?_ _)); refine blk_put (cs := #[.int .i64 ((rd_T44 l0 x17_1).f0), .int .u16 ((rd_T44 l0 x17_1).f1), .bool (false), .bool ((rd_T44 l0 x17_1).f3), .bool ((rd_T44 l0 x17_1).f4), .bool false, .bool false, .bool false, .bool false, .int .u8 0]) ?_ 5 _ rfl; (with_reducible repeat (first | refine blk_drewN ?_ _ | refine blk_drew ?_ | refine blk_alloc ?_ _)); refine blk_put (cs := #[.int .i64 ((rd_T44 l0 x17_1).f0), .int .u16 ((rd_T44 l0 x17_1).f1), .bool (false), .bool ((rd_T44 l0 x17_1).f3), .bool false, .bool false, .bool false, .bool false, .bool false, .int .u8 0]) ?_ 4 _ rfl; (with_reducible repeat (first | refine blk_drewN ?_ _ | refine blk_drew ?_ | refine blk_alloc ?_ _)); refine blk_put (cs := #[.int .i64 ((rd_T44 l0 x17_1).f0), .int .u16 ((rd_T44 l0 x17_1).f1), .bool (false), .bool false, .bool false, .bool false, .bool false, .bool false, .bool false, .int .u8 0]) ?_ 3 _ rfl; (with_reducible repeat (first | refine blk_drewN ?_ _ | refine blk_drew ?_ | refine blk_alloc ?_ _)); refine blk_put (cs := #[.int .i64 ((rd_T44 l0 x17_1).f0), .int .u16 ((rd_T44 l0 x17_1).f1), .bool false, .bool false, .bool false, .bool false, .bool false, .bool false, .bool false, .int .u8 0]) ?_ 2 _ rfl; (with_reducible repeat (first | refine blk_drewN ?_ _ | refine blk_drew ?_ | refine blk_alloc ?_ _)); refine blk_put (cs := #[.int .i64 ((rd_T44 l0 x17_1).f0), .int .u16 0, .bool false, .bool false, .bool false, .bool false, .bool false, .bool false, .bool false, .int .u8 0]) ?_ 1 _ rfl; (with_reducible repeat (first | refine blk_drewN ?_ _ | refine blk_drew ?_ | refine blk_alloc ?_ _)); refine blk_put (cs := #[.int .i64 0, .int .u16 0, .bool false, .bool false, .bool false, .bool false, .bool false, .bool false, .bool false, .int .u8 0]) ?_ 0 _ rfl; (with_reducible repeat (first | refine blk_drewN ?_ _ | refine blk_drew ?_ | refine blk_alloc ?_ _)); exact BK221.out⟩, ⟨by repeat (first | (with_reducible first | exact HB.out | apply below_alloc | apply pw_below_drewN | apply below_drew1 | refine below_set ?_ GE221.out) | exact HB.out)⟩⟩
              case rest =>
                clear HC8
                try clear c1
                try clear q1
                try clear p2
                try clear q2
                try clear hx2
                try clear c3
                try clear c3b0
                try clear c3b1
                try clear c5
                try clear c5b0
                try clear c6
                try clear c6b0
                try clear p6
                try clear c7
                try clear c7b0
                try clear q11
                try clear c12
                try clear c13
                try clear c13b0
                try clear c13b1
                try clear c16
                try clear c16b0
                try clear c17
                try clear c17b0
                try clear c18
                try clear hcz10_0
                try clear hcz10_1
                try clear hcz10_2
                try clear hcz10_3
                try clear hcz10_4
                try clear hcz10_5
                try clear hcz10_6
                try clear hcz10_7
                try clear hcz10_8
                try clear hcz10_9
                try clear hcz14_0
                try clear hcz14_1
                try clear hcz14_2
                try clear hcz14_3
                try clear hcz14_4
                try clear hcz14_5
                try clear hcz14_6
                try clear hcz14_7
                try clear hcz14_8
                try clear hcz14_9
                try clear hcz18_0
                try clear hcz18_1
                try clear hcz18_2
                try clear hcz18_3
                try clear hcz18_4
                try clear hcz18_5
                try clear hcz18_6
                try clear hcz18_7
                try clear hcz18_8
                try clear hcz18_9
                try clear hcz19_0
                try clear hcz19_1
                try clear hcz19_2
                try clear hcz19_3
                try clear hcz19_4
                try clear hcz19_5
                try clear hcz19_6
                try clear hcz19_7
                try clear hcz19_8
                try clear hcz19_9
                try clear hfz10_0
                try clear hfz10_1
                try clear hfz10_2
                try clear hfz10_3
                try clear hfz10_4
                try clear hfz10_5
                try clear hfz10_6
                try clear hfz10_7
                try clear hfz10_8
                try clear hfz10_9
                try clear hfz14_0
                try clear hfz14_1
                try clear hfz14_2
                try clear hfz14_3
                try clear hfz14_4
                try clear hfz14_5
                try clear hfz14_6
                try clear hfz14_7
                try clear hfz14_8
                try clear hfz14_9
                try clear hfz18_0
                try clear hfz18_1
                try clear hfz18_2
                try clear hfz18_3
                try clear hfz18_4
                try clear hfz18_5
                try clear hfz18_6
                try clear hfz18_7
                try clear hfz18_8
                try clear hfz18_9
                try clear hfz19_0
                try clear hfz19_1
                try clear hfz19_2
                try clear hfz19_3
                try clear hfz19_4
                try clear hfz19_5
                try clear hfz19_6
                try clear hfz19_7
                try clear hfz19_8
                try clear hfz19_9
                try clear hx220_0
                try clear hx220_1
                try clear hx220_2
                try clear hx220_3
                try clear hx220_4
                try clear hx220_5
                try clear hx220_6
                try clear hx220_7
                try clear hx220_8
                try clear hx220_9
                try clear hx222_0
                try clear hx222_1
                try clear hx222_2
                try clear hx222_3
                try clear hx222_4
                try clear hx222_5
                try clear hx222_6
                try clear hx222_7
                try clear hx222_8
                try clear hx222_9
                try clear p2
                try clear p220
                try clear p222
                try clear q220
                try clear q222
                obtain ⟨kq, x8_7, rfl, HA, HJ7, HO_5, BK221, HB⟩ := hcut
                cases kq with
                | zero => exact absurd HA.out (by simp [tape_Heard.j1])
                | succ kj7 =>
                  have H := HA.out
                  clear HA
                  simp only [tape_Heard.j1] at H
                  have HC20 := Aside0.mk H
                  clear H
                  go_upto_if 37 with (fail)
                  go_cut [5] (fun v5 wc => ∃ (kq : Nat) (x5_19 : List (S37)), Aside0 (tape_Heard.j2 kq l0 x5_19 l0 (l0.length : Int) x17_1 ((rd_T44 l0 x17_1).f0) ((rd_T44 l0 x17_1).f1) ((rd_T44 l0 x17_1).f2) ((rd_T44 l0 x17_1).f3) ((rd_T44 l0 x17_1).f4) ((rd_T44 l0 x17_1).f5) ((rd_T44 l0 x17_1).f6) ((rd_T44 l0 x17_1).f7) ((rd_T44 l0 x17_1).f8) ((rd_T44 l0 x17_1).f9) = some (r1, r2)) ∧ Aside0 (kq ≤ kj7) ∧ Aside0 (Kd.R k37 37 wc w.heap.size (fun _ => True) v5 x5_19) ∧ Aside0 (wc.heap[gb221]? = some (.cells #[.int .i64 ((rd_T44 l0 x17_1).f0), .int .u16 ((rd_T44 l0 x17_1).f1), .bool ((rd_T44 l0 x17_1).f2), .bool ((rd_T44 l0 x17_1).f3), .bool ((rd_T44 l0 x17_1).f4), .bool ((rd_T44 l0 x17_1).f5), .bool ((rd_T44 l0 x17_1).f6), .bool ((rd_T44 l0 x17_1).f7), .bool ((rd_T44 l0 x17_1).f8), .int .u8 ((rd_T44 l0 x17_1).f9)] 44 (0, 0))) ∧ Aside0 (Below w.heap.size w wc))
                  case first =>
                    have H := HC20.out
                    clear HC20
                    by_cases c21 : x8_7 = true
                    · subst c21
                      have H1 : (if x5_1.length < 8796093022208 then (tape_Heard.j2 kj7 l0 (x5_1 ++ [(⟨0, 0⟩ : S37)]) l0 (l0.length : Int) x17_1 ((rd_T44 l0 x17_1).f0) ((rd_T44 l0 x17_1).f1) ((rd_T44 l0 x17_1).f2) ((rd_T44 l0 x17_1).f3) ((rd_T44 l0 x17_1).f4) ((rd_T44 l0 x17_1).f5) ((rd_T44 l0 x17_1).f6) ((rd_T44 l0 x17_1).f7) ((rd_T44 l0 x17_1).f8) ((rd_T44 l0 x17_1).f9)) else (none)) = some (r1, r2) := by rw [if_pos rfl] at H; exact H
                      clear H
                      have H := H1
                      clear H1
                      by_cases c22 : x5_1.length < 8796093022208
                      · rw [if_pos c22] at H
                        have LMc22 := Aside0.mk c22
                        clear c22
                        obtain ⟨y223, hy223⟩ : ∃ y_ : List (S37), y_ = (x5_1 ++ [(⟨0, 0⟩ : S37)]) := ⟨_, rfl⟩
                        replace H : (tape_Heard.j2 kj7 l0 y223 l0 (l0.length : Int) x17_1 ((rd_T44 l0 x17_1).f0) ((rd_T44 l0 x17_1).f1) ((rd_T44 l0 x17_1).f2) ((rd_T44 l0 x17_1).f3) ((rd_T44 l0 x17_1).f4) ((rd_T44 l0 x17_1).f5) ((rd_T44 l0 x17_1).f6) ((rd_T44 l0 x17_1).f7) ((rd_T44 l0 x17_1).f8) ((rd_T44 l0 x17_1).f9)) = some (r1, r2) := by first | (rw [hy223]; with_reducible exact H) | (have H2_ := (Option.bind_some _ _).symm.trans H; rw [hy223]; with_reducible exact H2_) | (have H2_ := (Option.bind_some _ _).symm.trans H; with_reducible exact H2_) | with_reducible exact H | (rw [hy223]; exact H) | exact H
                        have Ny223 := Aside0.mk hy223
                        clear hy223
                        have H' := Aside0.mk H
                        clear H
                        go_wp2_with (first | ((with_reducible refine gate_builtin (b := .append) (xs := #[.tmp 38, .tmp 40]) rfl ?_); at_builtin; refine Kd.R_append k37 (w0 := w) w.heap.size rfl (.tmp 38) (.tmp 40) 24 37 (.agg #[(.int .i64 0), (.int .i64 0)]) 16 rfl Tryd.underlying24 info37 rfl (by decide) (by omega) u5 x5_1 (⟨0, 0⟩ : S37) [.int .i64 0, .int .i64 0] (fun _ => True) (fun _ => False) rfl rfl ?aP (fun _ hk => hk.elim) ?aF ?aO ?aB ?aS ?aL ?_; (case aP => exact k37_mkM _ _ _ (⟨0, 0⟩ : S37)); (case aB => exact (by repeat (first | (with_reducible first | exact HB.out | apply below_alloc | apply pw_below_drewN | apply below_drew1 | refine below_set ?_ GE221.out) | exact HB.out))); (case aF => exact (fun _ _ => trivial)); (case aO => exact (by (with_reducible repeat (first | apply Kd.R_alloc | apply Kd.R_drewN | apply Kd.R_drew)); exact HO_5.out)); (case aS => exact (below_size (by repeat (first | (with_reducible first | exact HB.out | apply below_alloc | apply pw_below_drewN | apply below_drew1 | refine below_set ?_ GE221.out) | exact HB.out)))); (case aL => have := LMc22.out; omega); intro v224 w23 ho hb hg hat; rw [← Ny223.out] at ho; have n0_ := Aside0.mk (blk_grown (g := gb221) (o := .cells #[.int .i64 ((rd_T44 l0 x17_1).f0), .int .u16 ((rd_T44 l0 x17_1).f1), .bool ((rd_T44 l0 x17_1).f2), .bool ((rd_T44 l0 x17_1).f3), .bool ((rd_T44 l0 x17_1).f4), .bool ((rd_T44 l0 x17_1).f5), .bool ((rd_T44 l0 x17_1).f6), .bool ((rd_T44 l0 x17_1).f7), .bool ((rd_T44 l0 x17_1).f8), .int .u8 ((rd_T44 l0 x17_1).f9)] 44 (0, 0)) (by (with_reducible repeat (first | refine blk_drewN ?_ _ | refine blk_drew ?_ | refine blk_alloc ?_ _)); exact BK221.out) hg (Kd.R_ne HO_5.out BK221.out (by decide))); have n1_ := Aside0.mk (hb); have n2_ := Aside0.mk (ho); clear BK221; clear HB; clear HO_5; have BK221 := n0_; have HB := n1_; have HO225 := n2_; clear n0_ n1_ n2_; clear ho hb hg hat))
                        go_meet
                        case rel => (try rw [← Nbq11.out]); exact ⟨_, (y223), H', ⟨by have := HK1.out; have := HJ7.out; first | omega | exact Nat.le_refl _⟩, ⟨by (with_reducible repeat (first | apply Kd.R_alloc | apply Kd.R_drewN | apply Kd.R_drew)); exact HO225.out⟩, ⟨by (with_reducible repeat (first | refine blk_drewN ?_ _ | refine blk_drew ?_ | refine blk_alloc ?_ _)); exact BK221.out⟩, ⟨by repeat (first | (with_reducible first | exact HB.out | apply below_alloc | apply pw_below_drewN | apply below_drew1 | refine below_set ?_ GE221.out) | exact HB.out)⟩⟩
                      · rw [if_neg c22] at H
                        exact absurd H (by simp)
                    · replace c21 := Bool.eq_false_iff.mpr c21
                      subst c21
                      have H1 : (tape_Heard.j2 kj7 l0 x5_1 l0 (l0.length : Int) x17_1 ((rd_T44 l0 x17_1).f0) ((rd_T44 l0 x17_1).f1) ((rd_T44 l0 x17_1).f2) ((rd_T44 l0 x17_1).f3) ((rd_T44 l0 x17_1).f4) ((rd_T44 l0 x17_1).f5) ((rd_T44 l0 x17_1).f6) ((rd_T44 l0 x17_1).f7) ((rd_T44 l0 x17_1).f8) ((rd_T44 l0 x17_1).f9)) = some (r1, r2) := by rw [if_neg (show ¬ (false = true) by decide)] at H; exact H
                      clear H
                      have H := H1
                      clear H1
                      have H' := Aside0.mk H
                      clear H
                      go_wp2
                      go_meet
                      case rel => (try rw [← Nbq11.out]); exact ⟨_, (x5_1), H', ⟨by have := HK1.out; have := HJ7.out; first | omega | exact Nat.le_refl _⟩, ⟨by (with_reducible repeat (first | apply Kd.R_alloc | apply Kd.R_drewN | apply Kd.R_drew)); exact HO_5.out⟩, ⟨by (with_reducible repeat (first | refine blk_drewN ?_ _ | refine blk_drew ?_ | refine blk_alloc ?_ _)); exact BK221.out⟩, ⟨by repeat (first | (with_reducible first | exact HB.out | apply below_alloc | apply pw_below_drewN | apply below_drew1 | refine below_set ?_ GE221.out) | exact HB.out)⟩⟩
                  case rest =>
                    clear HC20
                    try clear c1
                    try clear q1
                    try clear c2
                    try clear p2
                    try clear q2
                    try clear hx2
                    try clear c3
                    try clear c3b0
                    try clear c3b1
                    try clear c5
                    try clear c5b0
                    try clear c6
                    try clear c6b0
                    try clear p6
                    try clear c7
                    try clear c7b0
                    try clear q11
                    try clear c12
                    try clear c13
                    try clear c13b0
                    try clear c13b1
                    try clear c16
                    try clear c16b0
                    try clear c17
                    try clear c17b0
                    try clear c18
                    try clear c21
                    try clear c22
                    try clear p22
                    try clear q22
                    try clear hx22
                    try clear hcz10_0
                    try clear hcz10_1
                    try clear hcz10_2
                    try clear hcz10_3
                    try clear hcz10_4
                    try clear hcz10_5
                    try clear hcz10_6
                    try clear hcz10_7
                    try clear hcz10_8
                    try clear hcz10_9
                    try clear hcz14_0
                    try clear hcz14_1
                    try clear hcz14_2
                    try clear hcz14_3
                    try clear hcz14_4
                    try clear hcz14_5
                    try clear hcz14_6
                    try clear hcz14_7
                    try clear hcz14_8
                    try clear hcz14_9
                    try clear hcz18_0
                    try clear hcz18_1
                    try clear hcz18_2
                    try clear hcz18_3
                    try clear hcz18_4
                    try clear hcz18_5
                    try clear hcz18_6
                    try clear hcz18_7
                    try clear hcz18_8
                    try clear hcz18_9
                    try clear hcz19_0
                    try clear hcz19_1
                    try clear hcz19_2
                    try clear hcz19_3
                    try clear hcz19_4
                    try clear hcz19_5
                    try clear hcz19_6
                    try clear hcz19_7
                    try clear hcz19_8
                    try clear hcz19_9
                    try clear hfz10_0
                    try clear hfz10_1
                    try clear hfz10_2
                    try clear hfz10_3
                    try clear hfz10_4
                    try clear hfz10_5
                    try clear hfz10_6
                    try clear hfz10_7
                    try clear hfz10_8
                    try clear hfz10_9
                    try clear hfz14_0
                    try clear hfz14_1
                    try clear hfz14_2
                    try clear hfz14_3
                    try clear hfz14_4
                    try clear hfz14_5
                    try clear hfz14_6
                    try clear hfz14_7
                    try clear hfz14_8
                    try clear hfz14_9
                    try clear hfz18_0
                    try clear hfz18_1
                    try clear hfz18_2
                    try clear hfz18_3
                    try clear hfz18_4
                    try clear hfz18_5
                    try clear hfz18_6
                    try clear hfz18_7
                    try clear hfz18_8
                    try clear hfz18_9
                    try clear hfz19_0
                    try clear hfz19_1
                    try clear hfz19_2
                    try clear hfz19_3
                    try clear hfz19_4
                    try clear hfz19_5
                    try clear hfz19_6
                    try clear hfz19_7
                    try clear hfz19_8
                    try clear hfz19_9
                    try clear hx220_0
                    try clear hx220_1
                    try clear hx220_2
                    try clear hx220_3
                    try clear hx220_4
                    try clear hx220_5
                    try clear hx220_6
                    try clear hx220_7
                    try clear hx220_8
                    try clear hx220_9
                    try clear hx222_0
                    try clear hx222_1
                    try clear hx222_2
                    try clear hx222_3
                    try clear hx222_4
                    try clear hx222_5
                    try clear hx222_6
                    try clear hx222_7
                    try clear hx222_8
                    try clear hx222_9
                    try clear p2
                    try clear p220
                    try clear p222
                    try clear p6
                    try clear q1
                    try clear q11
                    try clear q2
                    try clear q220
                    try clear q222
                    obtain ⟨kq, x5_19, HA, HJ19, HO_5, BK221, HB⟩ := hcut
                    cases kq with
                    | zero => exact absurd HA.out (by simp [tape_Heard.j2])
                    | succ kj19 =>
                      have H := HA.out
                      clear HA
                      simp only [tape_Heard.j2] at H
                      by_cases c24 : ((rd_T44 l0 x17_1).f2) = true
                      · rw [if_pos c24] at H
                        have c24b0 : ((rd_T44 l0 x17_1).f2) = true := c24
                        clear c24
                        obtain ⟨ji25, hji25⟩ : ∃ j_ : Int, (wrap64 ((x5_19.length : Int) - 1)) = j_ := ⟨_, rfl⟩
                        replace H : (if 0 ≤ (ji25) then (if (ji25) < (x5_19.length : Int) then (tape_Heard.l0 kj19 l0 (x5_19.set ((ji25) : Int).toNat (⟨wrap64 (((rd_T37 x5_19 (ji25)).f0) + ((rd_T44 l0 x17_1).f0)), (rd_T37 x5_19 (ji25)).f1⟩ : S37)) l0 (l0.length : Int) (wrap64 (x17_1 + 1))) else (none)) else (none)) = some (r1, r2) := by first | (rw [hji25] at H; exact H) | (simp only [hji25] at H ⊢; exact H)
                        have hji25w : (IntKind.i64.wrap ((x5_19.length : Int) - 1)) = ji25 := (i64_w _).trans hji25
                        by_cases c26 : 0 ≤ (ji25)
                        · rw [if_pos c26] at H
                          have c26b0 : decide (0 ≤ (ji25)) = true := decide_eq_true c26
                          clear c26
                          by_cases c27 : (ji25) < (x5_19.length : Int)
                          · rw [if_pos c27] at H
                            have c27b0 : decide ((ji25) < (x5_19.length : Int)) = true := decide_eq_true c27
                            clear c27
                            obtain ⟨y227, hy227⟩ : ∃ y_ : List (S37), y_ = (x5_19.set ((ji25) : Int).toNat (⟨wrap64 (((rd_T37 x5_19 (ji25)).f0) + ((rd_T44 l0 x17_1).f0)), (rd_T37 x5_19 (ji25)).f1⟩ : S37)) := ⟨_, rfl⟩
                            replace H : (tape_Heard.l0 kj19 l0 y227 l0 (l0.length : Int) (wrap64 (x17_1 + 1))) = some (r1, r2) := by first | (rw [hy227]; with_reducible exact H) | (have H2_ := (Option.bind_some _ _).symm.trans H; rw [hy227]; with_reducible exact H2_) | (have H2_ := (Option.bind_some _ _).symm.trans H; with_reducible exact H2_) | with_reducible exact H | (rw [hy227]; exact H) | exact H
                            have Ny227 := Aside0.mk hy227
                            clear hy227
                            have H' := Aside0.mk H
                            clear H
                            obtain ⟨Ao29, co29, eo29⟩ := Kd.R_slice HO_5.out
                            subst eo29
                            have hcz30_0 : wc.cell? ⟨gb221, 0, none⟩ = some (.int .i64 ((rd_T44 l0 x17_1).f0)) := (blk_cell BK221.out 0).trans rfl
                            have hcz30_1 : wc.cell? ⟨gb221, 1, none⟩ = some (.int .u16 ((rd_T44 l0 x17_1).f1)) := (blk_cell BK221.out 1).trans rfl
                            have hcz30_2 : wc.cell? ⟨gb221, 2, none⟩ = some (.bool ((rd_T44 l0 x17_1).f2)) := (blk_cell BK221.out 2).trans rfl
                            have hcz30_3 : wc.cell? ⟨gb221, 3, none⟩ = some (.bool ((rd_T44 l0 x17_1).f3)) := (blk_cell BK221.out 3).trans rfl
                            have hcz30_4 : wc.cell? ⟨gb221, 4, none⟩ = some (.bool ((rd_T44 l0 x17_1).f4)) := (blk_cell BK221.out 4).trans rfl
                            have hcz30_5 : wc.cell? ⟨gb221, 5, none⟩ = some (.bool ((rd_T44 l0 x17_1).f5)) := (blk_cell BK221.out 5).trans rfl
                            have hcz30_6 : wc.cell? ⟨gb221, 6, none⟩ = some (.bool ((rd_T44 l0 x17_1).f6)) := (blk_cell BK221.out 6).trans rfl
                            have hcz30_7 : wc.cell? ⟨gb221, 7, none⟩ = some (.bool ((rd_T44 l0 x17_1).f7)) := (blk_cell BK221.out 7).trans rfl
                            have hcz30_8 : wc.cell? ⟨gb221, 8, none⟩ = some (.bool ((rd_T44 l0 x17_1).f8)) := (blk_cell BK221.out 8).trans rfl
                            have hcz30_9 : wc.cell? ⟨gb221, 9, none⟩ = some (.int .u8 ((rd_T44 l0 x17_1).f9)) := (blk_cell BK221.out 9).trans rfl
                            have hfz30_0 := blk_frozen BK221.out 0
                            have hfz30_1 := blk_frozen BK221.out 1
                            have hfz30_2 := blk_frozen BK221.out 2
                            have hfz30_3 := blk_frozen BK221.out 3
                            have hfz30_4 := blk_frozen BK221.out 4
                            have hfz30_5 := blk_frozen BK221.out 5
                            have hfz30_6 := blk_frozen BK221.out 6
                            have hfz30_7 := blk_frozen BK221.out 7
                            have hfz30_8 := blk_frozen BK221.out 8
                            have hfz30_9 := blk_frozen BK221.out 9
                            try go_wp2
                            have n0_ := Aside0.mk (Kd.R_drew HO_5.out)
                            have n1_ := Aside0.mk (blk_drew BK221.out)
                            have n2_ := Aside0.mk (below_drew1 HB.out)
                            clear HO_5
                            clear BK221
                            clear HB
                            have HO_5 := n0_
                            have BK221 := n1_
                            have HB := n2_
                            clear n0_ n1_ n2_
                            have p226 : 0 ≤ ((ji25) : Int) := of_decide_eq_true (by first | (with_reducible assumption) | assumption)
                            have q226 : (ji25) < (x5_19.length : Int) := of_decide_eq_true (by first | (with_reducible assumption) | assumption)
                            obtain ⟨ad226, e226, hx226_0, hx226_1⟩ := at_T37 (Kd.R_reads' HO_5.out).2.2 (ji25) p226 q226
                            cases e226
                            replace p226 := eq_true p226
                            replace q226 := eq_true q226
                            have p28 : 0 ≤ ((ji25) : Int) := of_decide_eq_true (by first | (with_reducible assumption) | assumption)
                            have q28 : ((ji25) : Int) < ((x5_19.length : Int) : Int) := of_decide_eq_true (by first | (with_reducible assumption) | assumption)
                            obtain ⟨go28, co28, eo28, gb28, gl28, cl28, HG28⟩ := Kd.R_form HO_5.out (by omega)
                            (first | cases eo28 | (injection eo28 with ea_ en_ ec_; (first | subst ea_ | (injection ea_ with ea_; subst ea_)); subst ec_; clear en_))
                            have GB28 := Aside0.mk gb28
                            have GG28 := Aside0.mk HG28
                            clear gb28 gl28 HG28
                            (first | simp only [add_plain] at hx226_0 | skip)
                            (first | simp only [add_plain] at hx226_1 | skip)
                            obtain ⟨ce28, hcl28, hM28, hcc28, hfr28⟩ := Kd.R_elem HO_5.out z37 ((ji25) : Int) p28 q28
                            obtain rfl := k37_openM hM28
                            have hx28_0 : World.cell? _ ⟨go28, ((ji25) : Int).toNat * 2, none⟩ = some (.int .i64 ((rd_T37 x5_19 (ji25)).f0)) := hcc28 0 _ rfl
                            have hx28_1 : World.cell? _ ⟨go28, ((ji25) : Int).toNat * 2 + 1, none⟩ = some (.int .i64 ((rd_T37 x5_19 (ji25)).f1)) := hcc28 1 _ rfl
                            have hf28_0 : World.frozen? _ ⟨go28, ((ji25) : Int).toNat * 2, none⟩ = false := hfr28 0
                            have hf28_1 : World.frozen? _ ⟨go28, ((ji25) : Int).toNat * 2 + 1, none⟩ = false := hfr28 1
                            clear hcl28 hcc28 hfr28 hM28
                            replace p28 := eq_true p28
                            replace q28 := eq_true q28
                            obtain ⟨ce32, hcl32, hM32, hcc32, hfr32⟩ := Kd.R_elem HO_5.out z37 ((ji25) : Int) (of_decide_eq_true (by first | (with_reducible assumption) | assumption)) (by have h_ : ((ji25) : Int) < ((x5_19.length : Int) : Int) := of_decide_eq_true (by first | (with_reducible assumption) | assumption); first | exact h_ | (have e_ := (Kd.R_reads' HO_5.out).1; omega) | simpa using h_)
                            obtain rfl := k37_openM hM32
                            have HP32 := (Kd.R_seg HO_5.out ((ji25) : Int) (of_decide_eq_true (by first | (with_reducible assumption) | assumption)) (by have h_ : ((ji25) : Int) < ((x5_19.length : Int) : Int) := of_decide_eq_true (by first | (with_reducible assumption) | assumption); first | exact h_ | (have e_ := (Kd.R_reads' HO_5.out).1; omega) | simpa using h_) (seg := [.int .i64 (wrap64 (((rd_T37 x5_19 (ji25)).f0) + ((rd_T44 l0 x17_1).f0)))]) (j := 0) hcl32 hcc32 (show 1 ≤ 2 from by decide) (x' := (⟨wrap64 (((rd_T37 x5_19 (ji25)).f0) + ((rd_T44 l0 x17_1).f0)), (rd_T37 x5_19 (ji25)).f1⟩ : S37)) (k37_mkM _ _ _ (⟨wrap64 (((rd_T37 x5_19 (ji25)).f0) + ((rd_T44 l0 x17_1).f0)), (rd_T37 x5_19 (ji25)).f1⟩ : S37) ) (fun _ hk => hk)).1
                            rw [← Ny227.out] at HP32
                            have HQ32 := Aside0.mk HP32
                            clear hcl32 hcc32 hfr32 hM32 HP32
                            refine start_ (n := 12) (S := fun w' => w'.cell? ⟨gb221, 0, none⟩ = some (.int .i64 ((rd_T44 l0 x17_1).f0)) ∧ w'.cell? ⟨gb221, 1, none⟩ = some (.int .u16 ((rd_T44 l0 x17_1).f1)) ∧ w'.cell? ⟨gb221, 2, none⟩ = some (.bool ((rd_T44 l0 x17_1).f2)) ∧ w'.cell? ⟨gb221, 3, none⟩ = some (.bool ((rd_T44 l0 x17_1).f3)) ∧ w'.cell? ⟨gb221, 4, none⟩ = some (.bool ((rd_T44 l0 x17_1).f4)) ∧ w'.cell? ⟨gb221, 5, none⟩ = some (.bool ((rd_T44 l0 x17_1).f5)) ∧ w'.cell? ⟨gb221, 6, none⟩ = some (.bool ((rd_T44 l0 x17_1).f6)) ∧ w'.cell? ⟨gb221, 7, none⟩ = some (.bool ((rd_T44 l0 x17_1).f7)) ∧ w'.cell? ⟨gb221, 8, none⟩ = some (.bool ((rd_T44 l0 x17_1).f8)) ∧ w'.cell? ⟨gb221, 9, none⟩ = some (.int .u8 ((rd_T44 l0 x17_1).f9)) ∧ w'.cell? ⟨go28, ((ji25) : Int).toNat * 2, none⟩ = some (.int .i64 ((rd_T37 x5_19 (ji25)).f0)) ∧ w'.cell? ⟨go28, ((ji25) : Int).toNat * 2 + 1, none⟩ = some (.int .i64 ((rd_T37 x5_19 (ji25)).f1))) (ds := [11]) #[false, false, false, false, false, false, false, false, false, false, false, false] (by kernel_rfl) rfl rfl ⟨(blk_cell BK221.out 0).trans rfl, (blk_cell BK221.out 1).trans rfl, (blk_cell BK221.out 2).trans rfl, (blk_cell BK221.out 3).trans rfl, (blk_cell BK221.out 4).trans rfl, (blk_cell BK221.out 5).trans rfl, (blk_cell BK221.out 6).trans rfl, (blk_cell BK221.out 7).trans rfl, (blk_cell BK221.out 8).trans rfl, (blk_cell BK221.out 9).trans rfl, hx226_0, hx226_1⟩ (fun hHeld => ?_); refine with_tabW tape_Heard.tab13 tape_Heard.bits13 (fun HT_ HW_ => ?_)
                            generalize wc.drew = w31 at HO_5 BK221 HB GG28 HQ32 hf28_0 hf28_1 hx226_0 hx226_1 hx28_0 hx28_1 hHeld ⊢
                            refine pure_ (i := 0) (N := some 47) (v := ?_) (a' := ?_) #[true, false, false, false, false, false, false, false, false, false, false, false] rfl rfl (any_of HT_.out (by kernel_rfl)) (fun _ _ _ h => h) (Or.inl ⟨by rfl, ?_⟩) ?_ ?_
                            rotate_left
                            · intro w'
                              go_simp
                              with_reducible rfl
                            rotate_left
                            · simp only [Act.put, List.setIfInBounds_toArray, List.set_cons_zero, List.set_cons_succ, i64_w, i32_w]
                              rfl
                            refine pure_ (i := 1) (N := some 48) (v := ?_) (a' := ?_) #[true, true, false, false, false, false, false, false, false, false, false, false] rfl rfl (any_of HT_.out (by kernel_rfl)) (fun _ _ _ h => h) (Or.inl ⟨by rfl, ?_⟩) ?_ ?_
                            rotate_left
                            · intro w'
                              go_simp
                              with_reducible rfl
                            rotate_left
                            · simp only [Act.put, List.setIfInBounds_toArray, List.set_cons_zero, List.set_cons_succ, i64_w, i32_w]
                              rfl
                            refine pure_ (i := 2) (N := some 49) (v := ?_) (a' := ?_) #[true, true, true, false, false, false, false, false, false, false, false, false] rfl rfl (any_of HT_.out (by kernel_rfl)) (fun _ _ _ h => h) (Or.inl ⟨by rfl, ?_⟩) ?_ ?_
                            rotate_left
                            · intro w'
                              go_simp
                              with_reducible rfl
                            rotate_left
                            · simp only [Act.put, List.setIfInBounds_toArray, List.set_cons_zero, List.set_cons_succ, i64_w, i32_w]
                              rfl
                            refine pure_ (i := 3) (N := some 50) (v := ?_) (a' := ?_) #[true, true, true, true, false, false, false, false, false, false, false, false] rfl rfl (any_of HT_.out (by kernel_rfl)) (fun _ _ _ h => h) (Or.inl ⟨by rfl, ?_⟩) ?_ ?_
                            rotate_left
                            · intro w'
                              go_simp
                              with_reducible rfl
                            rotate_left
                            · simp only [Act.put, List.setIfInBounds_toArray, List.set_cons_zero, List.set_cons_succ, i64_w, i32_w]
                              rfl
                            refine pure_ (i := 4) (N := some 51) (v := ?_) (a' := ?_) #[true, true, true, true, true, false, false, false, false, false, false, false] rfl rfl (any_of HT_.out (by kernel_rfl)) (fun _ _ _ h => h) (Or.inl ⟨by rfl, ?_⟩) ?_ ?_
                            rotate_left
                            · intro w'
                              go_simp
                              with_reducible rfl
                            rotate_left
                            · simp only [Act.put, List.setIfInBounds_toArray, List.set_cons_zero, List.set_cons_succ, i64_w, i32_w]
                              rfl
                            refine pure_ (i := 6) (N := some 53) (v := ?_) (a' := ?_) #[true, true, true, true, true, false, true, false, false, false, false, false] rfl rfl (any_of HT_.out (by kernel_rfl)) (fun _ _ _ h => h) (Or.inl ⟨by rfl, ?_⟩) ?_ ?_
                            rotate_left
                            · intro w'
                              go_simp
                              with_reducible rfl
                            rotate_left
                            · simp only [Act.put, List.setIfInBounds_toArray, List.set_cons_zero, List.set_cons_succ, i64_w, i32_w]
                              rfl
                            refine take_ (i := 5) (N := some 52) (v := ?_) (a' := ?_) #[true, true, true, true, true, true, true, false, false, false, false, false] rfl rfl (take_ofW HT_.out HW_.out (by kernel_rfl)) (fun _ _ _ h => h) (Or.inl ⟨by rfl, ?_⟩) hHeld ?_ ?_
                            rotate_left
                            · rintro w' ⟨s0, s1, s2, s3, s4, s5, s6, s7, s8, s9, s10, s11⟩
                              go_simp
                              with_reducible rfl
                            rotate_left
                            · simp only [Act.put, List.setIfInBounds_toArray, List.set_cons_zero, List.set_cons_succ, i64_w, i32_w]
                              rfl
                            refine take_ (i := 7) (N := some 54) (v := ?_) (a' := ?_) #[true, true, true, true, true, true, true, true, false, false, false, false] rfl rfl (take_ofW HT_.out HW_.out (by kernel_rfl)) (fun _ _ _ h => h) (Or.inl ⟨by rfl, ?_⟩) hHeld ?_ ?_
                            rotate_left
                            · rintro w' ⟨s0, s1, s2, s3, s4, s5, s6, s7, s8, s9, s10, s11⟩
                              go_simp
                              with_reducible rfl
                            rotate_left
                            · simp only [Act.put, List.setIfInBounds_toArray, List.set_cons_zero, List.set_cons_succ, i64_w, i32_w]
                              rfl
                            refine pure_ (i := 8) (N := some 55) (v := ?_) (a' := ?_) #[true, true, true, true, true, true, true, true, true, false, false, false] rfl rfl (any_of HT_.out (by kernel_rfl)) (fun _ _ _ h => h) (Or.inl ⟨by rfl, ?_⟩) ?_ ?_
                            rotate_left
                            · intro w'
                              go_simp
                              with_reducible rfl
                            rotate_left
                            · simp only [Act.put, List.setIfInBounds_toArray, List.set_cons_zero, List.set_cons_succ, i64_w, i32_w]
                              rfl
                            refine pure_ (i := 9) (N := some 56) (v := ?_) (a' := ?_) #[true, true, true, true, true, true, true, true, true, true, false, false] rfl rfl (any_of HT_.out (by kernel_rfl)) (fun _ _ _ h => h) (Or.inl ⟨by rfl, ?_⟩) ?_ ?_
                            rotate_left
                            · intro w'
                              go_simp
                              with_reducible rfl
                            rotate_left
                            · simp only [Act.put, List.setIfInBounds_toArray, List.set_cons_zero, List.set_cons_succ, i64_w, i32_w]
                              rfl
                            refine pure_ (i := 10) (N := some 57) (v := ?_) (a' := ?_) #[true, true, true, true, true, true, true, true, true, true, true, false] rfl rfl (any_of HT_.out (by kernel_rfl)) (fun _ _ _ h => h) (Or.inl ⟨by rfl, ?_⟩) ?_ ?_
                            rotate_left
                            · intro w'
                              go_simp
                              with_reducible rfl
                            rotate_left
                            · simp only [Act.put, List.setIfInBounds_toArray, List.set_cons_zero, List.set_cons_succ, i64_w, i32_w]
                              rfl
                            refine last_ (i := 11) (N := none) #[true, true, true, true, true, true, true, true, true, true, true, true] rfl rfl (one_of HT_.out (by kernel_rfl)) (by decide) (fun K hK => ?_)
                            refine skip_ (w1 := ?_) (by rfl) rfl ?_ ?_
                            rotate_left
                            · go_simp
                              rfl
                            refine hK.out _ _ ?_
                            clear hK K
                            refine done_ (done_of HT_.out (by kernel_rfl)) ?_
                            try go_wp2
                            go_roundg kj19
                            case measure => have := HK1.out; have := HJ7.out; have := HJ19.out; omega
                            case rel => (try rw [← Nbq11.out]); exact ⟨(y227), (wrap64 (x17_1 + 1)), (by first | rfl | (simp; done) | (simp [*]; done)), H', ⟨by have := HK1.out; have := HJ7.out; have := HJ19.out; omega⟩, ⟨by (with_reducible repeat (first | apply Kd.R_alloc | apply Kd.R_drewN | apply Kd.R_drew)); exact HQ32.out⟩, ⟨by repeat (first | (with_reducible first | exact HB.out | apply below_alloc | apply pw_below_drewN | apply below_drew1 | refine below_set ?_ GB28.out | refine below_set ?_ GE221.out) | exact HB.out)⟩⟩
                          · rw [if_neg c27] at H
                            exact absurd H (by simp)
                        · rw [if_neg c26] at H
                          exact absurd H (by simp)
                      · rw [if_neg c24] at H
                        have c24b0 : ((rd_T44 l0 x17_1).f2) = false := by simpa using c24
                        clear c24
                        by_cases c33 : (x5_19.length : Int) > 0
                        · rw [if_pos c33] at H
                          have c33b0 : decide (0 < (x5_19.length : Int)) = true := decide_eq_true c33
                          have c33b1 : decide (0 < x5_19.length) = true := decide_eq_true (by omega)
                          clear c33
                          obtain ⟨ji34, hji34⟩ : ∃ j_ : Int, (wrap64 ((x5_19.length : Int) - 1)) = j_ := ⟨_, rfl⟩
                          replace H : (if 0 ≤ (ji34) then (if (ji34) < (x5_19.length : Int) then (tape_Heard.l0 kj19 l0 (x5_19.set ((ji34) : Int).toNat (⟨(rd_T37 x5_19 (ji34)).f0, wrap64 (((rd_T37 x5_19 (ji34)).f1) + ((rd_T44 l0 x17_1).f0))⟩ : S37)) l0 (l0.length : Int) (wrap64 (x17_1 + 1))) else (none)) else (none)) = some (r1, r2) := by first | (rw [hji34] at H; exact H) | (simp only [hji34] at H ⊢; exact H)
                          have hji34w : (IntKind.i64.wrap ((x5_19.length : Int) - 1)) = ji34 := (i64_w _).trans hji34
                          by_cases c35 : 0 ≤ (ji34)
                          · rw [if_pos c35] at H
                            have c35b0 : decide (0 ≤ (ji34)) = true := decide_eq_true c35
                            clear c35
                            by_cases c36 : (ji34) < (x5_19.length : Int)
                            · rw [if_pos c36] at H
                              have c36b0 : decide ((ji34) < (x5_19.length : Int)) = true := decide_eq_true c36
                              clear c36
                              obtain ⟨y229, hy229⟩ : ∃ y_ : List (S37), y_ = (x5_19.set ((ji34) : Int).toNat (⟨(rd_T37 x5_19 (ji34)).f0, wrap64 (((rd_T37 x5_19 (ji34)).f1) + ((rd_T44 l0 x17_1).f0))⟩ : S37)) := ⟨_, rfl⟩
                              replace H : (tape_Heard.l0 kj19 l0 y229 l0 (l0.length : Int) (wrap64 (x17_1 + 1))) = some (r1, r2) := by first | (rw [hy229]; with_reducible exact H) | (have H2_ := (Option.bind_some _ _).symm.trans H; rw [hy229]; with_reducible exact H2_) | (have H2_ := (Option.bind_some _ _).symm.trans H; with_reducible exact H2_) | with_reducible exact H | (rw [hy229]; exact H) | exact H
                              have Ny229 := Aside0.mk hy229
                              clear hy229
                              have H' := Aside0.mk H
                              clear H
                              obtain ⟨Ao38, co38, eo38⟩ := Kd.R_slice HO_5.out
                              subst eo38
                              have hcz39_0 : wc.cell? ⟨gb221, 0, none⟩ = some (.int .i64 ((rd_T44 l0 x17_1).f0)) := (blk_cell BK221.out 0).trans rfl
                              have hcz39_1 : wc.cell? ⟨gb221, 1, none⟩ = some (.int .u16 ((rd_T44 l0 x17_1).f1)) := (blk_cell BK221.out 1).trans rfl
                              have hcz39_2 : wc.cell? ⟨gb221, 2, none⟩ = some (.bool ((rd_T44 l0 x17_1).f2)) := (blk_cell BK221.out 2).trans rfl
                              have hcz39_3 : wc.cell? ⟨gb221, 3, none⟩ = some (.bool ((rd_T44 l0 x17_1).f3)) := (blk_cell BK221.out 3).trans rfl
                              have hcz39_4 : wc.cell? ⟨gb221, 4, none⟩ = some (.bool ((rd_T44 l0 x17_1).f4)) := (blk_cell BK221.out 4).trans rfl
                              have hcz39_5 : wc.cell? ⟨gb221, 5, none⟩ = some (.bool ((rd_T44 l0 x17_1).f5)) := (blk_cell BK221.out 5).trans rfl
                              have hcz39_6 : wc.cell? ⟨gb221, 6, none⟩ = some (.bool ((rd_T44 l0 x17_1).f6)) := (blk_cell BK221.out 6).trans rfl
                              have hcz39_7 : wc.cell? ⟨gb221, 7, none⟩ = some (.bool ((rd_T44 l0 x17_1).f7)) := (blk_cell BK221.out 7).trans rfl
                              have hcz39_8 : wc.cell? ⟨gb221, 8, none⟩ = some (.bool ((rd_T44 l0 x17_1).f8)) := (blk_cell BK221.out 8).trans rfl
                              have hcz39_9 : wc.cell? ⟨gb221, 9, none⟩ = some (.int .u8 ((rd_T44 l0 x17_1).f9)) := (blk_cell BK221.out 9).trans rfl
                              have hfz39_0 := blk_frozen BK221.out 0
                              have hfz39_1 := blk_frozen BK221.out 1
                              have hfz39_2 := blk_frozen BK221.out 2
                              have hfz39_3 := blk_frozen BK221.out 3
                              have hfz39_4 := blk_frozen BK221.out 4
                              have hfz39_5 := blk_frozen BK221.out 5
                              have hfz39_6 := blk_frozen BK221.out 6
                              have hfz39_7 := blk_frozen BK221.out 7
                              have hfz39_8 := blk_frozen BK221.out 8
                              have hfz39_9 := blk_frozen BK221.out 9
                              try go_wp2
                              have n0_ := Aside0.mk (Kd.R_drew HO_5.out)
                              have n1_ := Aside0.mk (blk_drew BK221.out)
                              have n2_ := Aside0.mk (below_drew1 HB.out)
                              clear HO_5
                              clear BK221
                              clear HB
                              have HO_5 := n0_
                              have BK221 := n1_
                              have HB := n2_
                              clear n0_ n1_ n2_
                              have p228 : 0 ≤ ((ji34) : Int) := of_decide_eq_true (by first | (with_reducible assumption) | assumption)
                              have q228 : (ji34) < (x5_19.length : Int) := of_decide_eq_true (by first | (with_reducible assumption) | assumption)
                              obtain ⟨ad228, e228, hx228_0, hx228_1⟩ := at_T37 (Kd.R_reads' HO_5.out).2.2 (ji34) p228 q228
                              cases e228
                              replace p228 := eq_true p228
                              replace q228 := eq_true q228
                              have p37 : 0 ≤ ((ji34) : Int) := of_decide_eq_true (by first | (with_reducible assumption) | assumption)
                              have q37 : ((ji34) : Int) < ((x5_19.length : Int) : Int) := of_decide_eq_true (by first | (with_reducible assumption) | assumption)
                              obtain ⟨go37, co37, eo37, gb37, gl37, cl37, HG37⟩ := Kd.R_form HO_5.out (by omega)
                              (first | cases eo37 | (injection eo37 with ea_ en_ ec_; (first | subst ea_ | (injection ea_ with ea_; subst ea_)); subst ec_; clear en_))
                              have GB37 := Aside0.mk gb37
                              have GG37 := Aside0.mk HG37
                              clear gb37 gl37 HG37
                              (first | simp only [add_plain] at hx228_0 | skip)
                              (first | simp only [add_plain] at hx228_1 | skip)
                              obtain ⟨ce37, hcl37, hM37, hcc37, hfr37⟩ := Kd.R_elem HO_5.out z37 ((ji34) : Int) p37 q37
                              obtain rfl := k37_openM hM37
                              have hx37_0 : World.cell? _ ⟨go37, ((ji34) : Int).toNat * 2, none⟩ = some (.int .i64 ((rd_T37 x5_19 (ji34)).f0)) := hcc37 0 _ rfl
                              have hx37_1 : World.cell? _ ⟨go37, ((ji34) : Int).toNat * 2 + 1, none⟩ = some (.int .i64 ((rd_T37 x5_19 (ji34)).f1)) := hcc37 1 _ rfl
                              have hf37_0 : World.frozen? _ ⟨go37, ((ji34) : Int).toNat * 2, none⟩ = false := hfr37 0
                              have hf37_1 : World.frozen? _ ⟨go37, ((ji34) : Int).toNat * 2 + 1, none⟩ = false := hfr37 1
                              clear hcl37 hcc37 hfr37 hM37
                              replace p37 := eq_true p37
                              replace q37 := eq_true q37
                              obtain ⟨ce41, hcl41, hM41, hcc41, hfr41⟩ := Kd.R_elem HO_5.out z37 ((ji34) : Int) (of_decide_eq_true (by first | (with_reducible assumption) | assumption)) (by have h_ : ((ji34) : Int) < ((x5_19.length : Int) : Int) := of_decide_eq_true (by first | (with_reducible assumption) | assumption); first | exact h_ | (have e_ := (Kd.R_reads' HO_5.out).1; omega) | simpa using h_)
                              obtain rfl := k37_openM hM41
                              have HP41 := (Kd.R_seg HO_5.out ((ji34) : Int) (of_decide_eq_true (by first | (with_reducible assumption) | assumption)) (by have h_ : ((ji34) : Int) < ((x5_19.length : Int) : Int) := of_decide_eq_true (by first | (with_reducible assumption) | assumption); first | exact h_ | (have e_ := (Kd.R_reads' HO_5.out).1; omega) | simpa using h_) (seg := [.int .i64 (wrap64 (((rd_T37 x5_19 (ji34)).f1) + ((rd_T44 l0 x17_1).f0)))]) (j := 1) hcl41 hcc41 (show 2 ≤ 2 from by decide) (x' := (⟨(rd_T37 x5_19 (ji34)).f0, wrap64 (((rd_T37 x5_19 (ji34)).f1) + ((rd_T44 l0 x17_1).f0))⟩ : S37)) (k37_mkM _ _ _ (⟨(rd_T37 x5_19 (ji34)).f0, wrap64 (((rd_T37 x5_19 (ji34)).f1) + ((rd_T44 l0 x17_1).f0))⟩ : S37) ) (fun _ hk => hk)).1
                              rw [← Ny229.out] at HP41
                              have HQ41 := Aside0.mk HP41
                              clear hcl41 hcc41 hfr41 hM41 HP41
                              refine start_ (n := 12) (S := fun w' => w'.cell? ⟨gb221, 0, none⟩ = some (.int .i64 ((rd_T44 l0 x17_1).f0)) ∧ w'.cell? ⟨gb221, 1, none⟩ = some (.int .u16 ((rd_T44 l0 x17_1).f1)) ∧ w'.cell? ⟨gb221, 2, none⟩ = some (.bool ((rd_T44 l0 x17_1).f2)) ∧ w'.cell? ⟨gb221, 3, none⟩ = some (.bool ((rd_T44 l0 x17_1).f3)) ∧ w'.cell? ⟨gb221, 4, none⟩ = some (.bool ((rd_T44 l0 x17_1).f4)) ∧ w'.cell? ⟨gb221, 5, none⟩ = some (.bool ((rd_T44 l0 x17_1).f5)) ∧ w'.cell? ⟨gb221, 6, none⟩ = some (.bool ((rd_T44 l0 x17_1).f6)) ∧ w'.cell? ⟨gb221, 7, none⟩ = some (.bool ((rd_T44 l0 x17_1).f7)) ∧ w'.cell? ⟨gb221, 8, none⟩ = some (.bool ((rd_T44 l0 x17_1).f8)) ∧ w'.cell? ⟨gb221, 9, none⟩ = some (.int .u8 ((rd_T44 l0 x17_1).f9)) ∧ w'.cell? ⟨go37, ((ji34) : Int).toNat * 2, none⟩ = some (.int .i64 ((rd_T37 x5_19 (ji34)).f0)) ∧ w'.cell? ⟨go37, ((ji34) : Int).toNat * 2 + 1, none⟩ = some (.int .i64 ((rd_T37 x5_19 (ji34)).f1))) (ds := [11]) #[false, false, false, false, false, false, false, false, false, false, false, false] (by kernel_rfl) rfl rfl ⟨(blk_cell BK221.out 0).trans rfl, (blk_cell BK221.out 1).trans rfl, (blk_cell BK221.out 2).trans rfl, (blk_cell BK221.out 3).trans rfl, (blk_cell BK221.out 4).trans rfl, (blk_cell BK221.out 5).trans rfl, (blk_cell BK221.out 6).trans rfl, (blk_cell BK221.out 7).trans rfl, (blk_cell BK221.out 8).trans rfl, (blk_cell BK221.out 9).trans rfl, hx228_0, hx228_1⟩ (fun hHeld => ?_); refine with_tabW tape_Heard.tab15 tape_Heard.bits15 (fun HT_ HW_ => ?_)
                              generalize wc.drew = w40 at HO_5 BK221 HB GG37 HQ41 hf37_0 hf37_1 hx228_0 hx228_1 hx37_0 hx37_1 hHeld ⊢
                              refine pure_ (i := 0) (N := some 61) (v := ?_) (a' := ?_) #[true, false, false, false, false, false, false, false, false, false, false, false] rfl rfl (any_of HT_.out (by kernel_rfl)) (fun _ _ _ h => h) (Or.inl ⟨by rfl, ?_⟩) ?_ ?_
                              rotate_left
                              · intro w'
                                go_simp
                                with_reducible rfl
                              rotate_left
                              · simp only [Act.put, List.setIfInBounds_toArray, List.set_cons_zero, List.set_cons_succ, i64_w, i32_w]
                                rfl
                              refine pure_ (i := 1) (N := some 62) (v := ?_) (a' := ?_) #[true, true, false, false, false, false, false, false, false, false, false, false] rfl rfl (any_of HT_.out (by kernel_rfl)) (fun _ _ _ h => h) (Or.inl ⟨by rfl, ?_⟩) ?_ ?_
                              rotate_left
                              · intro w'
                                go_simp
                                with_reducible rfl
                              rotate_left
                              · simp only [Act.put, List.setIfInBounds_toArray, List.set_cons_zero, List.set_cons_succ, i64_w, i32_w]
                                rfl
                              refine pure_ (i := 2) (N := some 63) (v := ?_) (a' := ?_) #[true, true, true, false, false, false, false, false, false, false, false, false] rfl rfl (any_of HT_.out (by kernel_rfl)) (fun _ _ _ h => h) (Or.inl ⟨by rfl, ?_⟩) ?_ ?_
                              rotate_left
                              · intro w'
                                go_simp
                                with_reducible rfl
                              rotate_left
                              · simp only [Act.put, List.setIfInBounds_toArray, List.set_cons_zero, List.set_cons_succ, i64_w, i32_w]
                                rfl
                              refine pure_ (i := 3) (N := some 64) (v := ?_) (a' := ?_) #[true, true, true, true, false, false, false, false, false, false, false, false] rfl rfl (any_of HT_.out (by kernel_rfl)) (fun _ _ _ h => h) (Or.inl ⟨by rfl, ?_⟩) ?_ ?_
                              rotate_left
                              · intro w'
                                go_simp
                                with_reducible rfl
                              rotate_left
                              · simp only [Act.put, List.setIfInBounds_toArray, List.set_cons_zero, List.set_cons_succ, i64_w, i32_w]
                                rfl
                              refine pure_ (i := 4) (N := some 65) (v := ?_) (a' := ?_) #[true, true, true, true, true, false, false, false, false, false, false, false] rfl rfl (any_of HT_.out (by kernel_rfl)) (fun _ _ _ h => h) (Or.inl ⟨by rfl, ?_⟩) ?_ ?_
                              rotate_left
                              · intro w'
                                go_simp
                                with_reducible rfl
                              rotate_left
                              · simp only [Act.put, List.setIfInBounds_toArray, List.set_cons_zero, List.set_cons_succ, i64_w, i32_w]
                                rfl
                              refine pure_ (i := 6) (N := some 67) (v := ?_) (a' := ?_) #[true, true, true, true, true, false, true, false, false, false, false, false] rfl rfl (any_of HT_.out (by kernel_rfl)) (fun _ _ _ h => h) (Or.inl ⟨by rfl, ?_⟩) ?_ ?_
                              rotate_left
                              · intro w'
                                go_simp
                                with_reducible rfl
                              rotate_left
                              · simp only [Act.put, List.setIfInBounds_toArray, List.set_cons_zero, List.set_cons_succ, i64_w, i32_w]
                                rfl
                              refine take_ (i := 5) (N := some 66) (v := ?_) (a' := ?_) #[true, true, true, true, true, true, true, false, false, false, false, false] rfl rfl (take_ofW HT_.out HW_.out (by kernel_rfl)) (fun _ _ _ h => h) (Or.inl ⟨by rfl, ?_⟩) hHeld ?_ ?_
                              rotate_left
                              · rintro w' ⟨s0, s1, s2, s3, s4, s5, s6, s7, s8, s9, s10, s11⟩
                                go_simp
                                with_reducible rfl
                              rotate_left
                              · simp only [Act.put, List.setIfInBounds_toArray, List.set_cons_zero, List.set_cons_succ, i64_w, i32_w]
                                rfl
                              refine take_ (i := 7) (N := some 68) (v := ?_) (a' := ?_) #[true, true, true, true, true, true, true, true, false, false, false, false] rfl rfl (take_ofW HT_.out HW_.out (by kernel_rfl)) (fun _ _ _ h => h) (Or.inl ⟨by rfl, ?_⟩) hHeld ?_ ?_
                              rotate_left
                              · rintro w' ⟨s0, s1, s2, s3, s4, s5, s6, s7, s8, s9, s10, s11⟩
                                go_simp
                                with_reducible rfl
                              rotate_left
                              · simp only [Act.put, List.setIfInBounds_toArray, List.set_cons_zero, List.set_cons_succ, i64_w, i32_w]
                                rfl
                              refine pure_ (i := 8) (N := some 69) (v := ?_) (a' := ?_) #[true, true, true, true, true, true, true, true, true, false, false, false] rfl rfl (any_of HT_.out (by kernel_rfl)) (fun _ _ _ h => h) (Or.inl ⟨by rfl, ?_⟩) ?_ ?_
                              rotate_left
                              · intro w'
                                go_simp
                                with_reducible rfl
                              rotate_left
                              · simp only [Act.put, List.setIfInBounds_toArray, List.set_cons_zero, List.set_cons_succ, i64_w, i32_w]
                                rfl
                              refine pure_ (i := 9) (N := some 70) (v := ?_) (a' := ?_) #[true, true, true, true, true, true, true, true, true, true, false, false] rfl rfl (any_of HT_.out (by kernel_rfl)) (fun _ _ _ h => h) (Or.inl ⟨by rfl, ?_⟩) ?_ ?_
                              rotate_left
                              · intro w'
                                go_simp
                                with_reducible rfl
                              rotate_left
                              · simp only [Act.put, List.setIfInBounds_toArray, List.set_cons_zero, List.set_cons_succ, i64_w, i32_w]
                                rfl
                              refine pure_ (i := 10) (N := some 71) (v := ?_) (a' := ?_) #[true, true, true, true, true, true, true, true, true, true, true, false] rfl rfl (any_of HT_.out (by kernel_rfl)) (fun _ _ _ h => h) (Or.inl ⟨by rfl, ?_⟩) ?_ ?_
                              rotate_left
                              · intro w'
                                go_simp
                                with_reducible rfl
                              rotate_left
                              · simp only [Act.put, List.setIfInBounds_toArray, List.set_cons_zero, List.set_cons_succ, i64_w, i32_w]
                                rfl
                              refine last_ (i := 11) (N := none) #[true, true, true, true, true, true, true, true, true, true, true, true] rfl rfl (one_of HT_.out (by kernel_rfl)) (by decide) (fun K hK => ?_)
                              refine skip_ (w1 := ?_) (by rfl) rfl ?_ ?_
                              rotate_left
                              · go_simp
                                rfl
                              refine hK.out _ _ ?_
                              clear hK K
                              refine done_ (done_of HT_.out (by kernel_rfl)) ?_
                              try go_wp2
                              go_roundg kj19
                              case measure => have := HK1.out; have := HJ7.out; have := HJ19.out; omega
                              case rel => exact ⟨(y229), (wrap64 (x17_1 + 1)), (by first | rfl | (simp; done) | (simp [*]; done)), H', ⟨by have := HK1.out; have := HJ7.out; have := HJ19.out; omega⟩, ⟨by (with_reducible repeat (first | apply Kd.R_alloc | apply Kd.R_drewN | apply Kd.R_drew)); exact HQ41.out⟩, ⟨by repeat (first | (with_reducible first | exact HB.out | apply below_alloc | apply pw_below_drewN | apply below_drew1 | refine below_set ?_ GB37.out | refine below_set ?_ GE221.out) | exact HB.out)⟩⟩
                            · rw [if_neg c36] at H
                              exact absurd H (by simp)
                          · rw [if_neg c35] at H
                            exact absurd H (by simp)
                        · rw [if_neg c33] at H
                          have c33b0 : decide (0 < (x5_19.length : Int)) = false := decide_eq_false c33
                          have c33b1 : decide (0 < x5_19.length) = false := decide_eq_false (by omega)
                          clear c33
                          have H' := Aside0.mk H
                          clear H
                          obtain ⟨Ao42, co42, eo42⟩ := Kd.R_slice HO_5.out
                          subst eo42
                          have hcz43_0 : wc.cell? ⟨gb221, 0, none⟩ = some (.int .i64 ((rd_T44 l0 x17_1).f0)) := (blk_cell BK221.out 0).trans rfl
                          have hcz43_1 : wc.cell? ⟨gb221, 1, none⟩ = some (.int .u16 ((rd_T44 l0 x17_1).f1)) := (blk_cell BK221.out 1).trans rfl
                          have hcz43_2 : wc.cell? ⟨gb221, 2, none⟩ = some (.bool ((rd_T44 l0 x17_1).f2)) := (blk_cell BK221.out 2).trans rfl
                          have hcz43_3 : wc.cell? ⟨gb221, 3, none⟩ = some (.bool ((rd_T44 l0 x17_1).f3)) := (blk_cell BK221.out 3).trans rfl
                          have hcz43_4 : wc.cell? ⟨gb221, 4, none⟩ = some (.bool ((rd_T44 l0 x17_1).f4)) := (blk_cell BK221.out 4).trans rfl
                          have hcz43_5 : wc.cell? ⟨gb221, 5, none⟩ = some (.bool ((rd_T44 l0 x17_1).f5)) := (blk_cell BK221.out 5).trans rfl
                          have hcz43_6 : wc.cell? ⟨gb221, 6, none⟩ = some (.bool ((rd_T44 l0 x17_1).f6)) := (blk_cell BK221.out 6).trans rfl
                          have hcz43_7 : wc.cell? ⟨gb221, 7, none⟩ = some (.bool ((rd_T44 l0 x17_1).f7)) := (blk_cell BK221.out 7).trans rfl
                          have hcz43_8 : wc.cell? ⟨gb221, 8, none⟩ = some (.bool ((rd_T44 l0 x17_1).f8)) := (blk_cell BK221.out 8).trans rfl
                          have hcz43_9 : wc.cell? ⟨gb221, 9, none⟩ = some (.int .u8 ((rd_T44 l0 x17_1).f9)) := (blk_cell BK221.out 9).trans rfl
                          have hfz43_0 := blk_frozen BK221.out 0
                          have hfz43_1 := blk_frozen BK221.out 1
                          have hfz43_2 := blk_frozen BK221.out 2
                          have hfz43_3 := blk_frozen BK221.out 3
                          have hfz43_4 := blk_frozen BK221.out 4
                          have hfz43_5 := blk_frozen BK221.out 5
                          have hfz43_6 := blk_frozen BK221.out 6
                          have hfz43_7 := blk_frozen BK221.out 7
                          have hfz43_8 := blk_frozen BK221.out 8
                          have hfz43_9 := blk_frozen BK221.out 9
                          go_wp2
                          go_roundg kj19
                          case measure => have := HK1.out; have := HJ7.out; have := HJ19.out; omega
                          case rel => exact ⟨(x5_19), (wrap64 (x17_1 + 1)), (by first | rfl | (simp; done) | (simp [*]; done)), H', ⟨by have := HK1.out; have := HJ7.out; have := HJ19.out; omega⟩, ⟨by (with_reducible repeat (first | apply Kd.R_alloc | apply Kd.R_drewN | apply Kd.R_drew)); exact HO_5.out⟩, ⟨by repeat (first | (with_reducible first | exact HB.out | apply below_alloc | apply pw_below_drewN | apply below_drew1 | refine below_set ?_ GE221.out) | exact HB.out)⟩⟩
            · rw [if_neg c7] at H
              exact absurd H (by simp)
          · rw [if_neg c6] at H
            exact absurd H (by simp)
        · rw [if_neg c5] at H
          have c5b0 : decide (x17_1 < (l0.length : Int)) = false := decide_eq_false c5
          clear c5
          simp only [Option.some.injEq, Prod.mk.injEq] at H
          obtain ⟨rfl, rfl⟩ := H
          go_wp2
          go_ret2
          exact ⟨_, by first | rfl | (simp [errW_none, errW_some] <;> rfl) | (simp [*, errW_none, errW_some] <;> rfl), by (with_reducible repeat (first | apply Kd.R_alloc | apply Kd.R_drewN | apply Kd.R_drew)); exact HO_5.out, by repeat (first | (with_reducible first | exact HB.out | apply below_alloc | apply pw_below_drewN | apply below_drew1) | exact HB.out)⟩
  · rw [if_neg c3] at H
    have c3b0 : (t219 == 0) = false := beq_eq_false_iff_ne.mpr c3
    have c3b1 : (t219 != 0) = true := bne_iff_ne.mpr c3
    simp only [Option.some.injEq, Prod.mk.injEq] at H
    obtain ⟨rfl, rfl⟩ := H
    go_enter Tryd.func18, Tryd.ntmps18
    go_wp2_with (first | ((with_reducible refine gate_callee (f := 30) rfl ?_); refine goesL_ (some 11) rfl rfl Tryd.func30 (by kernel_rfl) rfl #[.slice A0 l0.length c0] rfl (by (try simp only [List.map_toArray, List.map_cons, List.map_nil]); first | done | rfl | (simp only [List.length_drop, List.length_take]; rfl)) ?_; (with_reducible refine (script_Check.calls k _ _ l0 t219 _ ?side1 ?side2 A2.out).mono ?_); (case side1 => repeat (first | exact HR0.out | (with_reducible refine Kd.C_alloc ?_ _) | (with_reducible refine Kd.C_drewN ?_ _) | (with_reducible refine Kd.C_drew ?_))); (case side2 => exact HC0.out); rintro e w44 ⟨rfl, hb⟩; refine ⟨_, rfl, ?_⟩; have n0_ := Aside0.mk (below_step (by repeat (first | (with_reducible first | exact HB.out | apply below_alloc | apply pw_below_drewN | apply below_drew1) | exact HB.out)) hb); clear HB; have HB := n0_; clear n0_; (try clear hb); (try clear hb2); (try clear hk); (try clear hi)))
    go_ret2
    exact ⟨_, by first | rfl | (simp [errW_none, errW_some] <;> rfl) | (simp [*, errW_none, errW_some] <;> rfl), by first | exact Kd.R_nil _ _ _ _ _ | exact Kd.N_nil _ _ _ _ _ | exact Kd.V_nil _ _ _ _ _ | exact Kd.Q_nil _ _ _ _ _ | exact Kd.S_nil _ _ _ _ _, by repeat (first | (with_reducible first | exact HB.out | apply below_alloc | apply pw_below_drewN | apply below_drew1) | exact HB.out)⟩

end Go.Proofs.YtdibgdiiamcmfaaDoor.PTape
