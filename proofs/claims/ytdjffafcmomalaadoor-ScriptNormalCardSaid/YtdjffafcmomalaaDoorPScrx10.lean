/- Written by a program of this session (gprint.py, over the kit's printer): functions of the seat YtdjffafcmomalaaDoor and their contracts. No condition but each contract's own. -/
import Derived.Test.YtdjffafcmomalaaDoorPScrx0
import Derived.Test.YtdjffafcmomalaaDoorPScrx1
import Derived.Test.YtdjffafcmomalaaDoorPScrx2
import Derived.Test.YtdjffafcmomalaaDoorPScrxW
namespace Go.Proofs.YtdjffafcmomalaaDoor.PScr
open Go.RowKit Go.Proofs.YtdjffafcmomalaaDoorW.PrintWords Go.Proofs.YtdjffafcmomalaaDoorW.PrintLast Go.Proofs.YtdjffafcmomalaaDoorW.PrintMore
attribute [local go_sem] max2_int min2_int max_two min_two max_three min_three max_four min_four   -- for this text's walks alone
set_option linter.unusedVariables false
set_option linter.unusedSimpArgs false

attribute [local go_sem high] eqA34
/-! ### script_Normal: function 27 -/
mutual
def script_Normal.l0 : Nat → List (S34) → List (S34) → Int → Int → Option ((List (S34)) × Int)
  | 0, _, _, _, _ => none
  | k + 1, x5, x15, x16, x17 => if x17 < x16 then (if 0 ≤ x17 then (if x17 < (x15.length : Int) then (if (x5.length : Int) > 0 then (if 0 ≤ (wrap64 ((x5.length : Int) - 1)) then (if (wrap64 ((x5.length : Int) - 1)) < (x5.length : Int) then ((script_with.f ((rd_T34 x5 (wrap64 ((x5.length : Int) - 1))).f0) ((rd_T34 x5 (wrap64 ((x5.length : Int) - 1))).f1) ((rd_T34 x5 (wrap64 ((x5.length : Int) - 1))).f2) ((rd_T34 x5 (wrap64 ((x5.length : Int) - 1))).f3) ((rd_T34 x5 (wrap64 ((x5.length : Int) - 1))).f4) ((rd_T34 x5 (wrap64 ((x5.length : Int) - 1))).f5) ((rd_T34 x5 (wrap64 ((x5.length : Int) - 1))).f6) ((rd_T34 x5 (wrap64 ((x5.length : Int) - 1))).f7) ((rd_T34 x5 (wrap64 ((x5.length : Int) - 1))).f8) ((rd_T34 x5 (wrap64 ((x5.length : Int) - 1))).f9) 0).bind fun bt253 => ((script_with.f ((rd_T34 x15 x17).f0) ((rd_T34 x15 x17).f1) ((rd_T34 x15 x17).f2) ((rd_T34 x15 x17).f3) ((rd_T34 x15 x17).f4) ((rd_T34 x15 x17).f5) ((rd_T34 x15 x17).f6) ((rd_T34 x15 x17).f7) ((rd_T34 x15 x17).f8) ((rd_T34 x15 x17).f9) 0).bind fun bt263 => (script_Normal.j1 k x5 (x5.length : Int) x15 x16 x17 (bt253.1 == bt263.1 && (bt253.2.1 == bt263.2.1 && (bt253.2.2.1 == bt263.2.2.1 && (bt253.2.2.2.1 == bt263.2.2.2.1 && (bt253.2.2.2.2.1 == bt263.2.2.2.2.1 && (bt253.2.2.2.2.2.1 == bt263.2.2.2.2.2.1 && (bt253.2.2.2.2.2.2.1 == bt263.2.2.2.2.2.2.1 && (bt253.2.2.2.2.2.2.2.1 == bt263.2.2.2.2.2.2.2.1 && (bt253.2.2.2.2.2.2.2.2.1 == bt263.2.2.2.2.2.2.2.2.1 && (bt253.2.2.2.2.2.2.2.2.2 == bt263.2.2.2.2.2.2.2.2.2)))))))))) ((rd_T34 x15 x17).f0) ((rd_T34 x15 x17).f1) ((rd_T34 x15 x17).f2) ((rd_T34 x15 x17).f3) ((rd_T34 x15 x17).f4) ((rd_T34 x15 x17).f5) ((rd_T34 x15 x17).f6) ((rd_T34 x15 x17).f7) ((rd_T34 x15 x17).f8) ((rd_T34 x15 x17).f9)))) else (none)) else (none)) else (script_Normal.j1 k x5 (x5.length : Int) x15 x16 x17 false ((rd_T34 x15 x17).f0) ((rd_T34 x15 x17).f1) ((rd_T34 x15 x17).f2) ((rd_T34 x15 x17).f3) ((rd_T34 x15 x17).f4) ((rd_T34 x15 x17).f5) ((rd_T34 x15 x17).f6) ((rd_T34 x15 x17).f7) ((rd_T34 x15 x17).f8) ((rd_T34 x15 x17).f9))) else (none)) else (none)) else (some (x5, 0))
def script_Normal.j1 : Nat → List (S34) → Int → List (S34) → Int → Int → Bool → Int → Int → Bool → Bool → Bool → Bool → Bool → Bool → Bool → Int → Option ((List (S34)) × Int)
  | 0, _, _, _, _, _, _, _, _, _, _, _, _, _, _, _, _ => none
  | k + 1, x5, x8, x15, x16, x17, x35, x252000, x252001, x252002, x252003, x252004, x252005, x252006, x252007, x252008, x252009 => if x35 = true then (if 0 ≤ (wrap64 (x8 - 1)) then (if (wrap64 (x8 - 1)) < (x5.length : Int) then ((some (x5.set ((wrap64 (x8 - 1)) : Int).toNat (⟨wrap64 (((rd_T34 x5 (wrap64 (x8 - 1))).f0) + (mn x252000 (wrap64 (1048576 - ((rd_T34 x5 (wrap64 (x8 - 1))).f0))))), (rd_T34 x5 (wrap64 (x8 - 1))).f1, (rd_T34 x5 (wrap64 (x8 - 1))).f2, (rd_T34 x5 (wrap64 (x8 - 1))).f3, (rd_T34 x5 (wrap64 (x8 - 1))).f4, (rd_T34 x5 (wrap64 (x8 - 1))).f5, (rd_T34 x5 (wrap64 (x8 - 1))).f6, (rd_T34 x5 (wrap64 (x8 - 1))).f7, (rd_T34 x5 (wrap64 (x8 - 1))).f8, (rd_T34 x5 (wrap64 (x8 - 1))).f9⟩ : S34) : List (S34))).bind fun y275 => (if (wrap64 (x252000 - (mn x252000 (wrap64 (1048576 - ((rd_T34 x5 (wrap64 (x8 - 1))).f0)))))) > 0 then (if y275.length < 5864062014805 then (script_Normal.l0 k (y275 ++ [(⟨wrap64 (x252000 - (mn x252000 (wrap64 (1048576 - ((rd_T34 x5 (wrap64 (x8 - 1))).f0))))), x252001, x252002, x252003, x252004, x252005, x252006, x252007, x252008, x252009⟩ : S34)]) x15 x16 (wrap64 (x17 + 1))) else (none)) else (script_Normal.l0 k y275 x15 x16 (wrap64 (x17 + 1))))) else (none)) else (none)) else (if x252000 > 0 then (if x5.length < 5864062014805 then (script_Normal.l0 k (x5 ++ [(⟨x252000, x252001, x252002, x252003, x252004, x252005, x252006, x252007, x252008, x252009⟩ : S34)]) x15 x16 (wrap64 (x17 + 1))) else (none)) else (script_Normal.l0 k x5 x15 x16 (wrap64 (x17 + 1))))
end
def script_Normal.f (k : Nat) (l0 : List (S34)) : Option ((List (S34)) × Int) := (script_Check.f k l0).bind fun t249 => (if t249 = 0 then (script_Normal.l0 k ([] : List (S34)) l0 (l0.length : Int) 0) else (some (([] : List (S34)), t249)))
theorem script_Normal.mono_l : ∀ k, (∀ y0 y1 y2 y3, LeO (script_Normal.l0 k y0 y1 y2 y3) (script_Normal.l0 (k + 1) y0 y1 y2 y3)) ∧ (∀ y0 y1 y2 y3 y4 y5 y6 y7 y8 y9 y10 y11 y12 y13 y14 y15, LeO (script_Normal.j1 k y0 y1 y2 y3 y4 y5 y6 y7 y8 y9 y10 y11 y12 y13 y14 y15) (script_Normal.j1 (k + 1) y0 y1 y2 y3 y4 y5 y6 y7 y8 y9 y10 y11 y12 y13 y14 y15))
  | 0 => ⟨fun _ _ _ _ r h => by simp [script_Normal.l0] at h, fun _ _ _ _ _ _ _ _ _ _ _ _ _ _ _ _ r h => by simp [script_Normal.j1] at h⟩
  | k + 1 => by
    obtain ⟨ih0, ih1⟩ := script_Normal.mono_l k
    refine ⟨?_, ?_⟩
    · intro y0 y1 y2 y3
      unfold script_Normal.l0
      repeat' first
      | (with_reducible exact ih0 _ _ _ _)
      | (with_reducible exact ih1 _ _ _ _ _ _ _ _ _ _ _ _ _ _ _ _)
      | (with_reducible exact script_Check.mono _ _)
      | (with_reducible exact LeO.refl _)
      | (with_reducible exact LeO.none _)
      | (with_reducible refine LeO.ite ?_ ?_)
      | (with_reducible refine LeO.bind ?_ (fun _ => ?_))
      | exact ih0 _ _ _ _
      | exact ih1 _ _ _ _ _ _ _ _ _ _ _ _ _ _ _ _
      | exact script_Check.mono _ _
      | exact LeO.none _
      | refine LeO.ite ?_ ?_
      | refine LeO.bind ?_ (fun _ => ?_)
    · intro y0 y1 y2 y3 y4 y5 y6 y7 y8 y9 y10 y11 y12 y13 y14 y15
      unfold script_Normal.j1
      repeat' first
      | (with_reducible exact ih0 _ _ _ _)
      | (with_reducible exact ih1 _ _ _ _ _ _ _ _ _ _ _ _ _ _ _ _)
      | (with_reducible exact script_Check.mono _ _)
      | (with_reducible exact LeO.refl _)
      | (with_reducible exact LeO.none _)
      | (with_reducible refine LeO.ite ?_ ?_)
      | (with_reducible refine LeO.bind ?_ (fun _ => ?_))
      | exact ih0 _ _ _ _
      | exact ih1 _ _ _ _ _ _ _ _ _ _ _ _ _ _ _ _
      | exact script_Check.mono _ _
      | exact LeO.none _
      | refine LeO.ite ?_ ?_
      | refine LeO.bind ?_ (fun _ => ?_)
theorem script_Normal.mono : ∀ a0 k, LeO (script_Normal.f k a0) (script_Normal.f (k + 1) a0) := by
  intro a0 k
  obtain ⟨ih0, ih1⟩ := script_Normal.mono_l k
  unfold script_Normal.f
  repeat' first
      | (with_reducible exact ih0 _ _ _ _)
      | (with_reducible exact ih1 _ _ _ _ _ _ _ _ _ _ _ _ _ _ _ _)
      | (with_reducible exact script_Check.mono _ _)
      | (with_reducible exact LeO.refl _)
      | (with_reducible exact LeO.none _)
      | (with_reducible refine LeO.ite ?_ ?_)
      | (with_reducible refine LeO.bind ?_ (fun _ => ?_))
      | exact ih0 _ _ _ _
      | exact ih1 _ _ _ _ _ _ _ _ _ _ _ _ _ _ _ _
      | exact script_Check.mono _ _
      | exact LeO.none _
      | refine LeO.ite ?_ ?_
      | refine LeO.bind ?_ (fun _ => ?_)
def script_Normal.T9 : Bool × List (List Nat × List Nat) := (true, [([], []), ([0], [0]), ([1], [1]), ([2], [2]), ([2], [2]), ([4, 2], [2, 4]), ([3, 5, 2], [2, 3, 5]), ([6, 2], [2, 6]), ([7, 2, 2], [2, 7]), ([2], [2]), ([9, 8, 2], [2, 9]), ([8, 10, 2], [2, 8, 10]), ([2, 11], [2, 11])])
def script_Normal.B9 : List Nat := [0, 1, 3, 7, 7, 23, 63, 127, 255, 7, 1023, 2047, 4095]
theorem script_Normal.tab9 : rtab .any (opsOf Tryd.f27 9) = script_Normal.T9 := by kernel_rfl
theorem script_Normal.bits9 : waitsOk script_Normal.T9.2 script_Normal.B9 = true := by kernel_rfl
def script_Normal.T10 : Bool × List (List Nat × List Nat) := (true, [([], []), ([0], [0]), ([], []), ([], []), ([3], [3]), ([2, 4], [2, 4]), ([5], [5]), ([6], [6]), ([7], [7]), ([1, 8], [1, 8]), ([9, 0, 1, 2, 3, 4, 5, 6, 7, 8, 9], [9])])
def script_Normal.B10 : List Nat := [0, 1, 0, 0, 8, 28, 60, 124, 252, 511, 1023]
theorem script_Normal.tab10 : rtab .any (opsOf Tryd.f27 10) = script_Normal.T10 := by kernel_rfl
theorem script_Normal.bits10 : waitsOk script_Normal.T10.2 script_Normal.B10 = true := by kernel_rfl
set_option maxHeartbeats 8000000 in
set_option maxRecDepth 100000 in
theorem script_Normal.calls (k : Nat) (A0 : Option Addr) (c0 : Nat) (l0 : List (S34)) (r1 : List (S34)) (r2 : Int) (w : World) (hr0 : Kd.C k34 w A0 l0.length l0) (hc0 : l0.length ≤ c0) (h : script_Normal.f k l0 = some (r1, r2)) :
    Calls Tryd.prog 27 #[.slice A0 l0.length c0] w fun e w' => ∃ v0_ : Value, e = .returned (.tuple #[v0_, .int .i64 r2]) ∧ Kd.R k34 34 w' w.heap.size (fun _ => True) v0_ r1 ∧ Below w.heap.size w w' := by
  have hu34 := Tryd.underlying34
  have HR0 := Aside0.mk hr0
  have HC0 := Aside0.mk hc0
  clear hr0 hc0
  have HB := Aside0.mk (Below.refl w.heap.size w)
  have H : ((script_Check.f k l0).bind fun t249 => (if t249 = 0 then (script_Normal.l0 k ([] : List (S34)) l0 (l0.length : Int) 0) else (some (([] : List (S34)), t249)))) = some (r1, r2) := h
  clear h
  replace H := Option.bind_eq_some_iff.mp H
  obtain ⟨t249, A20, H⟩ := H
  replace H : (if t249 = 0 then (script_Normal.l0 k ([] : List (S34)) l0 (l0.length : Int) 0) else (some (([] : List (S34)), t249))) = some (r1, r2) := H
  have A2 := Aside0.mk A20
  clear A20
  by_cases c3 : t249 = 0
  · rw [if_pos c3] at H
    have c3b0 : (t249 == 0) = true := beq_iff_eq.mpr c3
    have c3b1 : (t249 != 0) = false := bne_eq_false_iff_eq.mpr c3
    clear c3
    have H' := Aside0.mk H
    clear H
    go_enter Tryd.func27, Tryd.ntmps27
    go_wp2_with (first | ((with_reducible refine gate_callee (f := 14) rfl ?_); refine goesL_ (some 11) rfl rfl Tryd.func14 (by kernel_rfl) rfl #[.slice A0 l0.length c0] rfl (by (try simp only [List.map_toArray, List.map_cons, List.map_nil]); first | done | rfl | (simp only [List.length_drop, List.length_take]; rfl)) ?_; (with_reducible refine (script_Check.calls k _ _ l0 t249 _ ?side1 ?side2 A2.out).mono ?_); (case side1 => repeat (first | exact HR0.out | (with_reducible refine Kd.C_alloc ?_ _) | (with_reducible refine Kd.C_drewN ?_ _) | (with_reducible refine Kd.C_drew ?_))); (case side2 => exact HC0.out); rintro e w4 ⟨rfl, hb⟩; refine ⟨_, rfl, ?_⟩; have n0_ := Aside0.mk (below_step (by repeat (first | (with_reducible first | exact HB.out | apply below_alloc | apply pw_below_drewN | apply below_drew1) | exact HB.out)) hb); clear HB; have HB := n0_; clear n0_; (try clear hb); (try clear hb2); (try clear hk); (try clear hi)))
    go_loopg [5, 17] k (fun kq v5 v17 w' => ∃ (x5_1 : List (S34)) (x17_1 : Int), v17 = .int .i64 x17_1 ∧ Aside0 (script_Normal.l0 kq x5_1 l0 (l0.length : Int) x17_1 = some (r1, r2)) ∧ Aside0 (kq ≤ k) ∧ Aside0 (Kd.R k34 34 w' w.heap.size (fun _ => True) v5 x5_1) ∧ Aside0 (Below w.heap.size w w'))
    case atStart => exact ⟨(([] : List (S34))), (0), (by first | rfl | (simp; done) | (simp [*]; done)), H', ⟨Nat.le_refl _⟩, ⟨by first | exact Kd.R_nil _ _ _ _ _ | exact Kd.N_nil _ _ _ _ _ | exact Kd.V_nil _ _ _ _ _ | exact Kd.Q_nil _ _ _ _ _ | exact Kd.S_nil _ _ _ _ _⟩, ⟨by repeat (first | (with_reducible first | exact HB.out | apply below_alloc | apply pw_below_drewN | apply below_drew1) | exact HB.out)⟩⟩
    case round =>
      clear H'
      try clear c1
      try clear c2
      try clear p2
      try clear c3
      try clear c3b0
      try clear c3b1
      obtain ⟨x5_1, x17_1, rfl, HA, HK1, HO_5, HB⟩ := hrel
      cases gk with
      | zero => exact absurd HA.out (by simp [script_Normal.l0])
      | succ k1 =>
        have H := HA.out
        clear HA
        simp only [script_Normal.l0] at H
        by_cases c5 : x17_1 < (l0.length : Int)
        · rw [if_pos c5] at H
          have c5b0 : decide (x17_1 < (l0.length : Int)) = true := decide_eq_true c5
          clear c5
          by_cases c6 : 0 ≤ x17_1
          · rw [if_pos c6] at H
            have c6b0 : decide (0 ≤ x17_1) = true := decide_eq_true c6
            clear c6
            by_cases c7 : x17_1 < (l0.length : Int)
            · rw [if_pos c7] at H
              have c7b0 : decide (x17_1 < (l0.length : Int)) = true := decide_eq_true c7
              clear c7
              have HC8 := Aside0.mk H
              clear H
              have p250 : 0 ≤ (x17_1 : Int) := of_decide_eq_true (by first | (with_reducible assumption) | assumption)
              have q250 : x17_1 < (l0.length : Int) := of_decide_eq_true (by first | (with_reducible assumption) | assumption)
              obtain ⟨ad250, e250, hx250_0, hx250_1, hx250_2, hx250_3, hx250_4, hx250_5, hx250_6, hx250_7, hx250_8, hx250_9⟩ := at_T34 HR0.out x17_1 p250 q250
              cases e250
              replace hx250_0 := (HB.out.cell (World.block_lt_of_cell? w _ hx250_0)).trans hx250_0
              replace hx250_1 := (HB.out.cell (World.block_lt_of_cell? w _ hx250_1)).trans hx250_1
              replace hx250_2 := (HB.out.cell (World.block_lt_of_cell? w _ hx250_2)).trans hx250_2
              replace hx250_3 := (HB.out.cell (World.block_lt_of_cell? w _ hx250_3)).trans hx250_3
              replace hx250_4 := (HB.out.cell (World.block_lt_of_cell? w _ hx250_4)).trans hx250_4
              replace hx250_5 := (HB.out.cell (World.block_lt_of_cell? w _ hx250_5)).trans hx250_5
              replace hx250_6 := (HB.out.cell (World.block_lt_of_cell? w _ hx250_6)).trans hx250_6
              replace hx250_7 := (HB.out.cell (World.block_lt_of_cell? w _ hx250_7)).trans hx250_7
              replace hx250_8 := (HB.out.cell (World.block_lt_of_cell? w _ hx250_8)).trans hx250_8
              replace hx250_9 := (HB.out.cell (World.block_lt_of_cell? w _ hx250_9)).trans hx250_9
              replace p250 := eq_true p250
              replace q250 := eq_true q250
              go_upto_region 9 with (first | ((with_reducible refine gate_dst (N := 7) rfl ?_); refine box_event ?hg (N := 7) ?hd (cs := #[.int .i64 0, .int .u16 0, .bool false, .bool false, .bool false, .bool false, .bool false, .bool false, .bool false, .int .u8 0]) (t := 34) ?hr ?_; (case hd => rfl); (case hg => rfl); (case hr => first | (go_simp; done) | (go_simp; rfl)); intro gb251 hg w9 hbox hb; have n0_ := Aside0.mk (Kd.R_below (Kd.R_elderB (by (with_reducible repeat (first | apply Kd.R_alloc | apply Kd.R_drewN | apply Kd.R_drew)); exact HO_5.out) gb251 (Nat.le_of_eq hg.symm)) hb); have n1_ := Aside0.mk (below_step (by repeat (first | (with_reducible first | exact HB.out | apply below_alloc | apply pw_below_drewN | apply below_drew1) | exact HB.out)) hb); have n2_ := Aside0.mk (hbox); have n3_ := Aside0.mk ((by rw [hg]; exact (below_size (by repeat (first | (with_reducible first | exact HB.out | apply below_alloc | apply pw_below_drewN | apply below_drew1) | exact HB.out))) : w.heap.size ≤ gb251)); have n4_ := Aside0.mk ((by rw [hg]; exact (below_size (by repeat (first | (with_reducible first | exact HB.out | apply below_alloc | apply pw_below_drewN | apply below_drew1) | exact HB.out))) : w.heap.size ≤ gb251)); clear HO_5; clear HB; have HO_5 := n0_; have HB := n1_; have BK251 := n2_; have GW251 := n3_; have GE251 := n4_; clear n0_ n1_ n2_ n3_ n4_; clear hb hbox hg; have hcz10_0 : w9.cell? ⟨gb251, 0, none⟩ = some (.int .i64 0) := (blk_cell BK251.out 0).trans rfl; have hcz10_1 : w9.cell? ⟨gb251, 1, none⟩ = some (.int .u16 0) := (blk_cell BK251.out 1).trans rfl; have hcz10_2 : w9.cell? ⟨gb251, 2, none⟩ = some (.bool false) := (blk_cell BK251.out 2).trans rfl; have hcz10_3 : w9.cell? ⟨gb251, 3, none⟩ = some (.bool false) := (blk_cell BK251.out 3).trans rfl; have hcz10_4 : w9.cell? ⟨gb251, 4, none⟩ = some (.bool false) := (blk_cell BK251.out 4).trans rfl; have hcz10_5 : w9.cell? ⟨gb251, 5, none⟩ = some (.bool false) := (blk_cell BK251.out 5).trans rfl; have hcz10_6 : w9.cell? ⟨gb251, 6, none⟩ = some (.bool false) := (blk_cell BK251.out 6).trans rfl; have hcz10_7 : w9.cell? ⟨gb251, 7, none⟩ = some (.bool false) := (blk_cell BK251.out 7).trans rfl; have hcz10_8 : w9.cell? ⟨gb251, 8, none⟩ = some (.bool false) := (blk_cell BK251.out 8).trans rfl; have hcz10_9 : w9.cell? ⟨gb251, 9, none⟩ = some (.int .u8 0) := (blk_cell BK251.out 9).trans rfl; have hfz10_0 := blk_frozen BK251.out 0; have hfz10_1 := blk_frozen BK251.out 1; have hfz10_2 := blk_frozen BK251.out 2; have hfz10_3 := blk_frozen BK251.out 3; have hfz10_4 := blk_frozen BK251.out 4; have hfz10_5 := blk_frozen BK251.out 5; have hfz10_6 := blk_frozen BK251.out 6; have hfz10_7 := blk_frozen BK251.out 7; have hfz10_8 := blk_frozen BK251.out 8; have hfz10_9 := blk_frozen BK251.out 9; obtain ⟨Ao11, co11, eo11⟩ := Kd.R_slice HO_5.out; subst eo11))
              (try simp only [Act.put, List.setIfInBounds_toArray, List.set_cons_zero, List.set_cons_succ])
              go_cut [35] (fun v35 wc => ∃ (kq : Nat) (x35_7 : Bool), v35 = .bool x35_7 ∧ Aside0 (script_Normal.j1 kq x5_1 (x5_1.length : Int) l0 (l0.length : Int) x17_1 x35_7 ((rd_T34 l0 x17_1).f0) ((rd_T34 l0 x17_1).f1) ((rd_T34 l0 x17_1).f2) ((rd_T34 l0 x17_1).f3) ((rd_T34 l0 x17_1).f4) ((rd_T34 l0 x17_1).f5) ((rd_T34 l0 x17_1).f6) ((rd_T34 l0 x17_1).f7) ((rd_T34 l0 x17_1).f8) ((rd_T34 l0 x17_1).f9) = some (r1, r2)) ∧ Aside0 (kq ≤ k1) ∧ Aside0 (Kd.R k34 34 wc w.heap.size (fun k_ => k_ ≠ gb251) (.slice Ao11 x5_1.length co11) x5_1) ∧ Aside0 (wc.heap[gb251]? = some (.cells #[.int .i64 ((rd_T34 l0 x17_1).f0), .int .u16 ((rd_T34 l0 x17_1).f1), .bool ((rd_T34 l0 x17_1).f2), .bool ((rd_T34 l0 x17_1).f3), .bool ((rd_T34 l0 x17_1).f4), .bool ((rd_T34 l0 x17_1).f5), .bool ((rd_T34 l0 x17_1).f6), .bool ((rd_T34 l0 x17_1).f7), .bool ((rd_T34 l0 x17_1).f8), .int .u8 ((rd_T34 l0 x17_1).f9)] 34 (0, 0))) ∧ Aside0 (Below w.heap.size w wc))
              case first =>
                have H := HC8.out
                clear HC8
                by_cases c12 : (x5_1.length : Int) > 0
                · rw [if_pos c12] at H
                  have c12b0 : decide (0 < (x5_1.length : Int)) = true := decide_eq_true c12
                  have c12b1 : decide (0 < x5_1.length) = true := decide_eq_true (by omega)
                  clear c12
                  (first | rw [c12b0] | (simp only [i64_w, i32_w]; rw [c12b0]) | skip)
                  obtain ⟨ji13, hji13⟩ : ∃ j_ : Int, (wrap64 ((x5_1.length : Int) - 1)) = j_ := ⟨_, rfl⟩
                  replace H : (if 0 ≤ (ji13) then (if (ji13) < (x5_1.length : Int) then ((script_with.f ((rd_T34 x5_1 (ji13)).f0) ((rd_T34 x5_1 (ji13)).f1) ((rd_T34 x5_1 (ji13)).f2) ((rd_T34 x5_1 (ji13)).f3) ((rd_T34 x5_1 (ji13)).f4) ((rd_T34 x5_1 (ji13)).f5) ((rd_T34 x5_1 (ji13)).f6) ((rd_T34 x5_1 (ji13)).f7) ((rd_T34 x5_1 (ji13)).f8) ((rd_T34 x5_1 (ji13)).f9) 0).bind fun bt253 => ((script_with.f ((rd_T34 l0 x17_1).f0) ((rd_T34 l0 x17_1).f1) ((rd_T34 l0 x17_1).f2) ((rd_T34 l0 x17_1).f3) ((rd_T34 l0 x17_1).f4) ((rd_T34 l0 x17_1).f5) ((rd_T34 l0 x17_1).f6) ((rd_T34 l0 x17_1).f7) ((rd_T34 l0 x17_1).f8) ((rd_T34 l0 x17_1).f9) 0).bind fun bt263 => (script_Normal.j1 k1 x5_1 (x5_1.length : Int) l0 (l0.length : Int) x17_1 (bt253.1 == bt263.1 && (bt253.2.1 == bt263.2.1 && (bt253.2.2.1 == bt263.2.2.1 && (bt253.2.2.2.1 == bt263.2.2.2.1 && (bt253.2.2.2.2.1 == bt263.2.2.2.2.1 && (bt253.2.2.2.2.2.1 == bt263.2.2.2.2.2.1 && (bt253.2.2.2.2.2.2.1 == bt263.2.2.2.2.2.2.1 && (bt253.2.2.2.2.2.2.2.1 == bt263.2.2.2.2.2.2.2.1 && (bt253.2.2.2.2.2.2.2.2.1 == bt263.2.2.2.2.2.2.2.2.1 && (bt253.2.2.2.2.2.2.2.2.2 == bt263.2.2.2.2.2.2.2.2.2)))))))))) ((rd_T34 l0 x17_1).f0) ((rd_T34 l0 x17_1).f1) ((rd_T34 l0 x17_1).f2) ((rd_T34 l0 x17_1).f3) ((rd_T34 l0 x17_1).f4) ((rd_T34 l0 x17_1).f5) ((rd_T34 l0 x17_1).f6) ((rd_T34 l0 x17_1).f7) ((rd_T34 l0 x17_1).f8) ((rd_T34 l0 x17_1).f9)))) else (none)) else (none)) = some (r1, r2) := by first | (rw [hji13] at H; exact H) | (simp only [hji13] at H ⊢; exact H)
                  have hji13w : (IntKind.i64.wrap ((x5_1.length : Int) - 1)) = ji13 := (i64_w _).trans hji13
                  by_cases c14 : 0 ≤ (ji13)
                  · rw [if_pos c14] at H
                    have c14b0 : decide (0 ≤ (ji13)) = true := decide_eq_true c14
                    clear c14
                    by_cases c15 : (ji13) < (x5_1.length : Int)
                    · rw [if_pos c15] at H
                      have c15b0 : decide ((ji13) < (x5_1.length : Int)) = true := decide_eq_true c15
                      clear c15
                      replace H := Option.bind_eq_some_iff.mp H
                      obtain ⟨⟨t253, t254, t255, t256, t257, t258, t259, t260, t261, t262⟩, A160, H⟩ := H
                      replace H : ((script_with.f ((rd_T34 l0 x17_1).f0) ((rd_T34 l0 x17_1).f1) ((rd_T34 l0 x17_1).f2) ((rd_T34 l0 x17_1).f3) ((rd_T34 l0 x17_1).f4) ((rd_T34 l0 x17_1).f5) ((rd_T34 l0 x17_1).f6) ((rd_T34 l0 x17_1).f7) ((rd_T34 l0 x17_1).f8) ((rd_T34 l0 x17_1).f9) 0).bind fun bt263 => (script_Normal.j1 k1 x5_1 (x5_1.length : Int) l0 (l0.length : Int) x17_1 (t253 == bt263.1 && (t254 == bt263.2.1 && (t255 == bt263.2.2.1 && (t256 == bt263.2.2.2.1 && (t257 == bt263.2.2.2.2.1 && (t258 == bt263.2.2.2.2.2.1 && (t259 == bt263.2.2.2.2.2.2.1 && (t260 == bt263.2.2.2.2.2.2.2.1 && (t261 == bt263.2.2.2.2.2.2.2.2.1 && (t262 == bt263.2.2.2.2.2.2.2.2.2)))))))))) ((rd_T34 l0 x17_1).f0) ((rd_T34 l0 x17_1).f1) ((rd_T34 l0 x17_1).f2) ((rd_T34 l0 x17_1).f3) ((rd_T34 l0 x17_1).f4) ((rd_T34 l0 x17_1).f5) ((rd_T34 l0 x17_1).f6) ((rd_T34 l0 x17_1).f7) ((rd_T34 l0 x17_1).f8) ((rd_T34 l0 x17_1).f9))) = some (r1, r2) := H
                      have A16 := Aside0.mk A160
                      clear A160
                      replace H := Option.bind_eq_some_iff.mp H
                      obtain ⟨⟨t263, t264, t265, t266, t267, t268, t269, t270, t271, t272⟩, A170, H⟩ := H
                      replace H : (script_Normal.j1 k1 x5_1 (x5_1.length : Int) l0 (l0.length : Int) x17_1 (t253 == t263 && (t254 == t264 && (t255 == t265 && (t256 == t266 && (t257 == t267 && (t258 == t268 && (t259 == t269 && (t260 == t270 && (t261 == t271 && (t262 == t272)))))))))) ((rd_T34 l0 x17_1).f0) ((rd_T34 l0 x17_1).f1) ((rd_T34 l0 x17_1).f2) ((rd_T34 l0 x17_1).f3) ((rd_T34 l0 x17_1).f4) ((rd_T34 l0 x17_1).f5) ((rd_T34 l0 x17_1).f6) ((rd_T34 l0 x17_1).f7) ((rd_T34 l0 x17_1).f8) ((rd_T34 l0 x17_1).f9)) = some (r1, r2) := H
                      have A17 := Aside0.mk A170
                      clear A170
                      have H' := Aside0.mk H
                      clear H
                      try go_wp2
                      have n0_ : Aside0 (Kd.R k34 34 ((((((((((w9.setCell ⟨gb251, 0, none⟩ (.int .i64 ((rd_T34 l0 x17_1).f0))).setCell ⟨gb251, 1, none⟩ (.int .u16 ((rd_T34 l0 x17_1).f1))).setCell ⟨gb251, 2, none⟩ (.bool ((rd_T34 l0 x17_1).f2))).setCell ⟨gb251, 3, none⟩ (.bool ((rd_T34 l0 x17_1).f3))).setCell ⟨gb251, 4, none⟩ (.bool ((rd_T34 l0 x17_1).f4))).setCell ⟨gb251, 5, none⟩ (.bool ((rd_T34 l0 x17_1).f5))).setCell ⟨gb251, 6, none⟩ (.bool ((rd_T34 l0 x17_1).f6))).setCell ⟨gb251, 7, none⟩ (.bool ((rd_T34 l0 x17_1).f7))).setCell ⟨gb251, 8, none⟩ (.bool ((rd_T34 l0 x17_1).f8))).setCell ⟨gb251, 9, none⟩ (.int .u8 ((rd_T34 l0 x17_1).f9))) w.heap.size (fun k_ => k_ ≠ gb251) (.slice Ao11 x5_1.length co11) x5_1) := ⟨by (with_reducible repeat (first | apply Kd.R_alloc | apply Kd.R_drewN | apply Kd.R_drew)); exact Kd.R_mono (Kd.R_far (p := ⟨gb251, 9, none⟩) (Kd.R_far (p := ⟨gb251, 8, none⟩) (Kd.R_far (p := ⟨gb251, 7, none⟩) (Kd.R_far (p := ⟨gb251, 6, none⟩) (Kd.R_far (p := ⟨gb251, 5, none⟩) (Kd.R_far (p := ⟨gb251, 4, none⟩) (Kd.R_far (p := ⟨gb251, 3, none⟩) (Kd.R_far (p := ⟨gb251, 2, none⟩) (Kd.R_far (p := ⟨gb251, 1, none⟩) (Kd.R_far (p := ⟨gb251, 0, none⟩) (Kd.R_mono HO_5.out (fun k_ hk => (⟨hk, hk.2⟩ : _ ∧ k_ ≠ gb251))) (fun _ hk => hk.2) (.int .i64 ((rd_T34 l0 x17_1).f0))) (fun _ hk => hk.2) (.int .u16 ((rd_T34 l0 x17_1).f1))) (fun _ hk => hk.2) (.bool ((rd_T34 l0 x17_1).f2))) (fun _ hk => hk.2) (.bool ((rd_T34 l0 x17_1).f3))) (fun _ hk => hk.2) (.bool ((rd_T34 l0 x17_1).f4))) (fun _ hk => hk.2) (.bool ((rd_T34 l0 x17_1).f5))) (fun _ hk => hk.2) (.bool ((rd_T34 l0 x17_1).f6))) (fun _ hk => hk.2) (.bool ((rd_T34 l0 x17_1).f7))) (fun _ hk => hk.2) (.bool ((rd_T34 l0 x17_1).f8))) (fun _ hk => hk.2) (.int .u8 ((rd_T34 l0 x17_1).f9))) (fun _ hk => hk.1.2)⟩
                      have n1_ : Aside0 (((((((((((w9.setCell ⟨gb251, 0, none⟩ (.int .i64 ((rd_T34 l0 x17_1).f0))).setCell ⟨gb251, 1, none⟩ (.int .u16 ((rd_T34 l0 x17_1).f1))).setCell ⟨gb251, 2, none⟩ (.bool ((rd_T34 l0 x17_1).f2))).setCell ⟨gb251, 3, none⟩ (.bool ((rd_T34 l0 x17_1).f3))).setCell ⟨gb251, 4, none⟩ (.bool ((rd_T34 l0 x17_1).f4))).setCell ⟨gb251, 5, none⟩ (.bool ((rd_T34 l0 x17_1).f5))).setCell ⟨gb251, 6, none⟩ (.bool ((rd_T34 l0 x17_1).f6))).setCell ⟨gb251, 7, none⟩ (.bool ((rd_T34 l0 x17_1).f7))).setCell ⟨gb251, 8, none⟩ (.bool ((rd_T34 l0 x17_1).f8))).setCell ⟨gb251, 9, none⟩ (.int .u8 ((rd_T34 l0 x17_1).f9))).heap[gb251]? = some (.cells #[.int .i64 ((rd_T34 l0 x17_1).f0), .int .u16 ((rd_T34 l0 x17_1).f1), .bool ((rd_T34 l0 x17_1).f2), .bool ((rd_T34 l0 x17_1).f3), .bool ((rd_T34 l0 x17_1).f4), .bool ((rd_T34 l0 x17_1).f5), .bool ((rd_T34 l0 x17_1).f6), .bool ((rd_T34 l0 x17_1).f7), .bool ((rd_T34 l0 x17_1).f8), .int .u8 ((rd_T34 l0 x17_1).f9)] 34 (0, 0))) := ⟨by (with_reducible repeat (first | refine blk_drewN ?_ _ | refine blk_drew ?_ | refine blk_alloc ?_ _)); refine blk_put (cs := #[.int .i64 ((rd_T34 l0 x17_1).f0), .int .u16 ((rd_T34 l0 x17_1).f1), .bool ((rd_T34 l0 x17_1).f2), .bool ((rd_T34 l0 x17_1).f3), .bool ((rd_T34 l0 x17_1).f4), .bool ((rd_T34 l0 x17_1).f5), .bool ((rd_T34 l0 x17_1).f6), .bool ((rd_T34 l0 x17_1).f7), .bool ((rd_T34 l0 x17_1).f8), .int .u8 0]) ?_ 9 _ rfl; (with_reducible repeat (first | refine blk_drewN ?_ _ | refine blk_drew ?_ | refine blk_alloc ?_ _)); refine blk_put (cs := #[.int .i64 ((rd_T34 l0 x17_1).f0), .int .u16 ((rd_T34 l0 x17_1).f1), .bool ((rd_T34 l0 x17_1).f2), .bool ((rd_T34 l0 x17_1).f3), .bool ((rd_T34 l0 x17_1).f4), .bool ((rd_T34 l0 x17_1).f5), .bool ((rd_T34 l0 x17_1).f6), .bool ((rd_T34 l0 x17_1).f7), .bool false, .int .u8 0]) ?_ 8 _ rfl; (with_reducible repeat (first | refine blk_drewN ?_ _ | refine blk_drew ?_ | refine blk_alloc ?_ _)); refine blk_put (cs := #[.int .i64 ((rd_T34 l0 x17_1).f0), .int .u16 ((rd_T34 l0 x17_1).f1), .bool ((rd_T34 l0 x17_1).f2), .bool ((rd_T34 l0 x17_1).f3), .bool ((rd_T34 l0 x17_1).f4), .bool ((rd_T34 l0 x17_1).f5), .bool ((rd_T34 l0 x17_1).f6), .bool false, .bool false, .int .u8 0]) ?_ 7 _ rfl; (with_reducible repeat (first | refine blk_drewN ?_ _ | refine blk_drew ?_ | refine blk_alloc ?_ _)); refine blk_put (cs := #[.int .i64 ((rd_T34 l0 x17_1).f0), .int .u16 ((rd_T34 l0 x17_1).f1), .bool ((rd_T34 l0 x17_1).f2), .bool ((rd_T34 l0 x17_1).f3), .bool ((rd_T34 l0 x17_1).f4), .bool ((rd_T34 l0 x17_1).f5), .bool false, .bool false, .bool false, .int .u8 0]) ?_ 6 _ rfl; (with_reducible repeat (first | refine blk_drewN ?_ _ | refine blk_drew ?_ | refine blk_alloc ?_ _)); refine blk_put (cs := #[.int .i64 ((rd_T34 l0 x17_1).f0), .int .u16 ((rd_T34 l0 x17_1).f1), .bool ((rd_T34 l0 x17_1).f2), .bool ((rd_T34 l0 x17_1).f3), .bool ((rd_T34 l0 x17_1).f4), .bool false, .bool false, .bool false, .bool false, .int .u8 0]) ?_ 5 _ rfl; (with_reducible repeat (first | refine blk_drewN ?_ _ | refine blk_drew ?_ | refine blk_alloc ?_ _)); refine blk_put (cs := #[.int .i64 ((rd_T34 l0 x17_1).f0), .int .u16 ((rd_T34 l0 x17_1).f1), .bool ((rd_T34 l0 x17_1).f2), .bool ((rd_T34 l0 x17_1).f3), .bool false, .bool false, .bool false, .bool false, .bool false, .int .u8 0]) ?_ 4 _ rfl; (with_reducible repeat (first | refine blk_drewN ?_ _ | refine blk_drew ?_ | refine blk_alloc ?_ _)); refine blk_put (cs := #[.int .i64 ((rd_T34 l0 x17_1).f0), .int .u16 ((rd_T34 l0 x17_1).f1), .bool ((rd_T34 l0 x17_1).f2), .bool false, .bool false, .bool false, .bool false, .bool false, .bool false, .int .u8 0]) ?_ 3 _ rfl; (with_reducible repeat (first | refine blk_drewN ?_ _ | refine blk_drew ?_ | refine blk_alloc ?_ _)); refine blk_put (cs := #[.int .i64 ((rd_T34 l0 x17_1).f0), .int .u16 ((rd_T34 l0 x17_1).f1), .bool false, .bool false, .bool false, .bool false, .bool false, .bool false, .bool false, .int .u8 0]) ?_ 2 _ rfl; (with_reducible repeat (first | refine blk_drewN ?_ _ | refine blk_drew ?_ | refine blk_alloc ?_ _)); refine blk_put (cs := #[.int .i64 ((rd_T34 l0 x17_1).f0), .int .u16 0, .bool false, .bool false, .bool false, .bool false, .bool false, .bool false, .bool false, .int .u8 0]) ?_ 1 _ rfl; (with_reducible repeat (first | refine blk_drewN ?_ _ | refine blk_drew ?_ | refine blk_alloc ?_ _)); refine blk_put (cs := #[.int .i64 0, .int .u16 0, .bool false, .bool false, .bool false, .bool false, .bool false, .bool false, .bool false, .int .u8 0]) ?_ 0 _ rfl; (with_reducible repeat (first | refine blk_drewN ?_ _ | refine blk_drew ?_ | refine blk_alloc ?_ _)); exact BK251.out⟩
                      have n2_ : Aside0 (Below w.heap.size w ((((((((((w9.setCell ⟨gb251, 0, none⟩ (.int .i64 ((rd_T34 l0 x17_1).f0))).setCell ⟨gb251, 1, none⟩ (.int .u16 ((rd_T34 l0 x17_1).f1))).setCell ⟨gb251, 2, none⟩ (.bool ((rd_T34 l0 x17_1).f2))).setCell ⟨gb251, 3, none⟩ (.bool ((rd_T34 l0 x17_1).f3))).setCell ⟨gb251, 4, none⟩ (.bool ((rd_T34 l0 x17_1).f4))).setCell ⟨gb251, 5, none⟩ (.bool ((rd_T34 l0 x17_1).f5))).setCell ⟨gb251, 6, none⟩ (.bool ((rd_T34 l0 x17_1).f6))).setCell ⟨gb251, 7, none⟩ (.bool ((rd_T34 l0 x17_1).f7))).setCell ⟨gb251, 8, none⟩ (.bool ((rd_T34 l0 x17_1).f8))).setCell ⟨gb251, 9, none⟩ (.int .u8 ((rd_T34 l0 x17_1).f9)))) := ⟨by repeat (first | (with_reducible first | exact HB.out | apply below_alloc | apply pw_below_drewN | apply below_drew1 | refine below_set ?_ GE251.out) | exact HB.out)⟩
                      (try clear HO_5)
                      (try clear BK251)
                      (try clear HB)
                      generalize ((((((((((w9.setCell ⟨gb251, 0, none⟩ (.int .i64 ((rd_T34 l0 x17_1).f0))).setCell ⟨gb251, 1, none⟩ (.int .u16 ((rd_T34 l0 x17_1).f1))).setCell ⟨gb251, 2, none⟩ (.bool ((rd_T34 l0 x17_1).f2))).setCell ⟨gb251, 3, none⟩ (.bool ((rd_T34 l0 x17_1).f3))).setCell ⟨gb251, 4, none⟩ (.bool ((rd_T34 l0 x17_1).f4))).setCell ⟨gb251, 5, none⟩ (.bool ((rd_T34 l0 x17_1).f5))).setCell ⟨gb251, 6, none⟩ (.bool ((rd_T34 l0 x17_1).f6))).setCell ⟨gb251, 7, none⟩ (.bool ((rd_T34 l0 x17_1).f7))).setCell ⟨gb251, 8, none⟩ (.bool ((rd_T34 l0 x17_1).f8))).setCell ⟨gb251, 9, none⟩ (.int .u8 ((rd_T34 l0 x17_1).f9))) = w18 at n0_ n1_ n2_ ⊢
                      have HO_5 := n0_
                      have BK251 := n1_
                      have HB := n2_
                      clear n0_ n1_ n2_
                      have n0_ := Aside0.mk (Kd.R_drew HO_5.out)
                      have n1_ := Aside0.mk (blk_drew BK251.out)
                      have n2_ := Aside0.mk (below_drew1 HB.out)
                      clear HO_5
                      clear BK251
                      clear HB
                      have HO_5 := n0_
                      have BK251 := n1_
                      have HB := n2_
                      clear n0_ n1_ n2_
                      have p252 : 0 ≤ ((ji13) : Int) := of_decide_eq_true (by first | (with_reducible assumption) | assumption)
                      have q252 : (ji13) < (x5_1.length : Int) := of_decide_eq_true (by first | (with_reducible assumption) | assumption)
                      obtain ⟨ad252, e252, hx252_0, hx252_1, hx252_2, hx252_3, hx252_4, hx252_5, hx252_6, hx252_7, hx252_8, hx252_9⟩ := at_T34 (Kd.R_reads' HO_5.out).2.2 (ji13) p252 q252
                      cases e252
                      replace p252 := eq_true p252
                      replace q252 := eq_true q252
                      refine start_ (n := 13) (S := fun w' => w'.cell? ⟨gb251, 0, none⟩ = some (.int .i64 ((rd_T34 l0 x17_1).f0)) ∧ w'.cell? ⟨gb251, 1, none⟩ = some (.int .u16 ((rd_T34 l0 x17_1).f1)) ∧ w'.cell? ⟨gb251, 2, none⟩ = some (.bool ((rd_T34 l0 x17_1).f2)) ∧ w'.cell? ⟨gb251, 3, none⟩ = some (.bool ((rd_T34 l0 x17_1).f3)) ∧ w'.cell? ⟨gb251, 4, none⟩ = some (.bool ((rd_T34 l0 x17_1).f4)) ∧ w'.cell? ⟨gb251, 5, none⟩ = some (.bool ((rd_T34 l0 x17_1).f5)) ∧ w'.cell? ⟨gb251, 6, none⟩ = some (.bool ((rd_T34 l0 x17_1).f6)) ∧ w'.cell? ⟨gb251, 7, none⟩ = some (.bool ((rd_T34 l0 x17_1).f7)) ∧ w'.cell? ⟨gb251, 8, none⟩ = some (.bool ((rd_T34 l0 x17_1).f8)) ∧ w'.cell? ⟨gb251, 9, none⟩ = some (.int .u8 ((rd_T34 l0 x17_1).f9)) ∧ w'.cell? (ad252.add (((ji13)).toNat * 10)) = some (.int .i64 ((rd_T34 x5_1 (ji13)).f0)) ∧ w'.cell? ⟨(ad252.add (((ji13)).toNat * 10)).block, (ad252.add (((ji13)).toNat * 10)).off + 1, none⟩ = some (.int .u16 ((rd_T34 x5_1 (ji13)).f1)) ∧ w'.cell? ⟨(ad252.add (((ji13)).toNat * 10)).block, (ad252.add (((ji13)).toNat * 10)).off + 2, none⟩ = some (.bool ((rd_T34 x5_1 (ji13)).f2)) ∧ w'.cell? ⟨(ad252.add (((ji13)).toNat * 10)).block, (ad252.add (((ji13)).toNat * 10)).off + 3, none⟩ = some (.bool ((rd_T34 x5_1 (ji13)).f3)) ∧ w'.cell? ⟨(ad252.add (((ji13)).toNat * 10)).block, (ad252.add (((ji13)).toNat * 10)).off + 4, none⟩ = some (.bool ((rd_T34 x5_1 (ji13)).f4)) ∧ w'.cell? ⟨(ad252.add (((ji13)).toNat * 10)).block, (ad252.add (((ji13)).toNat * 10)).off + 5, none⟩ = some (.bool ((rd_T34 x5_1 (ji13)).f5)) ∧ w'.cell? ⟨(ad252.add (((ji13)).toNat * 10)).block, (ad252.add (((ji13)).toNat * 10)).off + 6, none⟩ = some (.bool ((rd_T34 x5_1 (ji13)).f6)) ∧ w'.cell? ⟨(ad252.add (((ji13)).toNat * 10)).block, (ad252.add (((ji13)).toNat * 10)).off + 7, none⟩ = some (.bool ((rd_T34 x5_1 (ji13)).f7)) ∧ w'.cell? ⟨(ad252.add (((ji13)).toNat * 10)).block, (ad252.add (((ji13)).toNat * 10)).off + 8, none⟩ = some (.bool ((rd_T34 x5_1 (ji13)).f8)) ∧ w'.cell? ⟨(ad252.add (((ji13)).toNat * 10)).block, (ad252.add (((ji13)).toNat * 10)).off + 9, none⟩ = some (.int .u8 ((rd_T34 x5_1 (ji13)).f9))) (ds := []) #[false, false, false, false, false, false, false, false, false, false, false, false, false] (by kernel_rfl) rfl rfl ⟨(blk_cell BK251.out 0).trans rfl, (blk_cell BK251.out 1).trans rfl, (blk_cell BK251.out 2).trans rfl, (blk_cell BK251.out 3).trans rfl, (blk_cell BK251.out 4).trans rfl, (blk_cell BK251.out 5).trans rfl, (blk_cell BK251.out 6).trans rfl, (blk_cell BK251.out 7).trans rfl, (blk_cell BK251.out 8).trans rfl, (blk_cell BK251.out 9).trans rfl, hx252_0, hx252_1, hx252_2, hx252_3, hx252_4, hx252_5, hx252_6, hx252_7, hx252_8, hx252_9⟩ (fun hHeld => ?_); refine with_tabW script_Normal.tab9 script_Normal.bits9 (fun HT_ HW_ => ?_)
                      generalize w18.drew = w19 at HO_5 BK251 HB hx252_0 hx252_1 hx252_2 hx252_3 hx252_4 hx252_5 hx252_6 hx252_7 hx252_8 hx252_9 hHeld ⊢
                      refine pure_ (i := 0) (N := some 23) (v := ?_) (a' := ?_) #[true, false, false, false, false, false, false, false, false, false, false, false, false] rfl rfl (any_of HT_.out (by kernel_rfl)) (fun _ _ _ h => h) (Or.inl ⟨by rfl, ?_⟩) ?_ ?_
                      rotate_left
                      · intro w'
                        go_simp
                        with_reducible rfl
                      rotate_left
                      · simp only [Act.put, List.setIfInBounds_toArray, List.set_cons_zero, List.set_cons_succ, i64_w, i32_w]
                        rfl
                      refine pure_ (i := 1) (N := some 24) (v := ?_) (a' := ?_) #[true, true, false, false, false, false, false, false, false, false, false, false, false] rfl rfl (any_of HT_.out (by kernel_rfl)) (fun _ _ _ h => h) (Or.inl ⟨by rfl, ?_⟩) ?_ ?_
                      rotate_left
                      · intro w'
                        go_simp
                        with_reducible rfl
                      rotate_left
                      · simp only [Act.put, List.setIfInBounds_toArray, List.set_cons_zero, List.set_cons_succ, i64_w, i32_w]
                        rfl
                      refine pure_ (i := 2) (N := some 25) (v := ?_) (a' := ?_) #[true, true, true, false, false, false, false, false, false, false, false, false, false] rfl rfl (any_of HT_.out (by kernel_rfl)) (fun _ _ _ h => h) (Or.inl ⟨by rfl, ?_⟩) ?_ ?_
                      rotate_left
                      · intro w'
                        go_simp
                        with_reducible rfl
                      rotate_left
                      · simp only [Act.put, List.setIfInBounds_toArray, List.set_cons_zero, List.set_cons_succ, i64_w, i32_w]
                        rfl
                      refine pure_ (i := 3) (N := some 26) (v := ?_) (a' := ?_) #[true, true, true, true, false, false, false, false, false, false, false, false, false] rfl rfl (any_of HT_.out (by kernel_rfl)) (fun _ _ _ h => h) (Or.inl ⟨by rfl, ?_⟩) ?_ ?_
                      rotate_left
                      · intro w'
                        go_simp
                        with_reducible rfl
                      rotate_left
                      · simp only [Act.put, List.setIfInBounds_toArray, List.set_cons_zero, List.set_cons_succ, i64_w, i32_w]
                        rfl
                      refine pure_ (i := 4) (N := some 27) (v := ?_) (a' := ?_) #[true, true, true, true, true, false, false, false, false, false, false, false, false] rfl rfl (any_of HT_.out (by kernel_rfl)) (fun _ _ _ h => h) (Or.inl ⟨by rfl, ?_⟩) ?_ ?_
                      rotate_left
                      · intro w'
                        go_simp
                        with_reducible rfl
                      rotate_left
                      · simp only [Act.put, List.setIfInBounds_toArray, List.set_cons_zero, List.set_cons_succ, i64_w, i32_w]
                        rfl
                      refine pure_ (i := 5) (N := some 28) (v := ?_) (a' := ?_) #[true, true, true, true, true, true, false, false, false, false, false, false, false] rfl rfl (any_of HT_.out (by kernel_rfl)) (fun _ _ _ h => h) (Or.inl ⟨by rfl, ?_⟩) ?_ ?_
                      rotate_left
                      · intro w'
                        go_simp
                        with_reducible rfl
                      rotate_left
                      · simp only [Act.put, List.setIfInBounds_toArray, List.set_cons_zero, List.set_cons_succ, i64_w, i32_w]
                        rfl
                      refine pure_ (i := 6) (N := some 29) (v := ?_) (a' := ?_) #[true, true, true, true, true, true, true, false, false, false, false, false, false] rfl rfl (any_of HT_.out (by kernel_rfl)) (fun _ _ _ h => h) (Or.inl ⟨by rfl, ?_⟩) ?_ ?_
                      rotate_left
                      · intro w'
                        go_simp
                        with_reducible rfl
                      rotate_left
                      · simp only [Act.put, List.setIfInBounds_toArray, List.set_cons_zero, List.set_cons_succ, i64_w, i32_w]
                        rfl
                      refine take_ (i := 7) (N := some 30) (v := ?_) (a' := ?_) #[true, true, true, true, true, true, true, true, false, false, false, false, false] rfl rfl (take_ofW HT_.out HW_.out (by kernel_rfl)) (fun _ _ _ h => h) (Or.inl ⟨by rfl, ?_⟩) hHeld ?_ ?_
                      rotate_left
                      · rintro w' ⟨s0, s1, s2, s3, s4, s5, s6, s7, s8, s9, s10, s11, s12, s13, s14, s15, s16, s17, s18, s19⟩
                        go_simp
                        with_reducible rfl
                      rotate_left
                      · simp only [Act.put, List.setIfInBounds_toArray, List.set_cons_zero, List.set_cons_succ, i64_w, i32_w]
                        rfl
                      refine take_ (i := 9) (N := some 32) (v := ?_) (a' := ?_) #[true, true, true, true, true, true, true, true, false, true, false, false, false] rfl rfl (take_ofW HT_.out HW_.out (by kernel_rfl)) (fun _ _ _ h => h) (Or.inl ⟨by rfl, ?_⟩) hHeld ?_ ?_
                      rotate_left
                      · rintro w' ⟨s0, s1, s2, s3, s4, s5, s6, s7, s8, s9, s10, s11, s12, s13, s14, s15, s16, s17, s18, s19⟩
                        go_simp
                        with_reducible rfl
                      rotate_left
                      · simp only [Act.put, List.setIfInBounds_toArray, List.set_cons_zero, List.set_cons_succ, i64_w, i32_w]
                        rfl
                      refine one_ (i := 8) (N := some 31) #[true, true, true, true, true, true, true, true, true, true, false, false, false] rfl rfl (one_of HT_.out (by kernel_rfl)) (by decide) (fun K hK => ?_)
                      refine goes_ Tryd.func46 (by kernel_rfl) rfl #[.agg #[.int .i64 ((rd_T34 x5_1 (ji13)).f0), .int .u16 ((rd_T34 x5_1 (ji13)).f1), .bool ((rd_T34 x5_1 (ji13)).f2), .bool ((rd_T34 x5_1 (ji13)).f3), .bool ((rd_T34 x5_1 (ji13)).f4), .bool ((rd_T34 x5_1 (ji13)).f5), .bool ((rd_T34 x5_1 (ji13)).f6), .bool ((rd_T34 x5_1 (ji13)).f7), .bool ((rd_T34 x5_1 (ji13)).f8), .int .u8 ((rd_T34 x5_1 (ji13)).f9)], .int .i64 0] (by rfl) rfl rfl (by (try simp only [List.map_toArray, List.map_cons, List.map_nil]); first | done | (simp only [hji13]; rfl) | rfl | (simp only [List.length_drop, List.length_take]; rfl)) ?_
                      with_reducible refine (script_with.calls ((rd_T34 x5_1 (ji13)).f0) ((rd_T34 x5_1 (ji13)).f1) ((rd_T34 x5_1 (ji13)).f2) ((rd_T34 x5_1 (ji13)).f3) ((rd_T34 x5_1 (ji13)).f4) ((rd_T34 x5_1 (ji13)).f5) ((rd_T34 x5_1 (ji13)).f6) ((rd_T34 x5_1 (ji13)).f7) ((rd_T34 x5_1 (ji13)).f8) ((rd_T34 x5_1 (ji13)).f9) 0 t253 t254 t255 t256 t257 t258 t259 t260 t261 t262 _ A16.out).mono ?_
                      rintro e w20 ⟨rfl, hb⟩
                      have HS10_ := (hb.cell (World.block_lt_of_cell? _ _ (hHeld.2.2.2.2.2.2.2.2.2.2.1))).trans (hHeld.2.2.2.2.2.2.2.2.2.2.1)
                      have HS11_ := (hb.cell (World.block_lt_of_cell? _ _ (hHeld.2.2.2.2.2.2.2.2.2.2.2.1))).trans (hHeld.2.2.2.2.2.2.2.2.2.2.2.1)
                      have HS12_ := (hb.cell (World.block_lt_of_cell? _ _ (hHeld.2.2.2.2.2.2.2.2.2.2.2.2.1))).trans (hHeld.2.2.2.2.2.2.2.2.2.2.2.2.1)
                      have HS13_ := (hb.cell (World.block_lt_of_cell? _ _ (hHeld.2.2.2.2.2.2.2.2.2.2.2.2.2.1))).trans (hHeld.2.2.2.2.2.2.2.2.2.2.2.2.2.1)
                      have HS14_ := (hb.cell (World.block_lt_of_cell? _ _ (hHeld.2.2.2.2.2.2.2.2.2.2.2.2.2.2.1))).trans (hHeld.2.2.2.2.2.2.2.2.2.2.2.2.2.2.1)
                      have HS15_ := (hb.cell (World.block_lt_of_cell? _ _ (hHeld.2.2.2.2.2.2.2.2.2.2.2.2.2.2.2.1))).trans (hHeld.2.2.2.2.2.2.2.2.2.2.2.2.2.2.2.1)
                      have HS16_ := (hb.cell (World.block_lt_of_cell? _ _ (hHeld.2.2.2.2.2.2.2.2.2.2.2.2.2.2.2.2.1))).trans (hHeld.2.2.2.2.2.2.2.2.2.2.2.2.2.2.2.2.1)
                      have HS17_ := (hb.cell (World.block_lt_of_cell? _ _ (hHeld.2.2.2.2.2.2.2.2.2.2.2.2.2.2.2.2.2.1))).trans (hHeld.2.2.2.2.2.2.2.2.2.2.2.2.2.2.2.2.2.1)
                      have HS18_ := (hb.cell (World.block_lt_of_cell? _ _ (hHeld.2.2.2.2.2.2.2.2.2.2.2.2.2.2.2.2.2.2.1))).trans (hHeld.2.2.2.2.2.2.2.2.2.2.2.2.2.2.2.2.2.2.1)
                      have HS19_ := (hb.cell (World.block_lt_of_cell? _ _ (hHeld.2.2.2.2.2.2.2.2.2.2.2.2.2.2.2.2.2.2.2))).trans (hHeld.2.2.2.2.2.2.2.2.2.2.2.2.2.2.2.2.2.2.2)
                      refine ⟨_, rfl, ?_⟩
                      have n0_ := Aside0.mk (Kd.R_below (by (with_reducible repeat (first | apply Kd.R_alloc | apply Kd.R_drewN | apply Kd.R_drew)); exact HO_5.out) hb)
                      have n1_ := Aside0.mk (blk_below (g := gb251) (o := .cells #[.int .i64 ((rd_T34 l0 x17_1).f0), .int .u16 ((rd_T34 l0 x17_1).f1), .bool ((rd_T34 l0 x17_1).f2), .bool ((rd_T34 l0 x17_1).f3), .bool ((rd_T34 l0 x17_1).f4), .bool ((rd_T34 l0 x17_1).f5), .bool ((rd_T34 l0 x17_1).f6), .bool ((rd_T34 l0 x17_1).f7), .bool ((rd_T34 l0 x17_1).f8), .int .u8 ((rd_T34 l0 x17_1).f9)] 34 (0, 0)) (by (with_reducible repeat (first | refine blk_drewN ?_ _ | refine blk_drew ?_ | refine blk_alloc ?_ _)); exact BK251.out) hb)
                      have n2_ := Aside0.mk (below_step (by repeat (first | (with_reducible first | exact HB.out | apply below_alloc | apply pw_below_drewN | apply below_drew1 | refine below_set ?_ GE251.out) | exact HB.out)) hb)
                      clear HO_5
                      clear BK251
                      clear HB
                      have HO_5 := n0_
                      have BK251 := n1_
                      have HB := n2_
                      clear n0_ n1_ n2_
                      (try clear hb)
                      (try clear hb2)
                      (try clear hk)
                      (try clear hi)
                      refine hK.out _ _ ⟨(blk_cell BK251.out 0).trans rfl, (blk_cell BK251.out 1).trans rfl, (blk_cell BK251.out 2).trans rfl, (blk_cell BK251.out 3).trans rfl, (blk_cell BK251.out 4).trans rfl, (blk_cell BK251.out 5).trans rfl, (blk_cell BK251.out 6).trans rfl, (blk_cell BK251.out 7).trans rfl, (blk_cell BK251.out 8).trans rfl, (blk_cell BK251.out 9).trans rfl, HS10_, HS11_, HS12_, HS13_, HS14_, HS15_, HS16_, HS17_, HS18_, HS19_⟩ (fun hHeld => ?_)
                      clear hK K
                      refine norm_ (a' := ?_) ?_ ?_
                      rotate_left
                      · show Act.put _ (some 31) _ = _
                        simp only [Act.put, List.setIfInBounds_toArray, List.set_cons_zero, List.set_cons_succ, i64_w, i32_w]
                        rfl
                      refine one_ (i := 10) (N := some 33) #[true, true, true, true, true, true, true, true, true, true, true, false, false] rfl rfl (one_of HT_.out (by kernel_rfl)) (by decide) (fun K hK => ?_)
                      refine goes_ Tryd.func46 (by kernel_rfl) rfl #[.agg #[.int .i64 ((rd_T34 l0 x17_1).f0), .int .u16 ((rd_T34 l0 x17_1).f1), .bool ((rd_T34 l0 x17_1).f2), .bool ((rd_T34 l0 x17_1).f3), .bool ((rd_T34 l0 x17_1).f4), .bool ((rd_T34 l0 x17_1).f5), .bool ((rd_T34 l0 x17_1).f6), .bool ((rd_T34 l0 x17_1).f7), .bool ((rd_T34 l0 x17_1).f8), .int .u8 ((rd_T34 l0 x17_1).f9)], .int .i64 0] (by rfl) rfl rfl (by (try simp only [List.map_toArray, List.map_cons, List.map_nil]); first | done | rfl | (simp only [List.length_drop, List.length_take]; rfl)) ?_
                      with_reducible refine (script_with.calls ((rd_T34 l0 x17_1).f0) ((rd_T34 l0 x17_1).f1) ((rd_T34 l0 x17_1).f2) ((rd_T34 l0 x17_1).f3) ((rd_T34 l0 x17_1).f4) ((rd_T34 l0 x17_1).f5) ((rd_T34 l0 x17_1).f6) ((rd_T34 l0 x17_1).f7) ((rd_T34 l0 x17_1).f8) ((rd_T34 l0 x17_1).f9) 0 t263 t264 t265 t266 t267 t268 t269 t270 t271 t272 _ A17.out).mono ?_
                      rintro e w21 ⟨rfl, hb⟩
                      have HS10_ := (hb.cell (World.block_lt_of_cell? _ _ (hHeld.2.2.2.2.2.2.2.2.2.2.1))).trans (hHeld.2.2.2.2.2.2.2.2.2.2.1)
                      have HS11_ := (hb.cell (World.block_lt_of_cell? _ _ (hHeld.2.2.2.2.2.2.2.2.2.2.2.1))).trans (hHeld.2.2.2.2.2.2.2.2.2.2.2.1)
                      have HS12_ := (hb.cell (World.block_lt_of_cell? _ _ (hHeld.2.2.2.2.2.2.2.2.2.2.2.2.1))).trans (hHeld.2.2.2.2.2.2.2.2.2.2.2.2.1)
                      have HS13_ := (hb.cell (World.block_lt_of_cell? _ _ (hHeld.2.2.2.2.2.2.2.2.2.2.2.2.2.1))).trans (hHeld.2.2.2.2.2.2.2.2.2.2.2.2.2.1)
                      have HS14_ := (hb.cell (World.block_lt_of_cell? _ _ (hHeld.2.2.2.2.2.2.2.2.2.2.2.2.2.2.1))).trans (hHeld.2.2.2.2.2.2.2.2.2.2.2.2.2.2.1)
                      have HS15_ := (hb.cell (World.block_lt_of_cell? _ _ (hHeld.2.2.2.2.2.2.2.2.2.2.2.2.2.2.2.1))).trans (hHeld.2.2.2.2.2.2.2.2.2.2.2.2.2.2.2.1)
                      have HS16_ := (hb.cell (World.block_lt_of_cell? _ _ (hHeld.2.2.2.2.2.2.2.2.2.2.2.2.2.2.2.2.1))).trans (hHeld.2.2.2.2.2.2.2.2.2.2.2.2.2.2.2.2.1)
                      have HS17_ := (hb.cell (World.block_lt_of_cell? _ _ (hHeld.2.2.2.2.2.2.2.2.2.2.2.2.2.2.2.2.2.1))).trans (hHeld.2.2.2.2.2.2.2.2.2.2.2.2.2.2.2.2.2.1)
                      have HS18_ := (hb.cell (World.block_lt_of_cell? _ _ (hHeld.2.2.2.2.2.2.2.2.2.2.2.2.2.2.2.2.2.2.1))).trans (hHeld.2.2.2.2.2.2.2.2.2.2.2.2.2.2.2.2.2.2.1)
                      have HS19_ := (hb.cell (World.block_lt_of_cell? _ _ (hHeld.2.2.2.2.2.2.2.2.2.2.2.2.2.2.2.2.2.2.2))).trans (hHeld.2.2.2.2.2.2.2.2.2.2.2.2.2.2.2.2.2.2.2)
                      refine ⟨_, rfl, ?_⟩
                      have n0_ := Aside0.mk (Kd.R_below (by (with_reducible repeat (first | apply Kd.R_alloc | apply Kd.R_drewN | apply Kd.R_drew)); exact HO_5.out) hb)
                      have n1_ := Aside0.mk (blk_below (g := gb251) (o := .cells #[.int .i64 ((rd_T34 l0 x17_1).f0), .int .u16 ((rd_T34 l0 x17_1).f1), .bool ((rd_T34 l0 x17_1).f2), .bool ((rd_T34 l0 x17_1).f3), .bool ((rd_T34 l0 x17_1).f4), .bool ((rd_T34 l0 x17_1).f5), .bool ((rd_T34 l0 x17_1).f6), .bool ((rd_T34 l0 x17_1).f7), .bool ((rd_T34 l0 x17_1).f8), .int .u8 ((rd_T34 l0 x17_1).f9)] 34 (0, 0)) (by (with_reducible repeat (first | refine blk_drewN ?_ _ | refine blk_drew ?_ | refine blk_alloc ?_ _)); exact BK251.out) hb)
                      have n2_ := Aside0.mk (below_step (by repeat (first | (with_reducible first | exact HB.out | apply below_alloc | apply pw_below_drewN | apply below_drew1 | refine below_set ?_ GE251.out) | exact HB.out)) hb)
                      clear HO_5
                      clear BK251
                      clear HB
                      have HO_5 := n0_
                      have BK251 := n1_
                      have HB := n2_
                      clear n0_ n1_ n2_
                      (try clear hb)
                      (try clear hb2)
                      (try clear hk)
                      (try clear hi)
                      refine hK.out _ _ ⟨(blk_cell BK251.out 0).trans rfl, (blk_cell BK251.out 1).trans rfl, (blk_cell BK251.out 2).trans rfl, (blk_cell BK251.out 3).trans rfl, (blk_cell BK251.out 4).trans rfl, (blk_cell BK251.out 5).trans rfl, (blk_cell BK251.out 6).trans rfl, (blk_cell BK251.out 7).trans rfl, (blk_cell BK251.out 8).trans rfl, (blk_cell BK251.out 9).trans rfl, HS10_, HS11_, HS12_, HS13_, HS14_, HS15_, HS16_, HS17_, HS18_, HS19_⟩ (fun hHeld => ?_)
                      clear hK K
                      refine norm_ (a' := ?_) ?_ ?_
                      rotate_left
                      · show Act.put _ (some 33) _ = _
                        simp only [Act.put, List.setIfInBounds_toArray, List.set_cons_zero, List.set_cons_succ, i64_w, i32_w]
                        rfl
                      refine pure_ (i := 11) (N := some 34) (v := ?_) (a' := ?_) #[true, true, true, true, true, true, true, true, true, true, true, true, false] rfl rfl (any_of HT_.out (by kernel_rfl)) (fun _ _ _ h => h) (Or.inl ⟨by rfl, ?_⟩) ?_ ?_
                      rotate_left
                      · intro w'
                        go_simp
                        with_reducible rfl
                      rotate_left
                      · simp only [Act.put, List.setIfInBounds_toArray, List.set_cons_zero, List.set_cons_succ, i64_w, i32_w]
                        rfl
                      refine pure_ (i := 12) (N := some 35) (v := ?_) (a' := ?_) #[true, true, true, true, true, true, true, true, true, true, true, true, true] rfl rfl (any_of HT_.out (by kernel_rfl)) (fun _ _ _ h => h) (Or.inl ⟨by rfl, ?_⟩) ?_ ?_
                      rotate_left
                      · intro w'
                        go_simp
                        with_reducible rfl
                      rotate_left
                      · simp only [Act.put, List.setIfInBounds_toArray, List.set_cons_zero, List.set_cons_succ, i64_w, i32_w]
                        rfl
                      refine done_ (done_of HT_.out (by kernel_rfl)) ?_
                      try go_wp2
                      go_meet
                      case rel => exact ⟨_, ((t253 == t263 && (t254 == t264 && (t255 == t265 && (t256 == t266 && (t257 == t267 && (t258 == t268 && (t259 == t269 && (t260 == t270 && (t261 == t271 && (t262 == t272))))))))))), (by first | rfl | (simp; done) | (simp [*]; done)), H', ⟨by have := HK1.out; first | omega | exact Nat.le_refl _⟩, ⟨by (with_reducible repeat (first | apply Kd.R_alloc | apply Kd.R_drewN | apply Kd.R_drew)); exact HO_5.out⟩, ⟨by (with_reducible repeat (first | refine blk_drewN ?_ _ | refine blk_drew ?_ | refine blk_alloc ?_ _)); exact BK251.out⟩, ⟨by repeat (first | (with_reducible first | exact HB.out | apply below_alloc | apply pw_below_drewN | apply below_drew1 | refine below_set ?_ GE251.out) | exact HB.out)⟩⟩
                    · rw [if_neg c15] at H
                      exact absurd H (by simp)
                  · rw [if_neg c14] at H
                    exact absurd H (by simp)
                · rw [if_neg c12] at H
                  have c12b0 : decide (0 < (x5_1.length : Int)) = false := decide_eq_false c12
                  have c12b1 : decide (0 < x5_1.length) = false := decide_eq_false (by omega)
                  clear c12
                  (first | rw [c12b0] | (simp only [i64_w, i32_w]; rw [c12b0]) | skip)
                  have H' := Aside0.mk H
                  clear H
                  try go_wp2
                  have n0_ : Aside0 (Kd.R k34 34 ((((((((((w9.setCell ⟨gb251, 0, none⟩ (.int .i64 ((rd_T34 l0 x17_1).f0))).setCell ⟨gb251, 1, none⟩ (.int .u16 ((rd_T34 l0 x17_1).f1))).setCell ⟨gb251, 2, none⟩ (.bool ((rd_T34 l0 x17_1).f2))).setCell ⟨gb251, 3, none⟩ (.bool ((rd_T34 l0 x17_1).f3))).setCell ⟨gb251, 4, none⟩ (.bool ((rd_T34 l0 x17_1).f4))).setCell ⟨gb251, 5, none⟩ (.bool ((rd_T34 l0 x17_1).f5))).setCell ⟨gb251, 6, none⟩ (.bool ((rd_T34 l0 x17_1).f6))).setCell ⟨gb251, 7, none⟩ (.bool ((rd_T34 l0 x17_1).f7))).setCell ⟨gb251, 8, none⟩ (.bool ((rd_T34 l0 x17_1).f8))).setCell ⟨gb251, 9, none⟩ (.int .u8 ((rd_T34 l0 x17_1).f9))) w.heap.size (fun k_ => k_ ≠ gb251) (.slice Ao11 x5_1.length co11) x5_1) := ⟨by (with_reducible repeat (first | apply Kd.R_alloc | apply Kd.R_drewN | apply Kd.R_drew)); exact Kd.R_mono (Kd.R_far (p := ⟨gb251, 9, none⟩) (Kd.R_far (p := ⟨gb251, 8, none⟩) (Kd.R_far (p := ⟨gb251, 7, none⟩) (Kd.R_far (p := ⟨gb251, 6, none⟩) (Kd.R_far (p := ⟨gb251, 5, none⟩) (Kd.R_far (p := ⟨gb251, 4, none⟩) (Kd.R_far (p := ⟨gb251, 3, none⟩) (Kd.R_far (p := ⟨gb251, 2, none⟩) (Kd.R_far (p := ⟨gb251, 1, none⟩) (Kd.R_far (p := ⟨gb251, 0, none⟩) (Kd.R_mono HO_5.out (fun k_ hk => (⟨hk, hk.2⟩ : _ ∧ k_ ≠ gb251))) (fun _ hk => hk.2) (.int .i64 ((rd_T34 l0 x17_1).f0))) (fun _ hk => hk.2) (.int .u16 ((rd_T34 l0 x17_1).f1))) (fun _ hk => hk.2) (.bool ((rd_T34 l0 x17_1).f2))) (fun _ hk => hk.2) (.bool ((rd_T34 l0 x17_1).f3))) (fun _ hk => hk.2) (.bool ((rd_T34 l0 x17_1).f4))) (fun _ hk => hk.2) (.bool ((rd_T34 l0 x17_1).f5))) (fun _ hk => hk.2) (.bool ((rd_T34 l0 x17_1).f6))) (fun _ hk => hk.2) (.bool ((rd_T34 l0 x17_1).f7))) (fun _ hk => hk.2) (.bool ((rd_T34 l0 x17_1).f8))) (fun _ hk => hk.2) (.int .u8 ((rd_T34 l0 x17_1).f9))) (fun _ hk => hk.1.2)⟩
                  have n1_ : Aside0 (((((((((((w9.setCell ⟨gb251, 0, none⟩ (.int .i64 ((rd_T34 l0 x17_1).f0))).setCell ⟨gb251, 1, none⟩ (.int .u16 ((rd_T34 l0 x17_1).f1))).setCell ⟨gb251, 2, none⟩ (.bool ((rd_T34 l0 x17_1).f2))).setCell ⟨gb251, 3, none⟩ (.bool ((rd_T34 l0 x17_1).f3))).setCell ⟨gb251, 4, none⟩ (.bool ((rd_T34 l0 x17_1).f4))).setCell ⟨gb251, 5, none⟩ (.bool ((rd_T34 l0 x17_1).f5))).setCell ⟨gb251, 6, none⟩ (.bool ((rd_T34 l0 x17_1).f6))).setCell ⟨gb251, 7, none⟩ (.bool ((rd_T34 l0 x17_1).f7))).setCell ⟨gb251, 8, none⟩ (.bool ((rd_T34 l0 x17_1).f8))).setCell ⟨gb251, 9, none⟩ (.int .u8 ((rd_T34 l0 x17_1).f9))).heap[gb251]? = some (.cells #[.int .i64 ((rd_T34 l0 x17_1).f0), .int .u16 ((rd_T34 l0 x17_1).f1), .bool ((rd_T34 l0 x17_1).f2), .bool ((rd_T34 l0 x17_1).f3), .bool ((rd_T34 l0 x17_1).f4), .bool ((rd_T34 l0 x17_1).f5), .bool ((rd_T34 l0 x17_1).f6), .bool ((rd_T34 l0 x17_1).f7), .bool ((rd_T34 l0 x17_1).f8), .int .u8 ((rd_T34 l0 x17_1).f9)] 34 (0, 0))) := ⟨by (with_reducible repeat (first | refine blk_drewN ?_ _ | refine blk_drew ?_ | refine blk_alloc ?_ _)); refine blk_put (cs := #[.int .i64 ((rd_T34 l0 x17_1).f0), .int .u16 ((rd_T34 l0 x17_1).f1), .bool ((rd_T34 l0 x17_1).f2), .bool ((rd_T34 l0 x17_1).f3), .bool ((rd_T34 l0 x17_1).f4), .bool ((rd_T34 l0 x17_1).f5), .bool ((rd_T34 l0 x17_1).f6), .bool ((rd_T34 l0 x17_1).f7), .bool ((rd_T34 l0 x17_1).f8), .int .u8 0]) ?_ 9 _ rfl; (with_reducible repeat (first | refine blk_drewN ?_ _ | refine blk_drew ?_ | refine blk_alloc ?_ _)); refine blk_put (cs := #[.int .i64 ((rd_T34 l0 x17_1).f0), .int .u16 ((rd_T34 l0 x17_1).f1), .bool ((rd_T34 l0 x17_1).f2), .bool ((rd_T34 l0 x17_1).f3), .bool ((rd_T34 l0 x17_1).f4), .bool ((rd_T34 l0 x17_1).f5), .bool ((rd_T34 l0 x17_1).f6), .bool ((rd_T34 l0 x17_1).f7), .bool false, .int .u8 0]) ?_ 8 _ rfl; (with_reducible repeat (first | refine blk_drewN ?_ _ | refine blk_drew ?_ | refine blk_alloc ?_ _)); refine blk_put (cs := #[.int .i64 ((rd_T34 l0 x17_1).f0), .int .u16 ((rd_T34 l0 x17_1).f1), .bool ((rd_T34 l0 x17_1).f2), .bool ((rd_T34 l0 x17_1).f3), .bool ((rd_T34 l0 x17_1).f4), .bool ((rd_T34 l0 x17_1).f5), .bool ((rd_T34 l0 x17_1).f6), .bool false, .bool false, .int .u8 0]) ?_ 7 _ rfl; (with_reducible repeat (first | refine blk_drewN ?_ _ | refine blk_drew ?_ | refine blk_alloc ?_ _)); refine blk_put (cs := #[.int .i64 ((rd_T34 l0 x17_1).f0), .int .u16 ((rd_T34 l0 x17_1).f1), .bool ((rd_T34 l0 x17_1).f2), .bool ((rd_T34 l0 x17_1).f3), .bool ((rd_T34 l0 x17_1).f4), .bool ((rd_T34 l0 x17_1).f5), .bool false, .bool false, .bool false, .int .u8 0]) ?_ 6 _ rfl; (with_reducible repeat (first | refine blk_drewN ?_ _ | refine blk_drew ?_ | refine blk_alloc ?_ _)); refine blk_put (cs := #[.int .i64 ((rd_T34 l0 x17_1).f0), .int .u16 ((rd_T34 l0 x17_1).f1), .bool ((rd_T34 l0 x17_1).f2), .bool ((rd_T34 l0 x17_1).f3), .bool ((rd_T34 l0 x17_1).f4), .bool false, .bool false, .bool false, .bool false, .int .u8 0]) ?_ 5 _ rfl; (with_reducible repeat (first | refine blk_drewN ?_ _ | refine blk_drew ?_ | refine blk_alloc ?_ _)); refine blk_put (cs := #[.int .i64 ((rd_T34 l0 x17_1).f0), .int .u16 ((rd_T34 l0 x17_1).f1), .bool ((rd_T34 l0 x17_1).f2), .bool ((rd_T34 l0 x17_1).f3), .bool false, .bool false, .bool false, .bool false, .bool false, .int .u8 0]) ?_ 4 _ rfl; (with_reducible repeat (first | refine blk_drewN ?_ _ | refine blk_drew ?_ | refine blk_alloc ?_ _)); refine blk_put (cs := #[.int .i64 ((rd_T34 l0 x17_1).f0), .int .u16 ((rd_T34 l0 x17_1).f1), .bool ((rd_T34 l0 x17_1).f2), .bool false, .bool false, .bool false, .bool false, .bool false, .bool false, .int .u8 0]) ?_ 3 _ rfl; (with_reducible repeat (first | refine blk_drewN ?_ _ | refine blk_drew ?_ | refine blk_alloc ?_ _)); refine blk_put (cs := #[.int .i64 ((rd_T34 l0 x17_1).f0), .int .u16 ((rd_T34 l0 x17_1).f1), .bool false, .bool false, .bool false, .bool false, .bool false, .bool false, .bool false, .int .u8 0]) ?_ 2 _ rfl; (with_reducible repeat (first | refine blk_drewN ?_ _ | refine blk_drew ?_ | refine blk_alloc ?_ _)); refine blk_put (cs := #[.int .i64 ((rd_T34 l0 x17_1).f0), .int .u16 0, .bool false, .bool false, .bool false, .bool false, .bool false, .bool false, .bool false, .int .u8 0]) ?_ 1 _ rfl; (with_reducible repeat (first | refine blk_drewN ?_ _ | refine blk_drew ?_ | refine blk_alloc ?_ _)); refine blk_put (cs := #[.int .i64 0, .int .u16 0, .bool false, .bool false, .bool false, .bool false, .bool false, .bool false, .bool false, .int .u8 0]) ?_ 0 _ rfl; (with_reducible repeat (first | refine blk_drewN ?_ _ | refine blk_drew ?_ | refine blk_alloc ?_ _)); exact BK251.out⟩
                  have n2_ : Aside0 (Below w.heap.size w ((((((((((w9.setCell ⟨gb251, 0, none⟩ (.int .i64 ((rd_T34 l0 x17_1).f0))).setCell ⟨gb251, 1, none⟩ (.int .u16 ((rd_T34 l0 x17_1).f1))).setCell ⟨gb251, 2, none⟩ (.bool ((rd_T34 l0 x17_1).f2))).setCell ⟨gb251, 3, none⟩ (.bool ((rd_T34 l0 x17_1).f3))).setCell ⟨gb251, 4, none⟩ (.bool ((rd_T34 l0 x17_1).f4))).setCell ⟨gb251, 5, none⟩ (.bool ((rd_T34 l0 x17_1).f5))).setCell ⟨gb251, 6, none⟩ (.bool ((rd_T34 l0 x17_1).f6))).setCell ⟨gb251, 7, none⟩ (.bool ((rd_T34 l0 x17_1).f7))).setCell ⟨gb251, 8, none⟩ (.bool ((rd_T34 l0 x17_1).f8))).setCell ⟨gb251, 9, none⟩ (.int .u8 ((rd_T34 l0 x17_1).f9)))) := ⟨by repeat (first | (with_reducible first | exact HB.out | apply below_alloc | apply pw_below_drewN | apply below_drew1 | refine below_set ?_ GE251.out) | exact HB.out)⟩
                  (try clear HO_5)
                  (try clear BK251)
                  (try clear HB)
                  generalize ((((((((((w9.setCell ⟨gb251, 0, none⟩ (.int .i64 ((rd_T34 l0 x17_1).f0))).setCell ⟨gb251, 1, none⟩ (.int .u16 ((rd_T34 l0 x17_1).f1))).setCell ⟨gb251, 2, none⟩ (.bool ((rd_T34 l0 x17_1).f2))).setCell ⟨gb251, 3, none⟩ (.bool ((rd_T34 l0 x17_1).f3))).setCell ⟨gb251, 4, none⟩ (.bool ((rd_T34 l0 x17_1).f4))).setCell ⟨gb251, 5, none⟩ (.bool ((rd_T34 l0 x17_1).f5))).setCell ⟨gb251, 6, none⟩ (.bool ((rd_T34 l0 x17_1).f6))).setCell ⟨gb251, 7, none⟩ (.bool ((rd_T34 l0 x17_1).f7))).setCell ⟨gb251, 8, none⟩ (.bool ((rd_T34 l0 x17_1).f8))).setCell ⟨gb251, 9, none⟩ (.int .u8 ((rd_T34 l0 x17_1).f9))) = w22 at n0_ n1_ n2_ ⊢
                  have HO_5 := n0_
                  have BK251 := n1_
                  have HB := n2_
                  clear n0_ n1_ n2_
                  have n0_ := Aside0.mk (Kd.R_drew HO_5.out)
                  have n1_ := Aside0.mk (blk_drew BK251.out)
                  have n2_ := Aside0.mk (below_drew1 HB.out)
                  clear HO_5
                  clear BK251
                  clear HB
                  have HO_5 := n0_
                  have BK251 := n1_
                  have HB := n2_
                  clear n0_ n1_ n2_
                  refine start_ (n := 13) (S := fun w' => True) (ds := []) #[false, false, false, false, false, false, false, false, false, false, false, false, false] (by kernel_rfl) rfl rfl trivial (fun hHeld => ?_); refine with_tabW script_Normal.tab9 script_Normal.bits9 (fun HT_ HW_ => ?_)
                  generalize w22.drew = w23 at HO_5 BK251 HB hHeld ⊢
                  refine pure_ (i := 0) (N := some 23) (v := ?_) (a' := ?_) #[true, false, false, false, false, false, false, false, false, false, false, false, false] rfl rfl (any_of HT_.out (by kernel_rfl)) (fun _ _ _ h => h) (Or.inl ⟨by rfl, ?_⟩) ?_ ?_
                  rotate_left
                  · intro w'
                    go_simp
                    with_reducible rfl
                  rotate_left
                  · simp only [Act.put, List.setIfInBounds_toArray, List.set_cons_zero, List.set_cons_succ, i64_w, i32_w]
                    rfl
                  refine pure_ (i := 1) (N := some 24) (v := ?_) (a' := ?_) #[true, true, false, false, false, false, false, false, false, false, false, false, false] rfl rfl (any_of HT_.out (by kernel_rfl)) (fun _ _ _ h => h) (Or.inl ⟨by rfl, ?_⟩) ?_ ?_
                  rotate_left
                  · intro w'
                    go_simp
                    with_reducible rfl
                  rotate_left
                  · simp only [Act.put, List.setIfInBounds_toArray, List.set_cons_zero, List.set_cons_succ, i64_w, i32_w]
                    rfl
                  refine pure_ (i := 2) (N := some 25) (v := ?_) (a' := ?_) #[true, true, true, false, false, false, false, false, false, false, false, false, false] rfl rfl (any_of HT_.out (by kernel_rfl)) (fun _ _ _ h => h) (Or.inl ⟨by rfl, ?_⟩) ?_ ?_
                  rotate_left
                  · intro w'
                    go_simp
                    with_reducible rfl
                  rotate_left
                  · simp only [Act.put, List.setIfInBounds_toArray, List.set_cons_zero, List.set_cons_succ, i64_w, i32_w]
                    rfl
                  refine pure_ (i := 3) (N := some 26) (v := undef) (a' := ?_) #[true, true, true, true, false, false, false, false, false, false, false, false, false] rfl rfl (any_of HT_.out (by kernel_rfl)) (fun _ _ _ h => h) (Or.inr ⟨by rfl, rfl⟩) ?_ ?_
                  rotate_left
                  · simp only [Act.put, List.setIfInBounds_toArray, List.set_cons_zero, List.set_cons_succ, i64_w, i32_w]
                    rfl
                  refine pure_ (i := 4) (N := some 27) (v := undef) (a' := ?_) #[true, true, true, true, true, false, false, false, false, false, false, false, false] rfl rfl (any_of HT_.out (by kernel_rfl)) (fun _ _ _ h => h) (Or.inr ⟨by rfl, rfl⟩) ?_ ?_
                  rotate_left
                  · simp only [Act.put, List.setIfInBounds_toArray, List.set_cons_zero, List.set_cons_succ, i64_w, i32_w]
                    rfl
                  refine pure_ (i := 5) (N := some 28) (v := undef) (a' := ?_) #[true, true, true, true, true, true, false, false, false, false, false, false, false] rfl rfl (any_of HT_.out (by kernel_rfl)) (fun _ _ _ h => h) (Or.inr ⟨by rfl, rfl⟩) ?_ ?_
                  rotate_left
                  · simp only [Act.put, List.setIfInBounds_toArray, List.set_cons_zero, List.set_cons_succ, i64_w, i32_w]
                    rfl
                  refine pure_ (i := 6) (N := some 29) (v := undef) (a' := ?_) #[true, true, true, true, true, true, true, false, false, false, false, false, false] rfl rfl (any_of HT_.out (by kernel_rfl)) (fun _ _ _ h => h) (Or.inr ⟨by rfl, rfl⟩) ?_ ?_
                  rotate_left
                  · simp only [Act.put, List.setIfInBounds_toArray, List.set_cons_zero, List.set_cons_succ, i64_w, i32_w]
                    rfl
                  refine pure_ (i := 7) (N := some 30) (v := undef) (a' := ?_) #[true, true, true, true, true, true, true, true, false, false, false, false, false] rfl rfl (any_of HT_.out (by kernel_rfl)) (fun _ _ _ h => h) (Or.inr ⟨by rfl, rfl⟩) ?_ ?_
                  rotate_left
                  · simp only [Act.put, List.setIfInBounds_toArray, List.set_cons_zero, List.set_cons_succ, i64_w, i32_w]
                    rfl
                  refine pure_ (i := 8) (N := some 31) (v := undef) (a' := ?_) #[true, true, true, true, true, true, true, true, true, false, false, false, false] rfl rfl (any_of HT_.out (by kernel_rfl)) (fun _ _ _ h => h) (Or.inr ⟨by rfl, rfl⟩) ?_ ?_
                  rotate_left
                  · simp only [Act.put, List.setIfInBounds_toArray, List.set_cons_zero, List.set_cons_succ, i64_w, i32_w]
                    rfl
                  refine pure_ (i := 9) (N := some 32) (v := undef) (a' := ?_) #[true, true, true, true, true, true, true, true, true, true, false, false, false] rfl rfl (any_of HT_.out (by kernel_rfl)) (fun _ _ _ h => h) (Or.inr ⟨by rfl, rfl⟩) ?_ ?_
                  rotate_left
                  · simp only [Act.put, List.setIfInBounds_toArray, List.set_cons_zero, List.set_cons_succ, i64_w, i32_w]
                    rfl
                  refine pure_ (i := 10) (N := some 33) (v := undef) (a' := ?_) #[true, true, true, true, true, true, true, true, true, true, true, false, false] rfl rfl (any_of HT_.out (by kernel_rfl)) (fun _ _ _ h => h) (Or.inr ⟨by rfl, rfl⟩) ?_ ?_
                  rotate_left
                  · simp only [Act.put, List.setIfInBounds_toArray, List.set_cons_zero, List.set_cons_succ, i64_w, i32_w]
                    rfl
                  refine pure_ (i := 11) (N := some 34) (v := undef) (a' := ?_) #[true, true, true, true, true, true, true, true, true, true, true, true, false] rfl rfl (any_of HT_.out (by kernel_rfl)) (fun _ _ _ h => h) (Or.inr ⟨by rfl, rfl⟩) ?_ ?_
                  rotate_left
                  · simp only [Act.put, List.setIfInBounds_toArray, List.set_cons_zero, List.set_cons_succ, i64_w, i32_w]
                    rfl
                  refine pure_ (i := 12) (N := some 35) (v := ?_) (a' := ?_) #[true, true, true, true, true, true, true, true, true, true, true, true, true] rfl rfl (any_of HT_.out (by kernel_rfl)) (fun _ _ _ h => h) (Or.inl ⟨by rfl, ?_⟩) ?_ ?_
                  rotate_left
                  · intro w'
                    go_simp
                    with_reducible rfl
                  rotate_left
                  · simp only [Act.put, List.setIfInBounds_toArray, List.set_cons_zero, List.set_cons_succ, i64_w, i32_w]
                    rfl
                  refine done_ (done_of HT_.out (by kernel_rfl)) ?_
                  try go_wp2
                  go_meet
                  case rel => exact ⟨_, (false), (by first | rfl | (simp; done) | (simp [*]; done)), H', ⟨by have := HK1.out; first | omega | exact Nat.le_refl _⟩, ⟨by (with_reducible repeat (first | apply Kd.R_alloc | apply Kd.R_drewN | apply Kd.R_drew)); exact HO_5.out⟩, ⟨by (with_reducible repeat (first | refine blk_drewN ?_ _ | refine blk_drew ?_ | refine blk_alloc ?_ _)); exact BK251.out⟩, ⟨by repeat (first | (with_reducible first | exact HB.out | apply below_alloc | apply pw_below_drewN | apply below_drew1 | refine below_set ?_ GE251.out) | exact HB.out)⟩⟩
              case rest =>
                clear HC8
                try clear c1
                try clear c2
                try clear p2
                try clear q2
                try clear hx2
                try clear c3
                try clear c3b0
                try clear c3b1
                try clear c4
                try clear c5
                try clear c5b0
                try clear c6
                try clear c6b0
                try clear p6
                try clear c7
                try clear c7b0
                try clear c12
                try clear c12b0
                try clear c12b1
                try clear c14
                try clear c14b0
                try clear c15
                try clear c15b0
                try clear hcz10_0
                try clear hcz10_1
                try clear hcz10_2
                try clear hcz10_3
                try clear hcz10_4
                try clear hcz10_5
                try clear hcz10_6
                try clear hcz10_7
                try clear hcz10_8
                try clear hcz10_9
                try clear hfz10_0
                try clear hfz10_1
                try clear hfz10_2
                try clear hfz10_3
                try clear hfz10_4
                try clear hfz10_5
                try clear hfz10_6
                try clear hfz10_7
                try clear hfz10_8
                try clear hfz10_9
                try clear hx250_0
                try clear hx250_1
                try clear hx250_2
                try clear hx250_3
                try clear hx250_4
                try clear hx250_5
                try clear hx250_6
                try clear hx250_7
                try clear hx250_8
                try clear hx250_9
                try clear hx252_0
                try clear hx252_1
                try clear hx252_2
                try clear hx252_3
                try clear hx252_4
                try clear hx252_5
                try clear hx252_6
                try clear hx252_7
                try clear hx252_8
                try clear hx252_9
                try clear p2
                try clear p250
                try clear p252
                try clear q250
                try clear q252
                obtain ⟨kq, x35_7, rfl, HA, HJ7, HO_5, BK251, HB⟩ := hcut
                cases kq with
                | zero => exact absurd HA.out (by simp [script_Normal.j1])
                | succ kj7 =>
                  have H := HA.out
                  clear HA
                  simp only [script_Normal.j1] at H
                  by_cases c24 : x35_7 = true
                  · subst c24
                    have H1 : (if 0 ≤ (wrap64 ((x5_1.length : Int) - 1)) then (if (wrap64 ((x5_1.length : Int) - 1)) < (x5_1.length : Int) then ((some (x5_1.set ((wrap64 ((x5_1.length : Int) - 1)) : Int).toNat (⟨wrap64 (((rd_T34 x5_1 (wrap64 ((x5_1.length : Int) - 1))).f0) + (mn ((rd_T34 l0 x17_1).f0) (wrap64 (1048576 - ((rd_T34 x5_1 (wrap64 ((x5_1.length : Int) - 1))).f0))))), (rd_T34 x5_1 (wrap64 ((x5_1.length : Int) - 1))).f1, (rd_T34 x5_1 (wrap64 ((x5_1.length : Int) - 1))).f2, (rd_T34 x5_1 (wrap64 ((x5_1.length : Int) - 1))).f3, (rd_T34 x5_1 (wrap64 ((x5_1.length : Int) - 1))).f4, (rd_T34 x5_1 (wrap64 ((x5_1.length : Int) - 1))).f5, (rd_T34 x5_1 (wrap64 ((x5_1.length : Int) - 1))).f6, (rd_T34 x5_1 (wrap64 ((x5_1.length : Int) - 1))).f7, (rd_T34 x5_1 (wrap64 ((x5_1.length : Int) - 1))).f8, (rd_T34 x5_1 (wrap64 ((x5_1.length : Int) - 1))).f9⟩ : S34) : List (S34))).bind fun y275 => (if (wrap64 (((rd_T34 l0 x17_1).f0) - (mn ((rd_T34 l0 x17_1).f0) (wrap64 (1048576 - ((rd_T34 x5_1 (wrap64 ((x5_1.length : Int) - 1))).f0)))))) > 0 then (if y275.length < 5864062014805 then (script_Normal.l0 kj7 (y275 ++ [(⟨wrap64 (((rd_T34 l0 x17_1).f0) - (mn ((rd_T34 l0 x17_1).f0) (wrap64 (1048576 - ((rd_T34 x5_1 (wrap64 ((x5_1.length : Int) - 1))).f0))))), ((rd_T34 l0 x17_1).f1), ((rd_T34 l0 x17_1).f2), ((rd_T34 l0 x17_1).f3), ((rd_T34 l0 x17_1).f4), ((rd_T34 l0 x17_1).f5), ((rd_T34 l0 x17_1).f6), ((rd_T34 l0 x17_1).f7), ((rd_T34 l0 x17_1).f8), ((rd_T34 l0 x17_1).f9)⟩ : S34)]) l0 (l0.length : Int) (wrap64 (x17_1 + 1))) else (none)) else (script_Normal.l0 kj7 y275 l0 (l0.length : Int) (wrap64 (x17_1 + 1))))) else (none)) else (none)) = some (r1, r2) := by rw [if_pos rfl] at H; exact H
                    clear H
                    have H := H1
                    clear H1
                    obtain ⟨ji25, hji25⟩ : ∃ j_ : Int, (wrap64 ((x5_1.length : Int) - 1)) = j_ := ⟨_, rfl⟩
                    replace H : (if 0 ≤ (ji25) then (if (ji25) < (x5_1.length : Int) then ((some (x5_1.set ((ji25) : Int).toNat (⟨wrap64 (((rd_T34 x5_1 (ji25)).f0) + (mn ((rd_T34 l0 x17_1).f0) (wrap64 (1048576 - ((rd_T34 x5_1 (ji25)).f0))))), (rd_T34 x5_1 (ji25)).f1, (rd_T34 x5_1 (ji25)).f2, (rd_T34 x5_1 (ji25)).f3, (rd_T34 x5_1 (ji25)).f4, (rd_T34 x5_1 (ji25)).f5, (rd_T34 x5_1 (ji25)).f6, (rd_T34 x5_1 (ji25)).f7, (rd_T34 x5_1 (ji25)).f8, (rd_T34 x5_1 (ji25)).f9⟩ : S34) : List (S34))).bind fun y275 => (if (wrap64 (((rd_T34 l0 x17_1).f0) - (mn ((rd_T34 l0 x17_1).f0) (wrap64 (1048576 - ((rd_T34 x5_1 (ji25)).f0)))))) > 0 then (if y275.length < 5864062014805 then (script_Normal.l0 kj7 (y275 ++ [(⟨wrap64 (((rd_T34 l0 x17_1).f0) - (mn ((rd_T34 l0 x17_1).f0) (wrap64 (1048576 - ((rd_T34 x5_1 (ji25)).f0))))), ((rd_T34 l0 x17_1).f1), ((rd_T34 l0 x17_1).f2), ((rd_T34 l0 x17_1).f3), ((rd_T34 l0 x17_1).f4), ((rd_T34 l0 x17_1).f5), ((rd_T34 l0 x17_1).f6), ((rd_T34 l0 x17_1).f7), ((rd_T34 l0 x17_1).f8), ((rd_T34 l0 x17_1).f9)⟩ : S34)]) l0 (l0.length : Int) (wrap64 (x17_1 + 1))) else (none)) else (script_Normal.l0 kj7 y275 l0 (l0.length : Int) (wrap64 (x17_1 + 1))))) else (none)) else (none)) = some (r1, r2) := by first | (rw [hji25] at H; exact H) | (simp only [hji25] at H ⊢; exact H)
                    have hji25w : (IntKind.i64.wrap ((x5_1.length : Int) - 1)) = ji25 := (i64_w _).trans hji25
                    by_cases c26 : 0 ≤ (ji25)
                    · rw [if_pos c26] at H
                      have c26b0 : decide (0 ≤ (ji25)) = true := decide_eq_true c26
                      clear c26
                      by_cases c27 : (ji25) < (x5_1.length : Int)
                      · rw [if_pos c27] at H
                        have c27b0 : decide ((ji25) < (x5_1.length : Int)) = true := decide_eq_true c27
                        clear c27
                        obtain ⟨ji28, hji28⟩ : ∃ j_ : Int, (mn ((rd_T34 l0 x17_1).f0) (wrap64 (1048576 - ((rd_T34 x5_1 (ji25)).f0)))) = j_ := ⟨_, rfl⟩
                        replace H : ((some (x5_1.set ((ji25) : Int).toNat (⟨wrap64 (((rd_T34 x5_1 (ji25)).f0) + (ji28)), (rd_T34 x5_1 (ji25)).f1, (rd_T34 x5_1 (ji25)).f2, (rd_T34 x5_1 (ji25)).f3, (rd_T34 x5_1 (ji25)).f4, (rd_T34 x5_1 (ji25)).f5, (rd_T34 x5_1 (ji25)).f6, (rd_T34 x5_1 (ji25)).f7, (rd_T34 x5_1 (ji25)).f8, (rd_T34 x5_1 (ji25)).f9⟩ : S34) : List (S34))).bind fun y275 => (if (wrap64 (((rd_T34 l0 x17_1).f0) - (ji28))) > 0 then (if y275.length < 5864062014805 then (script_Normal.l0 kj7 (y275 ++ [(⟨wrap64 (((rd_T34 l0 x17_1).f0) - (ji28)), ((rd_T34 l0 x17_1).f1), ((rd_T34 l0 x17_1).f2), ((rd_T34 l0 x17_1).f3), ((rd_T34 l0 x17_1).f4), ((rd_T34 l0 x17_1).f5), ((rd_T34 l0 x17_1).f6), ((rd_T34 l0 x17_1).f7), ((rd_T34 l0 x17_1).f8), ((rd_T34 l0 x17_1).f9)⟩ : S34)]) l0 (l0.length : Int) (wrap64 (x17_1 + 1))) else (none)) else (script_Normal.l0 kj7 y275 l0 (l0.length : Int) (wrap64 (x17_1 + 1))))) = some (r1, r2) := by first | (rw [hji28] at H; exact H) | (simp only [hji28] at H ⊢; exact H)
                        have hji28_ : (if (wrap64 (1048576 - ((rd_T34 x5_1 (ji25)).f0))) < ((rd_T34 l0 x17_1).f0) then (wrap64 (1048576 - ((rd_T34 x5_1 (ji25)).f0))) else ((rd_T34 l0 x17_1).f0)) = ji28 := hji28
                        obtain ⟨y275, hy275⟩ : ∃ y_ : List (S34), y_ = (x5_1.set ((ji25) : Int).toNat (⟨wrap64 (((rd_T34 x5_1 (ji25)).f0) + (ji28)), (rd_T34 x5_1 (ji25)).f1, (rd_T34 x5_1 (ji25)).f2, (rd_T34 x5_1 (ji25)).f3, (rd_T34 x5_1 (ji25)).f4, (rd_T34 x5_1 (ji25)).f5, (rd_T34 x5_1 (ji25)).f6, (rd_T34 x5_1 (ji25)).f7, (rd_T34 x5_1 (ji25)).f8, (rd_T34 x5_1 (ji25)).f9⟩ : S34)) := ⟨_, rfl⟩
                        replace H : (if (wrap64 (((rd_T34 l0 x17_1).f0) - (ji28))) > 0 then (if y275.length < 5864062014805 then (script_Normal.l0 kj7 (y275 ++ [(⟨wrap64 (((rd_T34 l0 x17_1).f0) - (ji28)), ((rd_T34 l0 x17_1).f1), ((rd_T34 l0 x17_1).f2), ((rd_T34 l0 x17_1).f3), ((rd_T34 l0 x17_1).f4), ((rd_T34 l0 x17_1).f5), ((rd_T34 l0 x17_1).f6), ((rd_T34 l0 x17_1).f7), ((rd_T34 l0 x17_1).f8), ((rd_T34 l0 x17_1).f9)⟩ : S34)]) l0 (l0.length : Int) (wrap64 (x17_1 + 1))) else (none)) else (script_Normal.l0 kj7 y275 l0 (l0.length : Int) (wrap64 (x17_1 + 1)))) = some (r1, r2) := by first | (rw [hy275]; with_reducible exact H) | (have H2_ := (Option.bind_some _ _).symm.trans H; rw [hy275]; with_reducible exact H2_) | (have H2_ := (Option.bind_some _ _).symm.trans H; with_reducible exact H2_) | with_reducible exact H | (rw [hy275]; exact H) | exact H
                        have Ny275 := Aside0.mk hy275
                        clear hy275
                        by_cases c30 : (wrap64 (((rd_T34 l0 x17_1).f0) - (ji28))) > 0
                        · rw [if_pos c30] at H
                          have c30b0 : decide (0 < (wrap64 (((rd_T34 l0 x17_1).f0) - (ji28)))) = true := decide_eq_true c30
                          clear c30
                          by_cases c31 : y275.length < 5864062014805
                          · rw [if_pos c31] at H
                            have LMc31 := Aside0.mk c31
                            clear c31
                            obtain ⟨y276, hy276⟩ : ∃ y_ : List (S34), y_ = (y275 ++ [(⟨wrap64 (((rd_T34 l0 x17_1).f0) - (ji28)), ((rd_T34 l0 x17_1).f1), ((rd_T34 l0 x17_1).f2), ((rd_T34 l0 x17_1).f3), ((rd_T34 l0 x17_1).f4), ((rd_T34 l0 x17_1).f5), ((rd_T34 l0 x17_1).f6), ((rd_T34 l0 x17_1).f7), ((rd_T34 l0 x17_1).f8), ((rd_T34 l0 x17_1).f9)⟩ : S34)]) := ⟨_, rfl⟩
                            replace H : (script_Normal.l0 kj7 y276 l0 (l0.length : Int) (wrap64 (x17_1 + 1))) = some (r1, r2) := by first | (rw [hy276]; with_reducible exact H) | (have H2_ := (Option.bind_some _ _).symm.trans H; rw [hy276]; with_reducible exact H2_) | (have H2_ := (Option.bind_some _ _).symm.trans H; with_reducible exact H2_) | with_reducible exact H | (rw [hy276]; exact H) | exact H
                            have Ny276 := Aside0.mk hy276
                            clear hy276
                            have H' := Aside0.mk H
                            clear H
                            try go_wp2
                            have n0_ := Aside0.mk (Kd.R_drew HO_5.out)
                            have n1_ := Aside0.mk (blk_drew BK251.out)
                            have n2_ := Aside0.mk (below_drew1 HB.out)
                            clear HO_5
                            clear BK251
                            clear HB
                            have HO_5 := n0_
                            have BK251 := n1_
                            have HB := n2_
                            clear n0_ n1_ n2_
                            have p273 : 0 ≤ ((ji25) : Int) := of_decide_eq_true (by first | (with_reducible assumption) | assumption)
                            have q273 : (ji25) < (x5_1.length : Int) := of_decide_eq_true (by first | (with_reducible assumption) | assumption)
                            obtain ⟨ad273, e273, hx273_0, hx273_1, hx273_2, hx273_3, hx273_4, hx273_5, hx273_6, hx273_7, hx273_8, hx273_9⟩ := at_T34 (Kd.R_reads' HO_5.out).2.2 (ji25) p273 q273
                            cases e273
                            replace p273 := eq_true p273
                            replace q273 := eq_true q273
                            refine start_ (n := 11) (S := fun w' => w'.cell? ⟨gb251, 0, none⟩ = some (.int .i64 ((rd_T34 l0 x17_1).f0)) ∧ w'.cell? ⟨gb251, 1, none⟩ = some (.int .u16 ((rd_T34 l0 x17_1).f1)) ∧ w'.cell? ⟨gb251, 2, none⟩ = some (.bool ((rd_T34 l0 x17_1).f2)) ∧ w'.cell? ⟨gb251, 3, none⟩ = some (.bool ((rd_T34 l0 x17_1).f3)) ∧ w'.cell? ⟨gb251, 4, none⟩ = some (.bool ((rd_T34 l0 x17_1).f4)) ∧ w'.cell? ⟨gb251, 5, none⟩ = some (.bool ((rd_T34 l0 x17_1).f5)) ∧ w'.cell? ⟨gb251, 6, none⟩ = some (.bool ((rd_T34 l0 x17_1).f6)) ∧ w'.cell? ⟨gb251, 7, none⟩ = some (.bool ((rd_T34 l0 x17_1).f7)) ∧ w'.cell? ⟨gb251, 8, none⟩ = some (.bool ((rd_T34 l0 x17_1).f8)) ∧ w'.cell? ⟨gb251, 9, none⟩ = some (.int .u8 ((rd_T34 l0 x17_1).f9)) ∧ w'.cell? (ad273.add (((ji25)).toNat * 10)) = some (.int .i64 ((rd_T34 x5_1 (ji25)).f0)) ∧ w'.cell? ⟨(ad273.add (((ji25)).toNat * 10)).block, (ad273.add (((ji25)).toNat * 10)).off + 1, none⟩ = some (.int .u16 ((rd_T34 x5_1 (ji25)).f1)) ∧ w'.cell? ⟨(ad273.add (((ji25)).toNat * 10)).block, (ad273.add (((ji25)).toNat * 10)).off + 2, none⟩ = some (.bool ((rd_T34 x5_1 (ji25)).f2)) ∧ w'.cell? ⟨(ad273.add (((ji25)).toNat * 10)).block, (ad273.add (((ji25)).toNat * 10)).off + 3, none⟩ = some (.bool ((rd_T34 x5_1 (ji25)).f3)) ∧ w'.cell? ⟨(ad273.add (((ji25)).toNat * 10)).block, (ad273.add (((ji25)).toNat * 10)).off + 4, none⟩ = some (.bool ((rd_T34 x5_1 (ji25)).f4)) ∧ w'.cell? ⟨(ad273.add (((ji25)).toNat * 10)).block, (ad273.add (((ji25)).toNat * 10)).off + 5, none⟩ = some (.bool ((rd_T34 x5_1 (ji25)).f5)) ∧ w'.cell? ⟨(ad273.add (((ji25)).toNat * 10)).block, (ad273.add (((ji25)).toNat * 10)).off + 6, none⟩ = some (.bool ((rd_T34 x5_1 (ji25)).f6)) ∧ w'.cell? ⟨(ad273.add (((ji25)).toNat * 10)).block, (ad273.add (((ji25)).toNat * 10)).off + 7, none⟩ = some (.bool ((rd_T34 x5_1 (ji25)).f7)) ∧ w'.cell? ⟨(ad273.add (((ji25)).toNat * 10)).block, (ad273.add (((ji25)).toNat * 10)).off + 8, none⟩ = some (.bool ((rd_T34 x5_1 (ji25)).f8)) ∧ w'.cell? ⟨(ad273.add (((ji25)).toNat * 10)).block, (ad273.add (((ji25)).toNat * 10)).off + 9, none⟩ = some (.int .u8 ((rd_T34 x5_1 (ji25)).f9))) (ds := []) #[false, false, false, false, false, false, false, false, false, false, false] (by kernel_rfl) rfl rfl ⟨(blk_cell BK251.out 0).trans rfl, (blk_cell BK251.out 1).trans rfl, (blk_cell BK251.out 2).trans rfl, (blk_cell BK251.out 3).trans rfl, (blk_cell BK251.out 4).trans rfl, (blk_cell BK251.out 5).trans rfl, (blk_cell BK251.out 6).trans rfl, (blk_cell BK251.out 7).trans rfl, (blk_cell BK251.out 8).trans rfl, (blk_cell BK251.out 9).trans rfl, hx273_0, hx273_1, hx273_2, hx273_3, hx273_4, hx273_5, hx273_6, hx273_7, hx273_8, hx273_9⟩ (fun hHeld => ?_); refine with_tabW script_Normal.tab10 script_Normal.bits10 (fun HT_ HW_ => ?_)
                            generalize wc.drew = w32 at HO_5 BK251 HB hx273_0 hx273_1 hx273_2 hx273_3 hx273_4 hx273_5 hx273_6 hx273_7 hx273_8 hx273_9 hHeld ⊢
                            refine pure_ (i := 0) (N := some 36) (v := ?_) (a' := ?_) #[true, false, false, false, false, false, false, false, false, false, false] rfl rfl (any_of HT_.out (by kernel_rfl)) (fun _ _ _ h => h) (Or.inl ⟨by rfl, ?_⟩) ?_ ?_
                            rotate_left
                            · intro w'
                              go_simp
                              with_reducible rfl
                            rotate_left
                            · simp only [Act.put, List.setIfInBounds_toArray, List.set_cons_zero, List.set_cons_succ, i64_w, i32_w]
                              rfl
                            refine pure_ (i := 2) (N := some 38) (v := ?_) (a' := ?_) #[true, false, true, false, false, false, false, false, false, false, false] rfl rfl (any_of HT_.out (by kernel_rfl)) (fun _ _ _ h => h) (Or.inl ⟨by rfl, ?_⟩) ?_ ?_
                            rotate_left
                            · intro w'
                              go_simp
                              with_reducible rfl
                            rotate_left
                            · simp only [Act.put, List.setIfInBounds_toArray, List.set_cons_zero, List.set_cons_succ, i64_w, i32_w]
                              rfl
                            refine pure_ (i := 3) (N := some 39) (v := ?_) (a' := ?_) #[true, false, true, true, false, false, false, false, false, false, false] rfl rfl (any_of HT_.out (by kernel_rfl)) (fun _ _ _ h => h) (Or.inl ⟨by rfl, ?_⟩) ?_ ?_
                            rotate_left
                            · intro w'
                              go_simp
                              with_reducible rfl
                            rotate_left
                            · simp only [Act.put, List.setIfInBounds_toArray, List.set_cons_zero, List.set_cons_succ, i64_w, i32_w]
                              rfl
                            refine pure_ (i := 4) (N := some 40) (v := ?_) (a' := ?_) #[true, false, true, true, true, false, false, false, false, false, false] rfl rfl (any_of HT_.out (by kernel_rfl)) (fun _ _ _ h => h) (Or.inl ⟨by rfl, ?_⟩) ?_ ?_
                            rotate_left
                            · intro w'
                              go_simp
                              with_reducible rfl
                            rotate_left
                            · simp only [Act.put, List.setIfInBounds_toArray, List.set_cons_zero, List.set_cons_succ, i64_w, i32_w]
                              rfl
                            refine pure_ (i := 5) (N := some 41) (v := ?_) (a' := ?_) #[true, false, true, true, true, true, false, false, false, false, false] rfl rfl (any_of HT_.out (by kernel_rfl)) (fun _ _ _ h => h) (Or.inl ⟨by rfl, ?_⟩) ?_ ?_
                            rotate_left
                            · intro w'
                              go_simp
                              with_reducible rfl
                            rotate_left
                            · simp only [Act.put, List.setIfInBounds_toArray, List.set_cons_zero, List.set_cons_succ, i64_w, i32_w]
                              rfl
                            refine pure_ (i := 6) (N := some 42) (v := ?_) (a' := ?_) #[true, false, true, true, true, true, true, false, false, false, false] rfl rfl (any_of HT_.out (by kernel_rfl)) (fun _ _ _ h => h) (Or.inl ⟨by rfl, ?_⟩) ?_ ?_
                            rotate_left
                            · intro w'
                              go_simp
                              with_reducible rfl
                            rotate_left
                            · simp only [Act.put, List.setIfInBounds_toArray, List.set_cons_zero, List.set_cons_succ, i64_w, i32_w]
                              rfl
                            refine take_ (i := 1) (N := some 37) (v := ?_) (a' := ?_) #[true, true, true, true, true, true, true, false, false, false, false] rfl rfl (take_ofW HT_.out HW_.out (by kernel_rfl)) (fun _ _ _ h => h) (Or.inl ⟨by rfl, ?_⟩) hHeld ?_ ?_
                            rotate_left
                            · rintro w' ⟨s0, s1, s2, s3, s4, s5, s6, s7, s8, s9, s10, s11, s12, s13, s14, s15, s16, s17, s18, s19⟩
                              go_simp
                              with_reducible rfl
                            rotate_left
                            · simp only [Act.put, List.setIfInBounds_toArray, List.set_cons_zero, List.set_cons_succ, i64_w, i32_w]
                              rfl
                            refine take_ (i := 7) (N := some 43) (v := ?_) (a' := ?_) #[true, true, true, true, true, true, true, true, false, false, false] rfl rfl (take_ofW HT_.out HW_.out (by kernel_rfl)) (fun _ _ _ h => h) (Or.inl ⟨by rfl, ?_⟩) hHeld ?_ ?_
                            rotate_left
                            · rintro w' ⟨s0, s1, s2, s3, s4, s5, s6, s7, s8, s9, s10, s11, s12, s13, s14, s15, s16, s17, s18, s19⟩
                              go_simp
                              with_reducible rfl
                            rotate_left
                            · simp only [Act.put, List.setIfInBounds_toArray, List.set_cons_zero, List.set_cons_succ, i64_w, i32_w]
                              rfl
                            refine pure_ (i := 8) (N := some 44) (v := ?_) (a' := ?_) #[true, true, true, true, true, true, true, true, true, false, false] rfl rfl (any_of HT_.out (by kernel_rfl)) (fun _ _ _ h => h) (Or.inl ⟨by rfl, ?_⟩) ?_ ?_
                            rotate_left
                            · intro w'
                              go_simp
                              with_reducible rfl
                            rotate_left
                            · simp only [Act.put, List.setIfInBounds_toArray, List.set_cons_zero, List.set_cons_succ, i64_w, i32_w]
                              rfl
                            refine pure_ (i := 9) (N := some 45) (v := ?_) (a' := ?_) #[true, true, true, true, true, true, true, true, true, true, false] rfl rfl (any_of HT_.out (by kernel_rfl)) (fun _ _ _ h => h) (Or.inl ⟨by rfl, ?_⟩) ?_ ?_
                            rotate_left
                            · intro w'
                              go_simp
                              with_reducible rfl
                            rotate_left
                            · simp only [Act.put, List.setIfInBounds_toArray, List.set_cons_zero, List.set_cons_succ, i64_w, i32_w]
                              rfl
                            refine pure_ (i := 10) (N := some 9) (v := ?_) (a' := ?_) #[true, true, true, true, true, true, true, true, true, true, true] rfl rfl (any_of HT_.out (by kernel_rfl)) (fun _ _ _ h => h) (Or.inl ⟨by rfl, ?_⟩) ?_ ?_
                            rotate_left
                            · intro w'
                              go_simp
                              with_reducible rfl
                            rotate_left
                            · simp only [Act.put, List.setIfInBounds_toArray, List.set_cons_zero, List.set_cons_succ, i64_w, i32_w]
                              rfl
                            refine done_ (done_of HT_.out (by kernel_rfl)) ?_
                            have p274 : 0 ≤ ((ji25) : Int) := of_decide_eq_true (by first | (with_reducible assumption) | assumption)
                            have q274 : (ji25) < (x5_1.length : Int) := of_decide_eq_true (by first | (with_reducible assumption) | assumption)
                            obtain ⟨ad274, e274, hx274_0, hx274_1, hx274_2, hx274_3, hx274_4, hx274_5, hx274_6, hx274_7, hx274_8, hx274_9⟩ := at_T34 (Kd.R_reads' HO_5.out).2.2 (ji25) p274 q274
                            obtain rfl : ad273 = ad274 := (by injection e274)
                            replace p274 := eq_true p274
                            replace q274 := eq_true q274
                            have p29 : 0 ≤ ((ji25) : Int) := of_decide_eq_true (by first | (with_reducible assumption) | assumption)
                            have q29 : ((ji25) : Int) < ((x5_1.length : Int) : Int) := of_decide_eq_true (by first | (with_reducible assumption) | assumption)
                            obtain ⟨go29, co29, eo29, gb29, gl29, cl29, HG29⟩ := Kd.R_form HO_5.out (by omega)
                            (first | cases eo29 | (injection eo29 with ea_ en_ ec_; (first | subst ea_ | (injection ea_ with ea_; subst ea_)); subst ec_; clear en_))
                            have GB29 := Aside0.mk gb29
                            have GG29 := Aside0.mk HG29
                            clear gb29 gl29 HG29
                            (first | simp only [add_plain] at hx273_0 | skip)
                            (first | simp only [add_plain] at hx273_1 | skip)
                            (first | simp only [add_plain] at hx273_2 | skip)
                            (first | simp only [add_plain] at hx273_3 | skip)
                            (first | simp only [add_plain] at hx273_4 | skip)
                            (first | simp only [add_plain] at hx273_5 | skip)
                            (first | simp only [add_plain] at hx273_6 | skip)
                            (first | simp only [add_plain] at hx273_7 | skip)
                            (first | simp only [add_plain] at hx273_8 | skip)
                            (first | simp only [add_plain] at hx273_9 | skip)
                            (first | simp only [add_plain] at hx274_0 | skip)
                            (first | simp only [add_plain] at hx274_1 | skip)
                            (first | simp only [add_plain] at hx274_2 | skip)
                            (first | simp only [add_plain] at hx274_3 | skip)
                            (first | simp only [add_plain] at hx274_4 | skip)
                            (first | simp only [add_plain] at hx274_5 | skip)
                            (first | simp only [add_plain] at hx274_6 | skip)
                            (first | simp only [add_plain] at hx274_7 | skip)
                            (first | simp only [add_plain] at hx274_8 | skip)
                            (first | simp only [add_plain] at hx274_9 | skip)
                            obtain ⟨ce29, hcl29, hM29, hcc29, hfr29⟩ := Kd.R_elem HO_5.out z34 ((ji25) : Int) p29 q29
                            obtain rfl := k34_openM hM29
                            have hx29_0 : w32.cell? ⟨go29, ((ji25) : Int).toNat * 10, none⟩ = some (.int .i64 ((rd_T34 x5_1 (ji25)).f0)) := hcc29 0 _ rfl
                            have hx29_1 : w32.cell? ⟨go29, ((ji25) : Int).toNat * 10 + 1, none⟩ = some (.int .u16 ((rd_T34 x5_1 (ji25)).f1)) := hcc29 1 _ rfl
                            have hx29_2 : w32.cell? ⟨go29, ((ji25) : Int).toNat * 10 + 2, none⟩ = some (.bool ((rd_T34 x5_1 (ji25)).f2)) := hcc29 2 _ rfl
                            have hx29_3 : w32.cell? ⟨go29, ((ji25) : Int).toNat * 10 + 3, none⟩ = some (.bool ((rd_T34 x5_1 (ji25)).f3)) := hcc29 3 _ rfl
                            have hx29_4 : w32.cell? ⟨go29, ((ji25) : Int).toNat * 10 + 4, none⟩ = some (.bool ((rd_T34 x5_1 (ji25)).f4)) := hcc29 4 _ rfl
                            have hx29_5 : w32.cell? ⟨go29, ((ji25) : Int).toNat * 10 + 5, none⟩ = some (.bool ((rd_T34 x5_1 (ji25)).f5)) := hcc29 5 _ rfl
                            have hx29_6 : w32.cell? ⟨go29, ((ji25) : Int).toNat * 10 + 6, none⟩ = some (.bool ((rd_T34 x5_1 (ji25)).f6)) := hcc29 6 _ rfl
                            have hx29_7 : w32.cell? ⟨go29, ((ji25) : Int).toNat * 10 + 7, none⟩ = some (.bool ((rd_T34 x5_1 (ji25)).f7)) := hcc29 7 _ rfl
                            have hx29_8 : w32.cell? ⟨go29, ((ji25) : Int).toNat * 10 + 8, none⟩ = some (.bool ((rd_T34 x5_1 (ji25)).f8)) := hcc29 8 _ rfl
                            have hx29_9 : w32.cell? ⟨go29, ((ji25) : Int).toNat * 10 + 9, none⟩ = some (.int .u8 ((rd_T34 x5_1 (ji25)).f9)) := hcc29 9 _ rfl
                            have hf29_0 : w32.frozen? ⟨go29, ((ji25) : Int).toNat * 10, none⟩ = false := hfr29 0
                            have hf29_1 : w32.frozen? ⟨go29, ((ji25) : Int).toNat * 10 + 1, none⟩ = false := hfr29 1
                            have hf29_2 : w32.frozen? ⟨go29, ((ji25) : Int).toNat * 10 + 2, none⟩ = false := hfr29 2
                            have hf29_3 : w32.frozen? ⟨go29, ((ji25) : Int).toNat * 10 + 3, none⟩ = false := hfr29 3
                            have hf29_4 : w32.frozen? ⟨go29, ((ji25) : Int).toNat * 10 + 4, none⟩ = false := hfr29 4
                            have hf29_5 : w32.frozen? ⟨go29, ((ji25) : Int).toNat * 10 + 5, none⟩ = false := hfr29 5
                            have hf29_6 : w32.frozen? ⟨go29, ((ji25) : Int).toNat * 10 + 6, none⟩ = false := hfr29 6
                            have hf29_7 : w32.frozen? ⟨go29, ((ji25) : Int).toNat * 10 + 7, none⟩ = false := hfr29 7
                            have hf29_8 : w32.frozen? ⟨go29, ((ji25) : Int).toNat * 10 + 8, none⟩ = false := hfr29 8
                            have hf29_9 : w32.frozen? ⟨go29, ((ji25) : Int).toNat * 10 + 9, none⟩ = false := hfr29 9
                            clear hcl29 hcc29 hfr29 hM29
                            replace p29 := eq_true p29
                            replace q29 := eq_true q29
                            have HX33 := Aside0.mk (show Kd.R k34 34 w32 w.heap.size (fun k_ => k_ ≠ gb251) (.slice (some ⟨go29, 0, none⟩) x5_1.length co11) x5_1 from (by (with_reducible repeat (first | apply Kd.R_alloc | apply Kd.R_drewN | apply Kd.R_drew)); exact HO_5.out))
                            obtain ⟨ce33, hcl33, hM33, hcc33, hfr33⟩ := Kd.R_elem HX33.out z34 ((ji25) : Int) (of_decide_eq_true (by first | (with_reducible assumption) | assumption)) (by have h_ : ((ji25) : Int) < ((x5_1.length : Int) : Int) := of_decide_eq_true (by first | (with_reducible assumption) | assumption); first | exact h_ | (have e_ := (Kd.R_reads' HO_5.out).1; omega) | simpa using h_)
                            obtain rfl := k34_openM hM33
                            have HP33 := Kd.R_seg HX33.out ((ji25) : Int) (of_decide_eq_true (by first | (with_reducible assumption) | assumption)) (by have h_ : ((ji25) : Int) < ((x5_1.length : Int) : Int) := of_decide_eq_true (by first | (with_reducible assumption) | assumption); first | exact h_ | (have e_ := (Kd.R_reads' HO_5.out).1; omega) | simpa using h_) (seg := [.int .i64 (wrap64 (((rd_T34 x5_1 (ji25)).f0) + (ji28)))]) (j := 0) hcl33 hcc33 (show 1 ≤ 10 from by decide) (x' := (⟨wrap64 (((rd_T34 x5_1 (ji25)).f0) + (ji28)), (rd_T34 x5_1 (ji25)).f1, (rd_T34 x5_1 (ji25)).f2, (rd_T34 x5_1 (ji25)).f3, (rd_T34 x5_1 (ji25)).f4, (rd_T34 x5_1 (ji25)).f5, (rd_T34 x5_1 (ji25)).f6, (rd_T34 x5_1 (ji25)).f7, (rd_T34 x5_1 (ji25)).f8, (rd_T34 x5_1 (ji25)).f9⟩ : S34)) (k34_mkM _ _ _ (⟨wrap64 (((rd_T34 x5_1 (ji25)).f0) + (ji28)), (rd_T34 x5_1 (ji25)).f1, (rd_T34 x5_1 (ji25)).f2, (rd_T34 x5_1 (ji25)).f3, (rd_T34 x5_1 (ji25)).f4, (rd_T34 x5_1 (ji25)).f5, (rd_T34 x5_1 (ji25)).f6, (rd_T34 x5_1 (ji25)).f7, (rd_T34 x5_1 (ji25)).f8, (rd_T34 x5_1 (ji25)).f9⟩ : S34) ) (fun _ hk => hk)
                            have hx33_0 := hcc33 0 _ rfl
                            (try simp only [show (k34).sz = 10 from rfl, Nat.mul_one, Nat.add_zero] at hx33_0)
                            have hf33_0 := hfr33 0
                            (try simp only [show (k34).sz = 10 from rfl, Nat.mul_one, Nat.add_zero] at hf33_0)
                            clear hcl33 hcc33 hfr33 hM33
                            try go_wp2_with (first | ((with_reducible refine gate_store (t := 3) (p := 55) rfl ?_); refine store_event (t := 3) (p := 55) (v := ?vo_w34) (w1 := (w32.setCell ⟨go29, ((ji25) : Int).toNat * 10, none⟩ (.int .i64 (wrap64 (((rd_T34 x5_1 (ji25)).f0) + (ji28)))))) ?hg ?ho ?hn ?hr ?_; (case ho => rfl); (case hg => rfl); (case hn => rfl); (case hr => first | (go_simp; done) | (go_simp; rfl)); intro w34 hw; have hg : w32.grownBy w34 (some go29) := (by rw [hw]; exact HP33.2); have hp_ : Kd.R k34 34 w34 w.heap.size (fun k_ => k_ ≠ gb251) (.slice (some ⟨go29, 0, none⟩) x5_1.length co11) y275 := (by rw [hw, Ny275.out]; exact HP33.1); clear HP33; have n0_ := Aside0.mk (hp_); have n1_ := Aside0.mk (blk_grown (g := gb251) (o := .cells #[.int .i64 ((rd_T34 l0 x17_1).f0), .int .u16 ((rd_T34 l0 x17_1).f1), .bool ((rd_T34 l0 x17_1).f2), .bool ((rd_T34 l0 x17_1).f3), .bool ((rd_T34 l0 x17_1).f4), .bool ((rd_T34 l0 x17_1).f5), .bool ((rd_T34 l0 x17_1).f6), .bool ((rd_T34 l0 x17_1).f7), .bool ((rd_T34 l0 x17_1).f8), .int .u8 ((rd_T34 l0 x17_1).f9)] 34 (0, 0)) (by (with_reducible repeat (first | refine blk_drewN ?_ _ | refine blk_drew ?_ | refine blk_alloc ?_ _)); exact BK251.out) hg (Kd.R_away HO_5.out (fun _ hk => hk))); have n2_ := Aside0.mk ((by rw [hw]; exact below_set (HB.out) GB29.out : Below w.heap.size w w34)); clear HO_5; clear BK251; clear HB; have HO_5 := n0_; have BK251 := n1_; have HB := n2_; clear n0_ n1_ n2_; clear hg hw hp_; have hcz35_0 : w34.cell? ⟨gb251, 0, none⟩ = some (.int .i64 ((rd_T34 l0 x17_1).f0)) := (blk_cell BK251.out 0).trans rfl; have hcz35_1 : w34.cell? ⟨gb251, 1, none⟩ = some (.int .u16 ((rd_T34 l0 x17_1).f1)) := (blk_cell BK251.out 1).trans rfl; have hcz35_2 : w34.cell? ⟨gb251, 2, none⟩ = some (.bool ((rd_T34 l0 x17_1).f2)) := (blk_cell BK251.out 2).trans rfl; have hcz35_3 : w34.cell? ⟨gb251, 3, none⟩ = some (.bool ((rd_T34 l0 x17_1).f3)) := (blk_cell BK251.out 3).trans rfl; have hcz35_4 : w34.cell? ⟨gb251, 4, none⟩ = some (.bool ((rd_T34 l0 x17_1).f4)) := (blk_cell BK251.out 4).trans rfl; have hcz35_5 : w34.cell? ⟨gb251, 5, none⟩ = some (.bool ((rd_T34 l0 x17_1).f5)) := (blk_cell BK251.out 5).trans rfl; have hcz35_6 : w34.cell? ⟨gb251, 6, none⟩ = some (.bool ((rd_T34 l0 x17_1).f6)) := (blk_cell BK251.out 6).trans rfl; have hcz35_7 : w34.cell? ⟨gb251, 7, none⟩ = some (.bool ((rd_T34 l0 x17_1).f7)) := (blk_cell BK251.out 7).trans rfl; have hcz35_8 : w34.cell? ⟨gb251, 8, none⟩ = some (.bool ((rd_T34 l0 x17_1).f8)) := (blk_cell BK251.out 8).trans rfl; have hcz35_9 : w34.cell? ⟨gb251, 9, none⟩ = some (.int .u8 ((rd_T34 l0 x17_1).f9)) := (blk_cell BK251.out 9).trans rfl; have hfz35_0 := blk_frozen BK251.out 0; have hfz35_1 := blk_frozen BK251.out 1; have hfz35_2 := blk_frozen BK251.out 2; have hfz35_3 := blk_frozen BK251.out 3; have hfz35_4 := blk_frozen BK251.out 4; have hfz35_5 := blk_frozen BK251.out 5; have hfz35_6 := blk_frozen BK251.out 6; have hfz35_7 := blk_frozen BK251.out 7; have hfz35_8 := blk_frozen BK251.out 8; have hfz35_9 := blk_frozen BK251.out 9) | ((with_reducible refine gate_builtin (b := .append) (xs := #[.tmp 64, .tmp 66]) rfl ?_); at_builtin; refine Kd.R_append k34 (w0 := w) w.heap.size rfl (.tmp 64) (.tmp 66) 23 34 (.agg #[(.int .i64 0), (.int .u16 0), (.bool false), (.bool false), (.bool false), (.bool false), (.bool false), (.bool false), (.bool false), (.int .u8 0)]) 24 rfl Tryd.underlying23 info34 rfl (by decide) (by omega) (.slice (some ⟨go29, 0, none⟩) x5_1.length co11) y275 (⟨wrap64 (((rd_T34 l0 x17_1).f0) - (ji28)), ((rd_T34 l0 x17_1).f1), ((rd_T34 l0 x17_1).f2), ((rd_T34 l0 x17_1).f3), ((rd_T34 l0 x17_1).f4), ((rd_T34 l0 x17_1).f5), ((rd_T34 l0 x17_1).f6), ((rd_T34 l0 x17_1).f7), ((rd_T34 l0 x17_1).f8), ((rd_T34 l0 x17_1).f9)⟩ : S34) [.int .i64 (wrap64 (((rd_T34 l0 x17_1).f0) - (ji28))), .int .u16 ((rd_T34 l0 x17_1).f1), .bool ((rd_T34 l0 x17_1).f2), .bool ((rd_T34 l0 x17_1).f3), .bool ((rd_T34 l0 x17_1).f4), .bool ((rd_T34 l0 x17_1).f5), .bool ((rd_T34 l0 x17_1).f6), .bool ((rd_T34 l0 x17_1).f7), .bool ((rd_T34 l0 x17_1).f8), .int .u8 ((rd_T34 l0 x17_1).f9)] (fun k_ => k_ ≠ gb251) (fun _ => False) rfl (by first | (go_simp; done) | (go_simp; rfl)) ?aP (fun _ hk => hk.elim) ?aF ?aO ?aB ?aS ?aL ?_; (case aP => exact k34_mkM _ _ _ (⟨wrap64 (((rd_T34 l0 x17_1).f0) - (ji28)), ((rd_T34 l0 x17_1).f1), ((rd_T34 l0 x17_1).f2), ((rd_T34 l0 x17_1).f3), ((rd_T34 l0 x17_1).f4), ((rd_T34 l0 x17_1).f5), ((rd_T34 l0 x17_1).f6), ((rd_T34 l0 x17_1).f7), ((rd_T34 l0 x17_1).f8), ((rd_T34 l0 x17_1).f9)⟩ : S34)); (case aB => exact (by repeat (first | (with_reducible first | exact HB.out | apply below_alloc | apply pw_below_drewN | apply below_drew1 | refine below_set ?_ GE251.out) | exact HB.out))); (case aF => exact (fun k_ hk => Kd.freshB (g := gb251) (o := .cells #[.int .i64 (wrap64 (((rd_T34 l0 x17_1).f0) - (ji28))), .int .u16 ((rd_T34 l0 x17_1).f1), .bool ((rd_T34 l0 x17_1).f2), .bool ((rd_T34 l0 x17_1).f3), .bool ((rd_T34 l0 x17_1).f4), .bool ((rd_T34 l0 x17_1).f5), .bool ((rd_T34 l0 x17_1).f6), .bool ((rd_T34 l0 x17_1).f7), .bool ((rd_T34 l0 x17_1).f8), .int .u8 ((rd_T34 l0 x17_1).f9)] 34 (0, 0)) (by (with_reducible repeat (first | refine blk_drewN ?_ _ | refine blk_drew ?_ | refine blk_alloc ?_ _)); refine blk_put (cs := #[.int .i64 ((rd_T34 l0 x17_1).f0), .int .u16 ((rd_T34 l0 x17_1).f1), .bool ((rd_T34 l0 x17_1).f2), .bool ((rd_T34 l0 x17_1).f3), .bool ((rd_T34 l0 x17_1).f4), .bool ((rd_T34 l0 x17_1).f5), .bool ((rd_T34 l0 x17_1).f6), .bool ((rd_T34 l0 x17_1).f7), .bool ((rd_T34 l0 x17_1).f8), .int .u8 ((rd_T34 l0 x17_1).f9)]) ?_ 0 _ rfl; (with_reducible repeat (first | refine blk_drewN ?_ _ | refine blk_drew ?_ | refine blk_alloc ?_ _)); exact BK251.out) k_ hk)); (case aO => exact (by (with_reducible repeat (first | apply Kd.R_alloc | apply Kd.R_drewN | apply Kd.R_drew)); exact Kd.R_mono (Kd.R_far (p := ⟨gb251, 0, none⟩) (Kd.R_mono HO_5.out (fun k_ hk => (⟨hk, hk⟩ : _ ∧ k_ ≠ gb251))) (fun _ hk => hk.2) (.int .i64 (wrap64 (((rd_T34 l0 x17_1).f0) - (ji28))))) (fun _ hk => hk.1))); (case aS => exact (below_size (by repeat (first | (with_reducible first | exact HB.out | apply below_alloc | apply pw_below_drewN | apply below_drew1 | refine below_set ?_ GE251.out) | exact HB.out)))); (case aL => have := LMc31.out; omega); intro v277 w36 ho hb hg hat; rw [← Ny276.out] at ho; have n0_ := Aside0.mk (blk_grown (g := gb251) (o := .cells #[.int .i64 (wrap64 (((rd_T34 l0 x17_1).f0) - (ji28))), .int .u16 ((rd_T34 l0 x17_1).f1), .bool ((rd_T34 l0 x17_1).f2), .bool ((rd_T34 l0 x17_1).f3), .bool ((rd_T34 l0 x17_1).f4), .bool ((rd_T34 l0 x17_1).f5), .bool ((rd_T34 l0 x17_1).f6), .bool ((rd_T34 l0 x17_1).f7), .bool ((rd_T34 l0 x17_1).f8), .int .u8 ((rd_T34 l0 x17_1).f9)] 34 (0, 0)) (by (with_reducible repeat (first | refine blk_drewN ?_ _ | refine blk_drew ?_ | refine blk_alloc ?_ _)); refine blk_put (cs := #[.int .i64 ((rd_T34 l0 x17_1).f0), .int .u16 ((rd_T34 l0 x17_1).f1), .bool ((rd_T34 l0 x17_1).f2), .bool ((rd_T34 l0 x17_1).f3), .bool ((rd_T34 l0 x17_1).f4), .bool ((rd_T34 l0 x17_1).f5), .bool ((rd_T34 l0 x17_1).f6), .bool ((rd_T34 l0 x17_1).f7), .bool ((rd_T34 l0 x17_1).f8), .int .u8 ((rd_T34 l0 x17_1).f9)]) ?_ 0 _ rfl; (with_reducible repeat (first | refine blk_drewN ?_ _ | refine blk_drew ?_ | refine blk_alloc ?_ _)); exact BK251.out) hg (Kd.R_away HO_5.out (fun _ hk => hk))); have n1_ := Aside0.mk (hb); have n2_ := Aside0.mk (ho); clear BK251; clear HB; clear HO_5; have BK251 := n0_; have HB := n1_; have HO278 := n2_; clear n0_ n1_ n2_; clear ho hb hg hat))
                            go_roundg kj7
                            case measure => have := HK1.out; have := HJ7.out; omega
                            case rel => exact ⟨(y276), (wrap64 (x17_1 + 1)), (by first | rfl | (simp; done) | (simp [*]; done)), H', ⟨by have := HK1.out; have := HJ7.out; omega⟩, ⟨by (with_reducible repeat (first | apply Kd.R_alloc | apply Kd.R_drewN | apply Kd.R_drew)); exact Kd.R_mono HO278.out (fun _ hk => trivial)⟩, ⟨by repeat (first | (with_reducible first | exact HB.out | apply below_alloc | apply pw_below_drewN | apply below_drew1 | refine below_set ?_ GE251.out) | exact HB.out)⟩⟩
                          · rw [if_neg c31] at H
                            exact absurd H (by simp)
                        · rw [if_neg c30] at H
                          have c30b0 : decide (0 < (wrap64 (((rd_T34 l0 x17_1).f0) - (ji28)))) = false := decide_eq_false c30
                          clear c30
                          have H' := Aside0.mk H
                          clear H
                          try go_wp2
                          have n0_ := Aside0.mk (Kd.R_drew HO_5.out)
                          have n1_ := Aside0.mk (blk_drew BK251.out)
                          have n2_ := Aside0.mk (below_drew1 HB.out)
                          clear HO_5
                          clear BK251
                          clear HB
                          have HO_5 := n0_
                          have BK251 := n1_
                          have HB := n2_
                          clear n0_ n1_ n2_
                          have p273 : 0 ≤ ((ji25) : Int) := of_decide_eq_true (by first | (with_reducible assumption) | assumption)
                          have q273 : (ji25) < (x5_1.length : Int) := of_decide_eq_true (by first | (with_reducible assumption) | assumption)
                          obtain ⟨ad273, e273, hx273_0, hx273_1, hx273_2, hx273_3, hx273_4, hx273_5, hx273_6, hx273_7, hx273_8, hx273_9⟩ := at_T34 (Kd.R_reads' HO_5.out).2.2 (ji25) p273 q273
                          cases e273
                          replace p273 := eq_true p273
                          replace q273 := eq_true q273
                          refine start_ (n := 11) (S := fun w' => w'.cell? ⟨gb251, 0, none⟩ = some (.int .i64 ((rd_T34 l0 x17_1).f0)) ∧ w'.cell? ⟨gb251, 1, none⟩ = some (.int .u16 ((rd_T34 l0 x17_1).f1)) ∧ w'.cell? ⟨gb251, 2, none⟩ = some (.bool ((rd_T34 l0 x17_1).f2)) ∧ w'.cell? ⟨gb251, 3, none⟩ = some (.bool ((rd_T34 l0 x17_1).f3)) ∧ w'.cell? ⟨gb251, 4, none⟩ = some (.bool ((rd_T34 l0 x17_1).f4)) ∧ w'.cell? ⟨gb251, 5, none⟩ = some (.bool ((rd_T34 l0 x17_1).f5)) ∧ w'.cell? ⟨gb251, 6, none⟩ = some (.bool ((rd_T34 l0 x17_1).f6)) ∧ w'.cell? ⟨gb251, 7, none⟩ = some (.bool ((rd_T34 l0 x17_1).f7)) ∧ w'.cell? ⟨gb251, 8, none⟩ = some (.bool ((rd_T34 l0 x17_1).f8)) ∧ w'.cell? ⟨gb251, 9, none⟩ = some (.int .u8 ((rd_T34 l0 x17_1).f9)) ∧ w'.cell? (ad273.add (((ji25)).toNat * 10)) = some (.int .i64 ((rd_T34 x5_1 (ji25)).f0)) ∧ w'.cell? ⟨(ad273.add (((ji25)).toNat * 10)).block, (ad273.add (((ji25)).toNat * 10)).off + 1, none⟩ = some (.int .u16 ((rd_T34 x5_1 (ji25)).f1)) ∧ w'.cell? ⟨(ad273.add (((ji25)).toNat * 10)).block, (ad273.add (((ji25)).toNat * 10)).off + 2, none⟩ = some (.bool ((rd_T34 x5_1 (ji25)).f2)) ∧ w'.cell? ⟨(ad273.add (((ji25)).toNat * 10)).block, (ad273.add (((ji25)).toNat * 10)).off + 3, none⟩ = some (.bool ((rd_T34 x5_1 (ji25)).f3)) ∧ w'.cell? ⟨(ad273.add (((ji25)).toNat * 10)).block, (ad273.add (((ji25)).toNat * 10)).off + 4, none⟩ = some (.bool ((rd_T34 x5_1 (ji25)).f4)) ∧ w'.cell? ⟨(ad273.add (((ji25)).toNat * 10)).block, (ad273.add (((ji25)).toNat * 10)).off + 5, none⟩ = some (.bool ((rd_T34 x5_1 (ji25)).f5)) ∧ w'.cell? ⟨(ad273.add (((ji25)).toNat * 10)).block, (ad273.add (((ji25)).toNat * 10)).off + 6, none⟩ = some (.bool ((rd_T34 x5_1 (ji25)).f6)) ∧ w'.cell? ⟨(ad273.add (((ji25)).toNat * 10)).block, (ad273.add (((ji25)).toNat * 10)).off + 7, none⟩ = some (.bool ((rd_T34 x5_1 (ji25)).f7)) ∧ w'.cell? ⟨(ad273.add (((ji25)).toNat * 10)).block, (ad273.add (((ji25)).toNat * 10)).off + 8, none⟩ = some (.bool ((rd_T34 x5_1 (ji25)).f8)) ∧ w'.cell? ⟨(ad273.add (((ji25)).toNat * 10)).block, (ad273.add (((ji25)).toNat * 10)).off + 9, none⟩ = some (.int .u8 ((rd_T34 x5_1 (ji25)).f9))) (ds := []) #[false, false, false, false, false, false, false, false, false, false, false] (by kernel_rfl) rfl rfl ⟨(blk_cell BK251.out 0).trans rfl, (blk_cell BK251.out 1).trans rfl, (blk_cell BK251.out 2).trans rfl, (blk_cell BK251.out 3).trans rfl, (blk_cell BK251.out 4).trans rfl, (blk_cell BK251.out 5).trans rfl, (blk_cell BK251.out 6).trans rfl, (blk_cell BK251.out 7).trans rfl, (blk_cell BK251.out 8).trans rfl, (blk_cell BK251.out 9).trans rfl, hx273_0, hx273_1, hx273_2, hx273_3, hx273_4, hx273_5, hx273_6, hx273_7, hx273_8, hx273_9⟩ (fun hHeld => ?_); refine with_tabW script_Normal.tab10 script_Normal.bits10 (fun HT_ HW_ => ?_)
                          generalize wc.drew = w37 at HO_5 BK251 HB hx273_0 hx273_1 hx273_2 hx273_3 hx273_4 hx273_5 hx273_6 hx273_7 hx273_8 hx273_9 hHeld ⊢
                          refine pure_ (i := 0) (N := some 36) (v := ?_) (a' := ?_) #[true, false, false, false, false, false, false, false, false, false, false] rfl rfl (any_of HT_.out (by kernel_rfl)) (fun _ _ _ h => h) (Or.inl ⟨by rfl, ?_⟩) ?_ ?_
                          rotate_left
                          · intro w'
                            go_simp
                            with_reducible rfl
                          rotate_left
                          · simp only [Act.put, List.setIfInBounds_toArray, List.set_cons_zero, List.set_cons_succ, i64_w, i32_w]
                            rfl
                          refine pure_ (i := 2) (N := some 38) (v := ?_) (a' := ?_) #[true, false, true, false, false, false, false, false, false, false, false] rfl rfl (any_of HT_.out (by kernel_rfl)) (fun _ _ _ h => h) (Or.inl ⟨by rfl, ?_⟩) ?_ ?_
                          rotate_left
                          · intro w'
                            go_simp
                            with_reducible rfl
                          rotate_left
                          · simp only [Act.put, List.setIfInBounds_toArray, List.set_cons_zero, List.set_cons_succ, i64_w, i32_w]
                            rfl
                          refine pure_ (i := 3) (N := some 39) (v := ?_) (a' := ?_) #[true, false, true, true, false, false, false, false, false, false, false] rfl rfl (any_of HT_.out (by kernel_rfl)) (fun _ _ _ h => h) (Or.inl ⟨by rfl, ?_⟩) ?_ ?_
                          rotate_left
                          · intro w'
                            go_simp
                            with_reducible rfl
                          rotate_left
                          · simp only [Act.put, List.setIfInBounds_toArray, List.set_cons_zero, List.set_cons_succ, i64_w, i32_w]
                            rfl
                          refine pure_ (i := 4) (N := some 40) (v := ?_) (a' := ?_) #[true, false, true, true, true, false, false, false, false, false, false] rfl rfl (any_of HT_.out (by kernel_rfl)) (fun _ _ _ h => h) (Or.inl ⟨by rfl, ?_⟩) ?_ ?_
                          rotate_left
                          · intro w'
                            go_simp
                            with_reducible rfl
                          rotate_left
                          · simp only [Act.put, List.setIfInBounds_toArray, List.set_cons_zero, List.set_cons_succ, i64_w, i32_w]
                            rfl
                          refine pure_ (i := 5) (N := some 41) (v := ?_) (a' := ?_) #[true, false, true, true, true, true, false, false, false, false, false] rfl rfl (any_of HT_.out (by kernel_rfl)) (fun _ _ _ h => h) (Or.inl ⟨by rfl, ?_⟩) ?_ ?_
                          rotate_left
                          · intro w'
                            go_simp
                            with_reducible rfl
                          rotate_left
                          · simp only [Act.put, List.setIfInBounds_toArray, List.set_cons_zero, List.set_cons_succ, i64_w, i32_w]
                            rfl
                          refine pure_ (i := 6) (N := some 42) (v := ?_) (a' := ?_) #[true, false, true, true, true, true, true, false, false, false, false] rfl rfl (any_of HT_.out (by kernel_rfl)) (fun _ _ _ h => h) (Or.inl ⟨by rfl, ?_⟩) ?_ ?_
                          rotate_left
                          · intro w'
                            go_simp
                            with_reducible rfl
                          rotate_left
                          · simp only [Act.put, List.setIfInBounds_toArray, List.set_cons_zero, List.set_cons_succ, i64_w, i32_w]
                            rfl
                          refine take_ (i := 1) (N := some 37) (v := ?_) (a' := ?_) #[true, true, true, true, true, true, true, false, false, false, false] rfl rfl (take_ofW HT_.out HW_.out (by kernel_rfl)) (fun _ _ _ h => h) (Or.inl ⟨by rfl, ?_⟩) hHeld ?_ ?_
                          rotate_left
                          · rintro w' ⟨s0, s1, s2, s3, s4, s5, s6, s7, s8, s9, s10, s11, s12, s13, s14, s15, s16, s17, s18, s19⟩
                            go_simp
                            with_reducible rfl
                          rotate_left
                          · simp only [Act.put, List.setIfInBounds_toArray, List.set_cons_zero, List.set_cons_succ, i64_w, i32_w]
                            rfl
                          refine take_ (i := 7) (N := some 43) (v := ?_) (a' := ?_) #[true, true, true, true, true, true, true, true, false, false, false] rfl rfl (take_ofW HT_.out HW_.out (by kernel_rfl)) (fun _ _ _ h => h) (Or.inl ⟨by rfl, ?_⟩) hHeld ?_ ?_
                          rotate_left
                          · rintro w' ⟨s0, s1, s2, s3, s4, s5, s6, s7, s8, s9, s10, s11, s12, s13, s14, s15, s16, s17, s18, s19⟩
                            go_simp
                            with_reducible rfl
                          rotate_left
                          · simp only [Act.put, List.setIfInBounds_toArray, List.set_cons_zero, List.set_cons_succ, i64_w, i32_w]
                            rfl
                          refine pure_ (i := 8) (N := some 44) (v := ?_) (a' := ?_) #[true, true, true, true, true, true, true, true, true, false, false] rfl rfl (any_of HT_.out (by kernel_rfl)) (fun _ _ _ h => h) (Or.inl ⟨by rfl, ?_⟩) ?_ ?_
                          rotate_left
                          · intro w'
                            go_simp
                            with_reducible rfl
                          rotate_left
                          · simp only [Act.put, List.setIfInBounds_toArray, List.set_cons_zero, List.set_cons_succ, i64_w, i32_w]
                            rfl
                          refine pure_ (i := 9) (N := some 45) (v := ?_) (a' := ?_) #[true, true, true, true, true, true, true, true, true, true, false] rfl rfl (any_of HT_.out (by kernel_rfl)) (fun _ _ _ h => h) (Or.inl ⟨by rfl, ?_⟩) ?_ ?_
                          rotate_left
                          · intro w'
                            go_simp
                            with_reducible rfl
                          rotate_left
                          · simp only [Act.put, List.setIfInBounds_toArray, List.set_cons_zero, List.set_cons_succ, i64_w, i32_w]
                            rfl
                          refine pure_ (i := 10) (N := some 9) (v := ?_) (a' := ?_) #[true, true, true, true, true, true, true, true, true, true, true] rfl rfl (any_of HT_.out (by kernel_rfl)) (fun _ _ _ h => h) (Or.inl ⟨by rfl, ?_⟩) ?_ ?_
                          rotate_left
                          · intro w'
                            go_simp
                            with_reducible rfl
                          rotate_left
                          · simp only [Act.put, List.setIfInBounds_toArray, List.set_cons_zero, List.set_cons_succ, i64_w, i32_w]
                            rfl
                          refine done_ (done_of HT_.out (by kernel_rfl)) ?_
                          have p274 : 0 ≤ ((ji25) : Int) := of_decide_eq_true (by first | (with_reducible assumption) | assumption)
                          have q274 : (ji25) < (x5_1.length : Int) := of_decide_eq_true (by first | (with_reducible assumption) | assumption)
                          obtain ⟨ad274, e274, hx274_0, hx274_1, hx274_2, hx274_3, hx274_4, hx274_5, hx274_6, hx274_7, hx274_8, hx274_9⟩ := at_T34 (Kd.R_reads' HO_5.out).2.2 (ji25) p274 q274
                          obtain rfl : ad273 = ad274 := (by injection e274)
                          replace p274 := eq_true p274
                          replace q274 := eq_true q274
                          have p29 : 0 ≤ ((ji25) : Int) := of_decide_eq_true (by first | (with_reducible assumption) | assumption)
                          have q29 : ((ji25) : Int) < ((x5_1.length : Int) : Int) := of_decide_eq_true (by first | (with_reducible assumption) | assumption)
                          obtain ⟨go29, co29, eo29, gb29, gl29, cl29, HG29⟩ := Kd.R_form HO_5.out (by omega)
                          (first | cases eo29 | (injection eo29 with ea_ en_ ec_; (first | subst ea_ | (injection ea_ with ea_; subst ea_)); subst ec_; clear en_))
                          have GB29 := Aside0.mk gb29
                          have GG29 := Aside0.mk HG29
                          clear gb29 gl29 HG29
                          (first | simp only [add_plain] at hx273_0 | skip)
                          (first | simp only [add_plain] at hx273_1 | skip)
                          (first | simp only [add_plain] at hx273_2 | skip)
                          (first | simp only [add_plain] at hx273_3 | skip)
                          (first | simp only [add_plain] at hx273_4 | skip)
                          (first | simp only [add_plain] at hx273_5 | skip)
                          (first | simp only [add_plain] at hx273_6 | skip)
                          (first | simp only [add_plain] at hx273_7 | skip)
                          (first | simp only [add_plain] at hx273_8 | skip)
                          (first | simp only [add_plain] at hx273_9 | skip)
                          (first | simp only [add_plain] at hx274_0 | skip)
                          (first | simp only [add_plain] at hx274_1 | skip)
                          (first | simp only [add_plain] at hx274_2 | skip)
                          (first | simp only [add_plain] at hx274_3 | skip)
                          (first | simp only [add_plain] at hx274_4 | skip)
                          (first | simp only [add_plain] at hx274_5 | skip)
                          (first | simp only [add_plain] at hx274_6 | skip)
                          (first | simp only [add_plain] at hx274_7 | skip)
                          (first | simp only [add_plain] at hx274_8 | skip)
                          (first | simp only [add_plain] at hx274_9 | skip)
                          obtain ⟨ce29, hcl29, hM29, hcc29, hfr29⟩ := Kd.R_elem HO_5.out z34 ((ji25) : Int) p29 q29
                          obtain rfl := k34_openM hM29
                          have hx29_0 : w37.cell? ⟨go29, ((ji25) : Int).toNat * 10, none⟩ = some (.int .i64 ((rd_T34 x5_1 (ji25)).f0)) := hcc29 0 _ rfl
                          have hx29_1 : w37.cell? ⟨go29, ((ji25) : Int).toNat * 10 + 1, none⟩ = some (.int .u16 ((rd_T34 x5_1 (ji25)).f1)) := hcc29 1 _ rfl
                          have hx29_2 : w37.cell? ⟨go29, ((ji25) : Int).toNat * 10 + 2, none⟩ = some (.bool ((rd_T34 x5_1 (ji25)).f2)) := hcc29 2 _ rfl
                          have hx29_3 : w37.cell? ⟨go29, ((ji25) : Int).toNat * 10 + 3, none⟩ = some (.bool ((rd_T34 x5_1 (ji25)).f3)) := hcc29 3 _ rfl
                          have hx29_4 : w37.cell? ⟨go29, ((ji25) : Int).toNat * 10 + 4, none⟩ = some (.bool ((rd_T34 x5_1 (ji25)).f4)) := hcc29 4 _ rfl
                          have hx29_5 : w37.cell? ⟨go29, ((ji25) : Int).toNat * 10 + 5, none⟩ = some (.bool ((rd_T34 x5_1 (ji25)).f5)) := hcc29 5 _ rfl
                          have hx29_6 : w37.cell? ⟨go29, ((ji25) : Int).toNat * 10 + 6, none⟩ = some (.bool ((rd_T34 x5_1 (ji25)).f6)) := hcc29 6 _ rfl
                          have hx29_7 : w37.cell? ⟨go29, ((ji25) : Int).toNat * 10 + 7, none⟩ = some (.bool ((rd_T34 x5_1 (ji25)).f7)) := hcc29 7 _ rfl
                          have hx29_8 : w37.cell? ⟨go29, ((ji25) : Int).toNat * 10 + 8, none⟩ = some (.bool ((rd_T34 x5_1 (ji25)).f8)) := hcc29 8 _ rfl
                          have hx29_9 : w37.cell? ⟨go29, ((ji25) : Int).toNat * 10 + 9, none⟩ = some (.int .u8 ((rd_T34 x5_1 (ji25)).f9)) := hcc29 9 _ rfl
                          have hf29_0 : w37.frozen? ⟨go29, ((ji25) : Int).toNat * 10, none⟩ = false := hfr29 0
                          have hf29_1 : w37.frozen? ⟨go29, ((ji25) : Int).toNat * 10 + 1, none⟩ = false := hfr29 1
                          have hf29_2 : w37.frozen? ⟨go29, ((ji25) : Int).toNat * 10 + 2, none⟩ = false := hfr29 2
                          have hf29_3 : w37.frozen? ⟨go29, ((ji25) : Int).toNat * 10 + 3, none⟩ = false := hfr29 3
                          have hf29_4 : w37.frozen? ⟨go29, ((ji25) : Int).toNat * 10 + 4, none⟩ = false := hfr29 4
                          have hf29_5 : w37.frozen? ⟨go29, ((ji25) : Int).toNat * 10 + 5, none⟩ = false := hfr29 5
                          have hf29_6 : w37.frozen? ⟨go29, ((ji25) : Int).toNat * 10 + 6, none⟩ = false := hfr29 6
                          have hf29_7 : w37.frozen? ⟨go29, ((ji25) : Int).toNat * 10 + 7, none⟩ = false := hfr29 7
                          have hf29_8 : w37.frozen? ⟨go29, ((ji25) : Int).toNat * 10 + 8, none⟩ = false := hfr29 8
                          have hf29_9 : w37.frozen? ⟨go29, ((ji25) : Int).toNat * 10 + 9, none⟩ = false := hfr29 9
                          clear hcl29 hcc29 hfr29 hM29
                          replace p29 := eq_true p29
                          replace q29 := eq_true q29
                          have HX38 := Aside0.mk (show Kd.R k34 34 w37 w.heap.size (fun k_ => k_ ≠ gb251) (.slice (some ⟨go29, 0, none⟩) x5_1.length co11) x5_1 from (by (with_reducible repeat (first | apply Kd.R_alloc | apply Kd.R_drewN | apply Kd.R_drew)); exact HO_5.out))
                          obtain ⟨ce38, hcl38, hM38, hcc38, hfr38⟩ := Kd.R_elem HX38.out z34 ((ji25) : Int) (of_decide_eq_true (by first | (with_reducible assumption) | assumption)) (by have h_ : ((ji25) : Int) < ((x5_1.length : Int) : Int) := of_decide_eq_true (by first | (with_reducible assumption) | assumption); first | exact h_ | (have e_ := (Kd.R_reads' HO_5.out).1; omega) | simpa using h_)
                          obtain rfl := k34_openM hM38
                          have HP38 := Kd.R_seg HX38.out ((ji25) : Int) (of_decide_eq_true (by first | (with_reducible assumption) | assumption)) (by have h_ : ((ji25) : Int) < ((x5_1.length : Int) : Int) := of_decide_eq_true (by first | (with_reducible assumption) | assumption); first | exact h_ | (have e_ := (Kd.R_reads' HO_5.out).1; omega) | simpa using h_) (seg := [.int .i64 (wrap64 (((rd_T34 x5_1 (ji25)).f0) + (ji28)))]) (j := 0) hcl38 hcc38 (show 1 ≤ 10 from by decide) (x' := (⟨wrap64 (((rd_T34 x5_1 (ji25)).f0) + (ji28)), (rd_T34 x5_1 (ji25)).f1, (rd_T34 x5_1 (ji25)).f2, (rd_T34 x5_1 (ji25)).f3, (rd_T34 x5_1 (ji25)).f4, (rd_T34 x5_1 (ji25)).f5, (rd_T34 x5_1 (ji25)).f6, (rd_T34 x5_1 (ji25)).f7, (rd_T34 x5_1 (ji25)).f8, (rd_T34 x5_1 (ji25)).f9⟩ : S34)) (k34_mkM _ _ _ (⟨wrap64 (((rd_T34 x5_1 (ji25)).f0) + (ji28)), (rd_T34 x5_1 (ji25)).f1, (rd_T34 x5_1 (ji25)).f2, (rd_T34 x5_1 (ji25)).f3, (rd_T34 x5_1 (ji25)).f4, (rd_T34 x5_1 (ji25)).f5, (rd_T34 x5_1 (ji25)).f6, (rd_T34 x5_1 (ji25)).f7, (rd_T34 x5_1 (ji25)).f8, (rd_T34 x5_1 (ji25)).f9⟩ : S34) ) (fun _ hk => hk)
                          have hx38_0 := hcc38 0 _ rfl
                          (try simp only [show (k34).sz = 10 from rfl, Nat.mul_one, Nat.add_zero] at hx38_0)
                          have hf38_0 := hfr38 0
                          (try simp only [show (k34).sz = 10 from rfl, Nat.mul_one, Nat.add_zero] at hf38_0)
                          clear hcl38 hcc38 hfr38 hM38
                          try go_wp2_with (first | ((with_reducible refine gate_store (t := 3) (p := 55) rfl ?_); refine store_event (t := 3) (p := 55) (v := ?vo_w39) (w1 := (w37.setCell ⟨go29, ((ji25) : Int).toNat * 10, none⟩ (.int .i64 (wrap64 (((rd_T34 x5_1 (ji25)).f0) + (ji28)))))) ?hg ?ho ?hn ?hr ?_; (case ho => rfl); (case hg => rfl); (case hn => rfl); (case hr => first | (go_simp; done) | (go_simp; rfl)); intro w39 hw; have hg : w37.grownBy w39 (some go29) := (by rw [hw]; exact HP38.2); have hp_ : Kd.R k34 34 w39 w.heap.size (fun k_ => k_ ≠ gb251) (.slice (some ⟨go29, 0, none⟩) x5_1.length co11) y275 := (by rw [hw, Ny275.out]; exact HP38.1); clear HP38; have n0_ := Aside0.mk (hp_); have n1_ := Aside0.mk (blk_grown (g := gb251) (o := .cells #[.int .i64 ((rd_T34 l0 x17_1).f0), .int .u16 ((rd_T34 l0 x17_1).f1), .bool ((rd_T34 l0 x17_1).f2), .bool ((rd_T34 l0 x17_1).f3), .bool ((rd_T34 l0 x17_1).f4), .bool ((rd_T34 l0 x17_1).f5), .bool ((rd_T34 l0 x17_1).f6), .bool ((rd_T34 l0 x17_1).f7), .bool ((rd_T34 l0 x17_1).f8), .int .u8 ((rd_T34 l0 x17_1).f9)] 34 (0, 0)) (by (with_reducible repeat (first | refine blk_drewN ?_ _ | refine blk_drew ?_ | refine blk_alloc ?_ _)); exact BK251.out) hg (Kd.R_away HO_5.out (fun _ hk => hk))); have n2_ := Aside0.mk ((by rw [hw]; exact below_set (HB.out) GB29.out : Below w.heap.size w w39)); clear HO_5; clear BK251; clear HB; have HO_5 := n0_; have BK251 := n1_; have HB := n2_; clear n0_ n1_ n2_; clear hg hw hp_; have hcz40_0 : w39.cell? ⟨gb251, 0, none⟩ = some (.int .i64 ((rd_T34 l0 x17_1).f0)) := (blk_cell BK251.out 0).trans rfl; have hcz40_1 : w39.cell? ⟨gb251, 1, none⟩ = some (.int .u16 ((rd_T34 l0 x17_1).f1)) := (blk_cell BK251.out 1).trans rfl; have hcz40_2 : w39.cell? ⟨gb251, 2, none⟩ = some (.bool ((rd_T34 l0 x17_1).f2)) := (blk_cell BK251.out 2).trans rfl; have hcz40_3 : w39.cell? ⟨gb251, 3, none⟩ = some (.bool ((rd_T34 l0 x17_1).f3)) := (blk_cell BK251.out 3).trans rfl; have hcz40_4 : w39.cell? ⟨gb251, 4, none⟩ = some (.bool ((rd_T34 l0 x17_1).f4)) := (blk_cell BK251.out 4).trans rfl; have hcz40_5 : w39.cell? ⟨gb251, 5, none⟩ = some (.bool ((rd_T34 l0 x17_1).f5)) := (blk_cell BK251.out 5).trans rfl; have hcz40_6 : w39.cell? ⟨gb251, 6, none⟩ = some (.bool ((rd_T34 l0 x17_1).f6)) := (blk_cell BK251.out 6).trans rfl; have hcz40_7 : w39.cell? ⟨gb251, 7, none⟩ = some (.bool ((rd_T34 l0 x17_1).f7)) := (blk_cell BK251.out 7).trans rfl; have hcz40_8 : w39.cell? ⟨gb251, 8, none⟩ = some (.bool ((rd_T34 l0 x17_1).f8)) := (blk_cell BK251.out 8).trans rfl; have hcz40_9 : w39.cell? ⟨gb251, 9, none⟩ = some (.int .u8 ((rd_T34 l0 x17_1).f9)) := (blk_cell BK251.out 9).trans rfl; have hfz40_0 := blk_frozen BK251.out 0; have hfz40_1 := blk_frozen BK251.out 1; have hfz40_2 := blk_frozen BK251.out 2; have hfz40_3 := blk_frozen BK251.out 3; have hfz40_4 := blk_frozen BK251.out 4; have hfz40_5 := blk_frozen BK251.out 5; have hfz40_6 := blk_frozen BK251.out 6; have hfz40_7 := blk_frozen BK251.out 7; have hfz40_8 := blk_frozen BK251.out 8; have hfz40_9 := blk_frozen BK251.out 9))
                          go_roundg kj7
                          case measure => have := HK1.out; have := HJ7.out; omega
                          case rel => exact ⟨(y275), (wrap64 (x17_1 + 1)), (by first | rfl | (simp; done) | (simp [*]; done)), H', ⟨by have := HK1.out; have := HJ7.out; omega⟩, ⟨by (with_reducible repeat (first | apply Kd.R_alloc | apply Kd.R_drewN | apply Kd.R_drew)); exact Kd.R_mono (Kd.R_far (p := ⟨gb251, 0, none⟩) (Kd.R_mono HO_5.out (fun k_ hk => (⟨hk, hk⟩ : _ ∧ k_ ≠ gb251))) (fun _ hk => hk.2) (.int .i64 (wrap64 (((rd_T34 l0 x17_1).f0) - (ji28))))) (fun _ hk => trivial)⟩, ⟨by repeat (first | (with_reducible first | exact HB.out | apply below_alloc | apply pw_below_drewN | apply below_drew1 | refine below_set ?_ GE251.out) | exact HB.out)⟩⟩
                      · rw [if_neg c27] at H
                        exact absurd H (by simp)
                    · rw [if_neg c26] at H
                      exact absurd H (by simp)
                  · replace c24 := Bool.eq_false_iff.mpr c24
                    subst c24
                    have H1 : (if ((rd_T34 l0 x17_1).f0) > 0 then (if x5_1.length < 5864062014805 then (script_Normal.l0 kj7 (x5_1 ++ [(⟨((rd_T34 l0 x17_1).f0), ((rd_T34 l0 x17_1).f1), ((rd_T34 l0 x17_1).f2), ((rd_T34 l0 x17_1).f3), ((rd_T34 l0 x17_1).f4), ((rd_T34 l0 x17_1).f5), ((rd_T34 l0 x17_1).f6), ((rd_T34 l0 x17_1).f7), ((rd_T34 l0 x17_1).f8), ((rd_T34 l0 x17_1).f9)⟩ : S34)]) l0 (l0.length : Int) (wrap64 (x17_1 + 1))) else (none)) else (script_Normal.l0 kj7 x5_1 l0 (l0.length : Int) (wrap64 (x17_1 + 1)))) = some (r1, r2) := by rw [if_neg (show ¬ (false = true) by decide)] at H; exact H
                    clear H
                    have H := H1
                    clear H1
                    by_cases c41 : ((rd_T34 l0 x17_1).f0) > 0
                    · rw [if_pos c41] at H
                      have c41b0 : decide (0 < ((rd_T34 l0 x17_1).f0)) = true := decide_eq_true c41
                      clear c41
                      by_cases c42 : x5_1.length < 5864062014805
                      · rw [if_pos c42] at H
                        have LMc42 := Aside0.mk c42
                        clear c42
                        obtain ⟨y279, hy279⟩ : ∃ y_ : List (S34), y_ = (x5_1 ++ [(⟨((rd_T34 l0 x17_1).f0), ((rd_T34 l0 x17_1).f1), ((rd_T34 l0 x17_1).f2), ((rd_T34 l0 x17_1).f3), ((rd_T34 l0 x17_1).f4), ((rd_T34 l0 x17_1).f5), ((rd_T34 l0 x17_1).f6), ((rd_T34 l0 x17_1).f7), ((rd_T34 l0 x17_1).f8), ((rd_T34 l0 x17_1).f9)⟩ : S34)]) := ⟨_, rfl⟩
                        replace H : (script_Normal.l0 kj7 y279 l0 (l0.length : Int) (wrap64 (x17_1 + 1))) = some (r1, r2) := by first | (rw [hy279]; with_reducible exact H) | (have H2_ := (Option.bind_some _ _).symm.trans H; rw [hy279]; with_reducible exact H2_) | (have H2_ := (Option.bind_some _ _).symm.trans H; with_reducible exact H2_) | with_reducible exact H | (rw [hy279]; exact H) | exact H
                        have Ny279 := Aside0.mk hy279
                        clear hy279
                        have H' := Aside0.mk H
                        clear H
                        have hcz43_0 : wc.cell? ⟨gb251, 0, none⟩ = some (.int .i64 ((rd_T34 l0 x17_1).f0)) := (blk_cell BK251.out 0).trans rfl
                        have hcz43_1 : wc.cell? ⟨gb251, 1, none⟩ = some (.int .u16 ((rd_T34 l0 x17_1).f1)) := (blk_cell BK251.out 1).trans rfl
                        have hcz43_2 : wc.cell? ⟨gb251, 2, none⟩ = some (.bool ((rd_T34 l0 x17_1).f2)) := (blk_cell BK251.out 2).trans rfl
                        have hcz43_3 : wc.cell? ⟨gb251, 3, none⟩ = some (.bool ((rd_T34 l0 x17_1).f3)) := (blk_cell BK251.out 3).trans rfl
                        have hcz43_4 : wc.cell? ⟨gb251, 4, none⟩ = some (.bool ((rd_T34 l0 x17_1).f4)) := (blk_cell BK251.out 4).trans rfl
                        have hcz43_5 : wc.cell? ⟨gb251, 5, none⟩ = some (.bool ((rd_T34 l0 x17_1).f5)) := (blk_cell BK251.out 5).trans rfl
                        have hcz43_6 : wc.cell? ⟨gb251, 6, none⟩ = some (.bool ((rd_T34 l0 x17_1).f6)) := (blk_cell BK251.out 6).trans rfl
                        have hcz43_7 : wc.cell? ⟨gb251, 7, none⟩ = some (.bool ((rd_T34 l0 x17_1).f7)) := (blk_cell BK251.out 7).trans rfl
                        have hcz43_8 : wc.cell? ⟨gb251, 8, none⟩ = some (.bool ((rd_T34 l0 x17_1).f8)) := (blk_cell BK251.out 8).trans rfl
                        have hcz43_9 : wc.cell? ⟨gb251, 9, none⟩ = some (.int .u8 ((rd_T34 l0 x17_1).f9)) := (blk_cell BK251.out 9).trans rfl
                        have hfz43_0 := blk_frozen BK251.out 0
                        have hfz43_1 := blk_frozen BK251.out 1
                        have hfz43_2 := blk_frozen BK251.out 2
                        have hfz43_3 := blk_frozen BK251.out 3
                        have hfz43_4 := blk_frozen BK251.out 4
                        have hfz43_5 := blk_frozen BK251.out 5
                        have hfz43_6 := blk_frozen BK251.out 6
                        have hfz43_7 := blk_frozen BK251.out 7
                        have hfz43_8 := blk_frozen BK251.out 8
                        have hfz43_9 := blk_frozen BK251.out 9
                        go_wp2_with (first | ((with_reducible refine gate_builtin (b := .append) (xs := #[.tmp 64, .tmp 66]) rfl ?_); at_builtin; refine Kd.R_append k34 (w0 := w) w.heap.size rfl (.tmp 64) (.tmp 66) 23 34 (.agg #[(.int .i64 0), (.int .u16 0), (.bool false), (.bool false), (.bool false), (.bool false), (.bool false), (.bool false), (.bool false), (.int .u8 0)]) 24 rfl Tryd.underlying23 info34 rfl (by decide) (by omega) (.slice Ao11 x5_1.length co11) x5_1 (⟨((rd_T34 l0 x17_1).f0), ((rd_T34 l0 x17_1).f1), ((rd_T34 l0 x17_1).f2), ((rd_T34 l0 x17_1).f3), ((rd_T34 l0 x17_1).f4), ((rd_T34 l0 x17_1).f5), ((rd_T34 l0 x17_1).f6), ((rd_T34 l0 x17_1).f7), ((rd_T34 l0 x17_1).f8), ((rd_T34 l0 x17_1).f9)⟩ : S34) [.int .i64 ((rd_T34 l0 x17_1).f0), .int .u16 ((rd_T34 l0 x17_1).f1), .bool ((rd_T34 l0 x17_1).f2), .bool ((rd_T34 l0 x17_1).f3), .bool ((rd_T34 l0 x17_1).f4), .bool ((rd_T34 l0 x17_1).f5), .bool ((rd_T34 l0 x17_1).f6), .bool ((rd_T34 l0 x17_1).f7), .bool ((rd_T34 l0 x17_1).f8), .int .u8 ((rd_T34 l0 x17_1).f9)] (fun k_ => k_ ≠ gb251) (fun _ => False) rfl rfl ?aP (fun _ hk => hk.elim) ?aF ?aO ?aB ?aS ?aL ?_; (case aP => exact k34_mkM _ _ _ (⟨((rd_T34 l0 x17_1).f0), ((rd_T34 l0 x17_1).f1), ((rd_T34 l0 x17_1).f2), ((rd_T34 l0 x17_1).f3), ((rd_T34 l0 x17_1).f4), ((rd_T34 l0 x17_1).f5), ((rd_T34 l0 x17_1).f6), ((rd_T34 l0 x17_1).f7), ((rd_T34 l0 x17_1).f8), ((rd_T34 l0 x17_1).f9)⟩ : S34)); (case aB => exact (by repeat (first | (with_reducible first | exact HB.out | apply below_alloc | apply pw_below_drewN | apply below_drew1 | refine below_set ?_ GE251.out) | exact HB.out))); (case aF => exact (fun k_ hk => Kd.freshB (g := gb251) (o := .cells #[.int .i64 ((rd_T34 l0 x17_1).f0), .int .u16 ((rd_T34 l0 x17_1).f1), .bool ((rd_T34 l0 x17_1).f2), .bool ((rd_T34 l0 x17_1).f3), .bool ((rd_T34 l0 x17_1).f4), .bool ((rd_T34 l0 x17_1).f5), .bool ((rd_T34 l0 x17_1).f6), .bool ((rd_T34 l0 x17_1).f7), .bool ((rd_T34 l0 x17_1).f8), .int .u8 ((rd_T34 l0 x17_1).f9)] 34 (0, 0)) (by (with_reducible repeat (first | refine blk_drewN ?_ _ | refine blk_drew ?_ | refine blk_alloc ?_ _)); exact BK251.out) k_ hk)); (case aO => exact (by (with_reducible repeat (first | apply Kd.R_alloc | apply Kd.R_drewN | apply Kd.R_drew)); exact HO_5.out)); (case aS => exact (below_size (by repeat (first | (with_reducible first | exact HB.out | apply below_alloc | apply pw_below_drewN | apply below_drew1 | refine below_set ?_ GE251.out) | exact HB.out)))); (case aL => have := LMc42.out; omega); intro v280 w44 ho hb hg hat; rw [← Ny279.out] at ho; have n0_ := Aside0.mk (blk_grown (g := gb251) (o := .cells #[.int .i64 ((rd_T34 l0 x17_1).f0), .int .u16 ((rd_T34 l0 x17_1).f1), .bool ((rd_T34 l0 x17_1).f2), .bool ((rd_T34 l0 x17_1).f3), .bool ((rd_T34 l0 x17_1).f4), .bool ((rd_T34 l0 x17_1).f5), .bool ((rd_T34 l0 x17_1).f6), .bool ((rd_T34 l0 x17_1).f7), .bool ((rd_T34 l0 x17_1).f8), .int .u8 ((rd_T34 l0 x17_1).f9)] 34 (0, 0)) (by (with_reducible repeat (first | refine blk_drewN ?_ _ | refine blk_drew ?_ | refine blk_alloc ?_ _)); exact BK251.out) hg (Kd.R_away HO_5.out (fun _ hk => hk))); have n1_ := Aside0.mk (hb); have n2_ := Aside0.mk (ho); clear BK251; clear HB; clear HO_5; have BK251 := n0_; have HB := n1_; have HO281 := n2_; clear n0_ n1_ n2_; clear ho hb hg hat))
                        go_roundg kj7
                        case measure => have := HK1.out; have := HJ7.out; omega
                        case rel => exact ⟨(y279), (wrap64 (x17_1 + 1)), (by first | rfl | (simp; done) | (simp [*]; done)), H', ⟨by have := HK1.out; have := HJ7.out; omega⟩, ⟨by (with_reducible repeat (first | apply Kd.R_alloc | apply Kd.R_drewN | apply Kd.R_drew)); exact Kd.R_mono HO281.out (fun _ hk => trivial)⟩, ⟨by repeat (first | (with_reducible first | exact HB.out | apply below_alloc | apply pw_below_drewN | apply below_drew1 | refine below_set ?_ GE251.out) | exact HB.out)⟩⟩
                      · rw [if_neg c42] at H
                        exact absurd H (by simp)
                    · rw [if_neg c41] at H
                      have c41b0 : decide (0 < ((rd_T34 l0 x17_1).f0)) = false := decide_eq_false c41
                      clear c41
                      have H' := Aside0.mk H
                      clear H
                      have hcz45_0 : wc.cell? ⟨gb251, 0, none⟩ = some (.int .i64 ((rd_T34 l0 x17_1).f0)) := (blk_cell BK251.out 0).trans rfl
                      have hcz45_1 : wc.cell? ⟨gb251, 1, none⟩ = some (.int .u16 ((rd_T34 l0 x17_1).f1)) := (blk_cell BK251.out 1).trans rfl
                      have hcz45_2 : wc.cell? ⟨gb251, 2, none⟩ = some (.bool ((rd_T34 l0 x17_1).f2)) := (blk_cell BK251.out 2).trans rfl
                      have hcz45_3 : wc.cell? ⟨gb251, 3, none⟩ = some (.bool ((rd_T34 l0 x17_1).f3)) := (blk_cell BK251.out 3).trans rfl
                      have hcz45_4 : wc.cell? ⟨gb251, 4, none⟩ = some (.bool ((rd_T34 l0 x17_1).f4)) := (blk_cell BK251.out 4).trans rfl
                      have hcz45_5 : wc.cell? ⟨gb251, 5, none⟩ = some (.bool ((rd_T34 l0 x17_1).f5)) := (blk_cell BK251.out 5).trans rfl
                      have hcz45_6 : wc.cell? ⟨gb251, 6, none⟩ = some (.bool ((rd_T34 l0 x17_1).f6)) := (blk_cell BK251.out 6).trans rfl
                      have hcz45_7 : wc.cell? ⟨gb251, 7, none⟩ = some (.bool ((rd_T34 l0 x17_1).f7)) := (blk_cell BK251.out 7).trans rfl
                      have hcz45_8 : wc.cell? ⟨gb251, 8, none⟩ = some (.bool ((rd_T34 l0 x17_1).f8)) := (blk_cell BK251.out 8).trans rfl
                      have hcz45_9 : wc.cell? ⟨gb251, 9, none⟩ = some (.int .u8 ((rd_T34 l0 x17_1).f9)) := (blk_cell BK251.out 9).trans rfl
                      have hfz45_0 := blk_frozen BK251.out 0
                      have hfz45_1 := blk_frozen BK251.out 1
                      have hfz45_2 := blk_frozen BK251.out 2
                      have hfz45_3 := blk_frozen BK251.out 3
                      have hfz45_4 := blk_frozen BK251.out 4
                      have hfz45_5 := blk_frozen BK251.out 5
                      have hfz45_6 := blk_frozen BK251.out 6
                      have hfz45_7 := blk_frozen BK251.out 7
                      have hfz45_8 := blk_frozen BK251.out 8
                      have hfz45_9 := blk_frozen BK251.out 9
                      go_wp2
                      go_roundg kj7
                      case measure => have := HK1.out; have := HJ7.out; omega
                      case rel => exact ⟨(x5_1), (wrap64 (x17_1 + 1)), (by first | rfl | (simp; done) | (simp [*]; done)), H', ⟨by have := HK1.out; have := HJ7.out; omega⟩, ⟨by (with_reducible repeat (first | apply Kd.R_alloc | apply Kd.R_drewN | apply Kd.R_drew)); exact Kd.R_mono HO_5.out (fun _ hk => trivial)⟩, ⟨by repeat (first | (with_reducible first | exact HB.out | apply below_alloc | apply pw_below_drewN | apply below_drew1 | refine below_set ?_ GE251.out) | exact HB.out)⟩⟩
            · rw [if_neg c7] at H
              exact absurd H (by simp)
          · rw [if_neg c6] at H
            exact absurd H (by simp)
        · rw [if_neg c5] at H
          have c5b0 : decide (x17_1 < (l0.length : Int)) = false := decide_eq_false c5
          clear c5
          simp only [Option.some.injEq, Prod.mk.injEq] at H
          obtain ⟨rfl, rfl⟩ := H
          go_wp2
          go_ret2
          exact ⟨_, by first | rfl | (simp [errW_none, errW_some] <;> rfl) | (simp [*, errW_none, errW_some] <;> rfl), by (with_reducible repeat (first | apply Kd.R_alloc | apply Kd.R_drewN | apply Kd.R_drew)); exact HO_5.out, by repeat (first | (with_reducible first | exact HB.out | apply below_alloc | apply pw_below_drewN | apply below_drew1) | exact HB.out)⟩
  · rw [if_neg c3] at H
    have c3b0 : (t249 == 0) = false := beq_eq_false_iff_ne.mpr c3
    have c3b1 : (t249 != 0) = true := bne_iff_ne.mpr c3
    simp only [Option.some.injEq, Prod.mk.injEq] at H
    obtain ⟨rfl, rfl⟩ := H
    go_enter Tryd.func27, Tryd.ntmps27
    go_wp2_with (first | ((with_reducible refine gate_callee (f := 14) rfl ?_); refine goesL_ (some 11) rfl rfl Tryd.func14 (by kernel_rfl) rfl #[.slice A0 l0.length c0] rfl (by (try simp only [List.map_toArray, List.map_cons, List.map_nil]); first | done | rfl | (simp only [List.length_drop, List.length_take]; rfl)) ?_; (with_reducible refine (script_Check.calls k _ _ l0 t249 _ ?side1 ?side2 A2.out).mono ?_); (case side1 => repeat (first | exact HR0.out | (with_reducible refine Kd.C_alloc ?_ _) | (with_reducible refine Kd.C_drewN ?_ _) | (with_reducible refine Kd.C_drew ?_))); (case side2 => exact HC0.out); rintro e w46 ⟨rfl, hb⟩; refine ⟨_, rfl, ?_⟩; have n0_ := Aside0.mk (below_step (by repeat (first | (with_reducible first | exact HB.out | apply below_alloc | apply pw_below_drewN | apply below_drew1) | exact HB.out)) hb); clear HB; have HB := n0_; clear n0_; (try clear hb); (try clear hb2); (try clear hk); (try clear hi)))
    go_ret2
    exact ⟨_, by first | rfl | (simp [errW_none, errW_some] <;> rfl) | (simp [*, errW_none, errW_some] <;> rfl), by first | exact Kd.R_nil _ _ _ _ _ | exact Kd.N_nil _ _ _ _ _ | exact Kd.V_nil _ _ _ _ _ | exact Kd.Q_nil _ _ _ _ _ | exact Kd.S_nil _ _ _ _ _, by repeat (first | (with_reducible first | exact HB.out | apply below_alloc | apply pw_below_drewN | apply below_drew1) | exact HB.out)⟩

end Go.Proofs.YtdjffafcmomalaaDoor.PScr
