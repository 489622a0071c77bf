/- Written by a program of this session (gprint.py, over the kit's printer): functions of the seat YtdjffafcmomalaaDoor and their contracts. No condition but each contract's own. -/
import Derived.Test.YtdjffafcmomalaaDoorPScrx0
import Derived.Test.YtdjffafcmomalaaDoorPScrx1
namespace Go.Proofs.YtdjffafcmomalaaDoor.PScr
open Go.RowKit Go.Proofs.YtdjffafcmomalaaDoorW.PrintWords Go.Proofs.YtdjffafcmomalaaDoorW.PrintLast Go.Proofs.YtdjffafcmomalaaDoorW.PrintMore
attribute [local go_sem] max2_int min2_int max_two min_two max_three min_three max_four min_four   -- for this text's walks alone
set_option linter.unusedVariables false
set_option linter.unusedSimpArgs false

attribute [local go_sem high] eqA34
/-! ### vesperlaw07_flat: function 34 -/
mutual
def vesperlaw07_flat.l0 : Nat → List (S34) → List (S34) → Int → Int → Int → Int → Option (Bool)
  | 0, _, _, _, _, _, _ => none
  | k + 1, x0, x1, x5, x6, x7, x8 => if x5 < (x0.length : Int) then (vesperlaw07_flat.j1 k x0 x1 x5 x6 x7 x8 (decide (x6 < (x1.length : Int)))) else (vesperlaw07_flat.j1 k x0 x1 x5 x6 x7 x8 false)
def vesperlaw07_flat.j1 : Nat → List (S34) → List (S34) → Int → Int → Int → Int → Bool → Option (Bool)
  | 0, _, _, _, _, _, _, _ => none
  | k + 1, x0, x1, x5, x6, x7, x8, x21 => if x21 = true then (if 0 ≤ x5 then (if x5 < (x0.length : Int) then (if 0 ≤ x6 then (if x6 < (x1.length : Int) then (if (mn (wrap64 (((rd_T34 x0 x5).f0) - x7)) (wrap64 (((rd_T34 x1 x6).f0) - x8))) < 1 then (vesperlaw07_flat.j2 k x0 x1 x5 x6 x7 x8 (mn (wrap64 (((rd_T34 x0 x5).f0) - x7)) (wrap64 (((rd_T34 x1 x6).f0) - x8))) true) else (vesperlaw07_flat.j2 k x0 x1 x5 x6 x7 x8 (mn (wrap64 (((rd_T34 x0 x5).f0) - x7)) (wrap64 (((rd_T34 x1 x6).f0) - x8))) (!(((rd_T34 x0 x5).f1) == ((rd_T34 x1 x6).f1)) || (!(((rd_T34 x0 x5).f2) == ((rd_T34 x1 x6).f2)) || (!(((rd_T34 x0 x5).f3) == ((rd_T34 x1 x6).f3)) || (!(((rd_T34 x0 x5).f4) == ((rd_T34 x1 x6).f4)) || (!(((rd_T34 x0 x5).f5) == ((rd_T34 x1 x6).f5)) || (!(((rd_T34 x0 x5).f6) == ((rd_T34 x1 x6).f6)) || (!(((rd_T34 x0 x5).f7) == ((rd_T34 x1 x6).f7)) || (!(((rd_T34 x0 x5).f8) == ((rd_T34 x1 x6).f8)) || (!(((rd_T34 x0 x5).f9) == ((rd_T34 x1 x6).f9))))))))))))) else (none)) else (none)) else (none)) else (none)) else (if x5 = (x0.length : Int) then (some (x6 == (x1.length : Int))) else (some false))
def vesperlaw07_flat.j2 : Nat → List (S34) → List (S34) → Int → Int → Int → Int → Int → Bool → Option (Bool)
  | 0, _, _, _, _, _, _, _, _ => none
  | k + 1, x0, x1, x5, x6, x7, x8, x11, x47 => if x47 = true then (some false) else (if 0 ≤ x5 then (if x5 < (x0.length : Int) then (if (wrap64 (x7 + x11)) = ((rd_T34 x0 x5).f0) then (if 0 ≤ x6 then (if x6 < (x1.length : Int) then (if (wrap64 (x8 + x11)) = ((rd_T34 x1 x6).f0) then (vesperlaw07_flat.l0 k x0 x1 (wrap64 (x5 + 1)) (wrap64 (x6 + 1)) 0 0) else (vesperlaw07_flat.l0 k x0 x1 (wrap64 (x5 + 1)) x6 0 (wrap64 (x8 + x11)))) else (none)) else (none)) else (if 0 ≤ x6 then (if x6 < (x1.length : Int) then (if (wrap64 (x8 + x11)) = ((rd_T34 x1 x6).f0) then (vesperlaw07_flat.l0 k x0 x1 x5 (wrap64 (x6 + 1)) (wrap64 (x7 + x11)) 0) else (vesperlaw07_flat.l0 k x0 x1 x5 x6 (wrap64 (x7 + x11)) (wrap64 (x8 + x11)))) else (none)) else (none))) else (none)) else (none))
end
def vesperlaw07_flat.f (k : Nat) (l0 : List (S34)) (l1 : List (S34)) : Option (Bool) := vesperlaw07_flat.l0 k l0 l1 0 0 0 0
theorem vesperlaw07_flat.mono_l : ∀ k, (∀ y0 y1 y2 y3 y4 y5, LeO (vesperlaw07_flat.l0 k y0 y1 y2 y3 y4 y5) (vesperlaw07_flat.l0 (k + 1) y0 y1 y2 y3 y4 y5)) ∧ (∀ y0 y1 y2 y3 y4 y5 y6, LeO (vesperlaw07_flat.j1 k y0 y1 y2 y3 y4 y5 y6) (vesperlaw07_flat.j1 (k + 1) y0 y1 y2 y3 y4 y5 y6)) ∧ (∀ y0 y1 y2 y3 y4 y5 y6 y7, LeO (vesperlaw07_flat.j2 k y0 y1 y2 y3 y4 y5 y6 y7) (vesperlaw07_flat.j2 (k + 1) y0 y1 y2 y3 y4 y5 y6 y7))
  | 0 => ⟨fun _ _ _ _ _ _ r h => by simp [vesperlaw07_flat.l0] at h, fun _ _ _ _ _ _ _ r h => by simp [vesperlaw07_flat.j1] at h, fun _ _ _ _ _ _ _ _ r h => by simp [vesperlaw07_flat.j2] at h⟩
  | k + 1 => by
    obtain ⟨ih0, ih1, ih2⟩ := vesperlaw07_flat.mono_l k
    refine ⟨?_, ?_, ?_⟩
    · intro y0 y1 y2 y3 y4 y5
      unfold vesperlaw07_flat.l0
      repeat' first
      | (with_reducible exact ih0 _ _ _ _ _ _)
      | (with_reducible exact ih1 _ _ _ _ _ _ _)
      | (with_reducible exact ih2 _ _ _ _ _ _ _ _)
      | (with_reducible exact LeO.refl _)
      | (with_reducible exact LeO.none _)
      | (with_reducible refine LeO.ite ?_ ?_)
      | (with_reducible refine LeO.bind ?_ (fun _ => ?_))
      | exact ih0 _ _ _ _ _ _
      | exact ih1 _ _ _ _ _ _ _
      | exact ih2 _ _ _ _ _ _ _ _
      | exact LeO.none _
      | refine LeO.ite ?_ ?_
      | refine LeO.bind ?_ (fun _ => ?_)
    · intro y0 y1 y2 y3 y4 y5 y6
      unfold vesperlaw07_flat.j1
      repeat' first
      | (with_reducible exact ih0 _ _ _ _ _ _)
      | (with_reducible exact ih1 _ _ _ _ _ _ _)
      | (with_reducible exact ih2 _ _ _ _ _ _ _ _)
      | (with_reducible exact LeO.refl _)
      | (with_reducible exact LeO.none _)
      | (with_reducible refine LeO.ite ?_ ?_)
      | (with_reducible refine LeO.bind ?_ (fun _ => ?_))
      | exact ih0 _ _ _ _ _ _
      | exact ih1 _ _ _ _ _ _ _
      | exact ih2 _ _ _ _ _ _ _ _
      | exact LeO.none _
      | refine LeO.ite ?_ ?_
      | refine LeO.bind ?_ (fun _ => ?_)
    · intro y0 y1 y2 y3 y4 y5 y6 y7
      unfold vesperlaw07_flat.j2
      repeat' first
      | (with_reducible exact ih0 _ _ _ _ _ _)
      | (with_reducible exact ih1 _ _ _ _ _ _ _)
      | (with_reducible exact ih2 _ _ _ _ _ _ _ _)
      | (with_reducible exact LeO.refl _)
      | (with_reducible exact LeO.none _)
      | (with_reducible refine LeO.ite ?_ ?_)
      | (with_reducible refine LeO.bind ?_ (fun _ => ?_))
      | exact ih0 _ _ _ _ _ _
      | exact ih1 _ _ _ _ _ _ _
      | exact ih2 _ _ _ _ _ _ _ _
      | exact LeO.none _
      | refine LeO.ite ?_ ?_
      | refine LeO.bind ?_ (fun _ => ?_)
theorem vesperlaw07_flat.mono : ∀ a0 a1 k, LeO (vesperlaw07_flat.f k a0 a1) (vesperlaw07_flat.f (k + 1) a0 a1) := by
  intro a0 a1 k
  obtain ⟨ih0, ih1, ih2⟩ := vesperlaw07_flat.mono_l k
  unfold vesperlaw07_flat.f
  repeat' first
      | (with_reducible exact ih0 _ _ _ _ _ _)
      | (with_reducible exact ih1 _ _ _ _ _ _ _)
      | (with_reducible exact ih2 _ _ _ _ _ _ _ _)
      | (with_reducible exact LeO.refl _)
      | (with_reducible exact LeO.none _)
      | (with_reducible refine LeO.ite ?_ ?_)
      | (with_reducible refine LeO.bind ?_ (fun _ => ?_))
      | exact ih0 _ _ _ _ _ _
      | exact ih1 _ _ _ _ _ _ _
      | exact ih2 _ _ _ _ _ _ _ _
      | exact LeO.none _
      | refine LeO.ite ?_ ?_
      | refine LeO.bind ?_ (fun _ => ?_)
set_option maxHeartbeats 8000000 in
set_option maxRecDepth 100000 in
theorem vesperlaw07_flat.calls (k : Nat) (A0 : Option Addr) (c0 : Nat) (l0 : List (S34)) (A1 : Option Addr) (c1 : Nat) (l1 : List (S34)) (r : Bool) (w : World) (hr0 : Kd.C k34 w A0 l0.length l0) (hc0 : l0.length ≤ c0) (hr1 : Kd.C k34 w A1 l1.length l1) (hc1 : l1.length ≤ c1) (h : vesperlaw07_flat.f k l0 l1 = some r) :
    Calls Tryd.prog 34 #[.slice A0 l0.length c0, .slice A1 l1.length c1] w fun e w' => e = .returned (.bool r) ∧ Below w.heap.size w w' := by
  have hu34 := Tryd.underlying34
  have HR0 := Aside0.mk hr0
  have HC0 := Aside0.mk hc0
  clear hr0 hc0
  have HR1 := Aside0.mk hr1
  have HC1 := Aside0.mk hc1
  clear hr1 hc1
  have HB := Aside0.mk (Below.refl w.heap.size w)
  have H : (vesperlaw07_flat.l0 k l0 l1 0 0 0 0) = some r := h
  clear h
  have H' := Aside0.mk H
  clear H
  go_enter Tryd.func34, Tryd.ntmps34
  go_wp2
  go_loopg [5, 6, 7, 8] k (fun kq v5 v6 v7 v8 w' => ∃ (x5_1 : Int) (x6_1 : Int) (x7_1 : Int) (x8_1 : Int), v5 = .int .i64 x5_1 ∧ v6 = .int .i64 x6_1 ∧ v7 = .int .i64 x7_1 ∧ v8 = .int .i64 x8_1 ∧ Aside0 (vesperlaw07_flat.l0 kq l0 l1 x5_1 x6_1 x7_1 x8_1 = some r) ∧ Aside0 (kq ≤ k) ∧ Aside0 (Below w.heap.size w w'))
  case atStart => exact ⟨(0), (0), (0), (0), (by first | rfl | (simp; done) | (simp [*]; done)), (by first | rfl | (simp; done) | (simp [*]; done)), (by first | rfl | (simp; done) | (simp [*]; done)), (by first | rfl | (simp; done) | (simp [*]; done)), H', ⟨Nat.le_refl _⟩, ⟨by repeat (first | (with_reducible first | exact HB.out | apply below_alloc | apply pw_below_drewN | apply below_drew1) | exact HB.out)⟩⟩
  case round =>
    clear H'
    try clear c1
    try clear p2
    obtain ⟨x5_1, x6_1, x7_1, x8_1, rfl, rfl, rfl, rfl, HA, HK1, HB⟩ := hrel
    cases gk with
    | zero => exact absurd HA.out (by simp [vesperlaw07_flat.l0])
    | succ k1 =>
      have H := HA.out
      clear HA
      simp only [vesperlaw07_flat.l0] at H
      have HC3 := Aside0.mk H
      clear H
      go_upto_region 5 with (fail)
      go_cut [21] (fun v21 wc => ∃ (kq : Nat) (x21_2 : Bool), v21 = .bool x21_2 ∧ Aside0 (vesperlaw07_flat.j1 kq l0 l1 x5_1 x6_1 x7_1 x8_1 x21_2 = some r) ∧ Aside0 (kq ≤ k1) ∧ Aside0 (Below w.heap.size w wc))
      case first =>
        have H := HC3.out
        clear HC3
        by_cases c4 : x5_1 < (l0.length : Int)
        · rw [if_pos c4] at H
          have c4b0 : decide (x5_1 < (l0.length : Int)) = true := decide_eq_true c4
          clear c4
          (first | rw [c4b0] | (simp only [i64_w, i32_w]; rw [c4b0]) | skip)
          have H' := Aside0.mk H
          clear H
          go_wp2
          go_meet
          case rel => exact ⟨_, (decide (x6_1 < (l1.length : Int))), (by first | rfl | (simp; done) | (simp [*]; done)), H', ⟨by have := HK1.out; first | omega | exact Nat.le_refl _⟩, ⟨by repeat (first | (with_reducible first | exact HB.out | apply below_alloc | apply pw_below_drewN | apply below_drew1) | exact HB.out)⟩⟩
        · rw [if_neg c4] at H
          have c4b0 : decide (x5_1 < (l0.length : Int)) = false := decide_eq_false c4
          clear c4
          (first | rw [c4b0] | (simp only [i64_w, i32_w]; rw [c4b0]) | skip)
          have H' := Aside0.mk H
          clear H
          go_wp2
          go_meet
          case rel => exact ⟨_, (false), (by first | rfl | (simp; done) | (simp [*]; done)), H', ⟨by have := HK1.out; first | omega | exact Nat.le_refl _⟩, ⟨by repeat (first | (with_reducible first | exact HB.out | apply below_alloc | apply pw_below_drewN | apply below_drew1) | exact HB.out)⟩⟩
      case rest =>
        clear HC3
        try clear c1
        try clear p2
        try clear c3
        try clear c4
        try clear c4b0
        try clear p2
        obtain ⟨kq, x21_2, rfl, HA, HJ2, HB⟩ := hcut
        cases kq with
        | zero => exact absurd HA.out (by simp [vesperlaw07_flat.j1])
        | succ kj2 =>
          have H := HA.out
          clear HA
          simp only [vesperlaw07_flat.j1] at H
          by_cases c5 : x21_2 = true
          · subst c5
            have H1 : (if 0 ≤ x5_1 then (if x5_1 < (l0.length : Int) then (if 0 ≤ x6_1 then (if x6_1 < (l1.length : Int) then (if (mn (wrap64 (((rd_T34 l0 x5_1).f0) - x7_1)) (wrap64 (((rd_T34 l1 x6_1).f0) - x8_1))) < 1 then (vesperlaw07_flat.j2 kj2 l0 l1 x5_1 x6_1 x7_1 x8_1 (mn (wrap64 (((rd_T34 l0 x5_1).f0) - x7_1)) (wrap64 (((rd_T34 l1 x6_1).f0) - x8_1))) true) else (vesperlaw07_flat.j2 kj2 l0 l1 x5_1 x6_1 x7_1 x8_1 (mn (wrap64 (((rd_T34 l0 x5_1).f0) - x7_1)) (wrap64 (((rd_T34 l1 x6_1).f0) - x8_1))) (!(((rd_T34 l0 x5_1).f1) == ((rd_T34 l1 x6_1).f1)) || (!(((rd_T34 l0 x5_1).f2) == ((rd_T34 l1 x6_1).f2)) || (!(((rd_T34 l0 x5_1).f3) == ((rd_T34 l1 x6_1).f3)) || (!(((rd_T34 l0 x5_1).f4) == ((rd_T34 l1 x6_1).f4)) || (!(((rd_T34 l0 x5_1).f5) == ((rd_T34 l1 x6_1).f5)) || (!(((rd_T34 l0 x5_1).f6) == ((rd_T34 l1 x6_1).f6)) || (!(((rd_T34 l0 x5_1).f7) == ((rd_T34 l1 x6_1).f7)) || (!(((rd_T34 l0 x5_1).f8) == ((rd_T34 l1 x6_1).f8)) || (!(((rd_T34 l0 x5_1).f9) == ((rd_T34 l1 x6_1).f9))))))))))))) else (none)) else (none)) else (none)) else (none)) = some r := by rw [if_pos rfl] at H; exact H
            clear H
            have H := H1
            clear H1
            by_cases c6 : 0 ≤ x5_1
            · rw [if_pos c6] at H
              have c6b0 : decide (0 ≤ x5_1) = true := decide_eq_true c6
              clear c6
              by_cases c7 : x5_1 < (l0.length : Int)
              · rw [if_pos c7] at H
                have c7b0 : decide (x5_1 < (l0.length : Int)) = true := decide_eq_true c7
                clear c7
                by_cases c8 : 0 ≤ x6_1
                · rw [if_pos c8] at H
                  have c8b0 : decide (0 ≤ x6_1) = true := decide_eq_true c8
                  clear c8
                  by_cases c9 : x6_1 < (l1.length : Int)
                  · rw [if_pos c9] at H
                    have c9b0 : decide (x6_1 < (l1.length : Int)) = true := decide_eq_true c9
                    clear c9
                    obtain ⟨ji10, hji10⟩ : ∃ j_ : Int, (mn (wrap64 (((rd_T34 l0 x5_1).f0) - x7_1)) (wrap64 (((rd_T34 l1 x6_1).f0) - x8_1))) = j_ := ⟨_, rfl⟩
                    replace H : (if (ji10) < 1 then (vesperlaw07_flat.j2 kj2 l0 l1 x5_1 x6_1 x7_1 x8_1 ji10 true) else (vesperlaw07_flat.j2 kj2 l0 l1 x5_1 x6_1 x7_1 x8_1 ji10 (!(((rd_T34 l0 x5_1).f1) == ((rd_T34 l1 x6_1).f1)) || (!(((rd_T34 l0 x5_1).f2) == ((rd_T34 l1 x6_1).f2)) || (!(((rd_T34 l0 x5_1).f3) == ((rd_T34 l1 x6_1).f3)) || (!(((rd_T34 l0 x5_1).f4) == ((rd_T34 l1 x6_1).f4)) || (!(((rd_T34 l0 x5_1).f5) == ((rd_T34 l1 x6_1).f5)) || (!(((rd_T34 l0 x5_1).f6) == ((rd_T34 l1 x6_1).f6)) || (!(((rd_T34 l0 x5_1).f7) == ((rd_T34 l1 x6_1).f7)) || (!(((rd_T34 l0 x5_1).f8) == ((rd_T34 l1 x6_1).f8)) || (!(((rd_T34 l0 x5_1).f9) == ((rd_T34 l1 x6_1).f9))))))))))))) = some r := by first | (rw [hji10] at H; exact H) | (simp only [hji10] at H ⊢; exact H)
                    have hji10_ : (if (wrap64 (((rd_T34 l1 x6_1).f0) - x8_1)) < (wrap64 (((rd_T34 l0 x5_1).f0) - x7_1)) then (wrap64 (((rd_T34 l1 x6_1).f0) - x8_1)) else (wrap64 (((rd_T34 l0 x5_1).f0) - x7_1))) = ji10 := hji10
                    have HC11 := Aside0.mk H
                    clear H
                    have p351 : 0 ≤ (x5_1 : Int) := of_decide_eq_true (by first | (with_reducible assumption) | assumption)
                    have q351 : x5_1 < (l0.length : Int) := of_decide_eq_true (by first | (with_reducible assumption) | assumption)
                    obtain ⟨ad351, e351, hx351_0, hx351_1, hx351_2, hx351_3, hx351_4, hx351_5, hx351_6, hx351_7, hx351_8, hx351_9⟩ := at_T34 HR0.out x5_1 p351 q351
                    cases e351
                    replace hx351_0 := (HB.out.cell (World.block_lt_of_cell? w _ hx351_0)).trans hx351_0
                    replace hx351_1 := (HB.out.cell (World.block_lt_of_cell? w _ hx351_1)).trans hx351_1
                    replace hx351_2 := (HB.out.cell (World.block_lt_of_cell? w _ hx351_2)).trans hx351_2
                    replace hx351_3 := (HB.out.cell (World.block_lt_of_cell? w _ hx351_3)).trans hx351_3
                    replace hx351_4 := (HB.out.cell (World.block_lt_of_cell? w _ hx351_4)).trans hx351_4
                    replace hx351_5 := (HB.out.cell (World.block_lt_of_cell? w _ hx351_5)).trans hx351_5
                    replace hx351_6 := (HB.out.cell (World.block_lt_of_cell? w _ hx351_6)).trans hx351_6
                    replace hx351_7 := (HB.out.cell (World.block_lt_of_cell? w _ hx351_7)).trans hx351_7
                    replace hx351_8 := (HB.out.cell (World.block_lt_of_cell? w _ hx351_8)).trans hx351_8
                    replace hx351_9 := (HB.out.cell (World.block_lt_of_cell? w _ hx351_9)).trans hx351_9
                    replace p351 := eq_true p351
                    replace q351 := eq_true q351
                    go_upto_region 11 with (first | ((with_reducible refine gate_dst (N := 9) rfl ?_); (try (refine gate_guard (by rfl) ?_; dsimp only)); refine box_event ?hg (N := 9) ?hd (cs := #[.int .i64 0, .int .u16 0, .bool false, .bool false, .bool false, .bool false, .bool false, .bool false, .bool false, .int .u8 0]) (t := 34) ?hr ?_; (case hd => rfl); (case hg => rfl); (case hr => first | (go_simp; done) | (go_simp; rfl)); intro gb352 hg w12 hbox hb; have n0_ := Aside0.mk (below_step (by repeat (first | (with_reducible first | exact HB.out | apply below_alloc | apply pw_below_drewN | apply below_drew1) | exact HB.out)) hb); have n1_ := Aside0.mk (hbox); have n2_ := Aside0.mk ((by rw [hg]; exact (below_size (by repeat (first | (with_reducible first | exact HB.out | apply below_alloc | apply pw_below_drewN | apply below_drew1) | exact HB.out))) : w.heap.size ≤ gb352)); have n3_ := Aside0.mk ((by rw [hg]; exact (below_size (by repeat (first | (with_reducible first | exact HB.out | apply below_alloc | apply pw_below_drewN | apply below_drew1) | exact HB.out))) : w.heap.size ≤ gb352)); clear HB; have HB := n0_; have BK352 := n1_; have GW352 := n2_; have GE352 := n3_; clear n0_ n1_ n2_ n3_; clear hb hbox hg; have hcz13_0 : w12.cell? ⟨gb352, 0, none⟩ = some (.int .i64 0) := (blk_cell BK352.out 0).trans rfl; have hcz13_1 : w12.cell? ⟨gb352, 1, none⟩ = some (.int .u16 0) := (blk_cell BK352.out 1).trans rfl; have hcz13_2 : w12.cell? ⟨gb352, 2, none⟩ = some (.bool false) := (blk_cell BK352.out 2).trans rfl; have hcz13_3 : w12.cell? ⟨gb352, 3, none⟩ = some (.bool false) := (blk_cell BK352.out 3).trans rfl; have hcz13_4 : w12.cell? ⟨gb352, 4, none⟩ = some (.bool false) := (blk_cell BK352.out 4).trans rfl; have hcz13_5 : w12.cell? ⟨gb352, 5, none⟩ = some (.bool false) := (blk_cell BK352.out 5).trans rfl; have hcz13_6 : w12.cell? ⟨gb352, 6, none⟩ = some (.bool false) := (blk_cell BK352.out 6).trans rfl; have hcz13_7 : w12.cell? ⟨gb352, 7, none⟩ = some (.bool false) := (blk_cell BK352.out 7).trans rfl; have hcz13_8 : w12.cell? ⟨gb352, 8, none⟩ = some (.bool false) := (blk_cell BK352.out 8).trans rfl; have hcz13_9 : w12.cell? ⟨gb352, 9, none⟩ = some (.int .u8 0) := (blk_cell BK352.out 9).trans rfl; have hfz13_0 := blk_frozen BK352.out 0; have hfz13_1 := blk_frozen BK352.out 1; have hfz13_2 := blk_frozen BK352.out 2; have hfz13_3 := blk_frozen BK352.out 3; have hfz13_4 := blk_frozen BK352.out 4; have hfz13_5 := blk_frozen BK352.out 5; have hfz13_6 := blk_frozen BK352.out 6; have hfz13_7 := blk_frozen BK352.out 7; have hfz13_8 := blk_frozen BK352.out 8; have hfz13_9 := blk_frozen BK352.out 9; have p353 : 0 ≤ (x6_1 : Int) := of_decide_eq_true (by first | (with_reducible assumption) | assumption); have q353 : x6_1 < (l1.length : Int) := of_decide_eq_true (by first | (with_reducible assumption) | assumption); obtain ⟨ad353, e353, hx353_0, hx353_1, hx353_2, hx353_3, hx353_4, hx353_5, hx353_6, hx353_7, hx353_8, hx353_9⟩ := at_T34 HR1.out x6_1 p353 q353; cases e353; have hn353_0 : ad353.block ≠ gb352 := Nat.ne_of_lt (Nat.lt_of_lt_of_le (by have := World.block_lt_of_cell? _ _ hx353_0; first | rwa [add_block] at this | exact this) GW352.out); have hn353_1 : ad353.block ≠ gb352 := Nat.ne_of_lt (Nat.lt_of_lt_of_le (by have := World.block_lt_of_cell? _ _ hx353_0; first | rwa [add_block] at this | exact this) GW352.out); have hn353_2 : ad353.block ≠ gb352 := Nat.ne_of_lt (Nat.lt_of_lt_of_le (by have := World.block_lt_of_cell? _ _ hx353_0; first | rwa [add_block] at this | exact this) GW352.out); have hn353_3 : ad353.block ≠ gb352 := Nat.ne_of_lt (Nat.lt_of_lt_of_le (by have := World.block_lt_of_cell? _ _ hx353_0; first | rwa [add_block] at this | exact this) GW352.out); have hn353_4 : ad353.block ≠ gb352 := Nat.ne_of_lt (Nat.lt_of_lt_of_le (by have := World.block_lt_of_cell? _ _ hx353_0; first | rwa [add_block] at this | exact this) GW352.out); have hn353_5 : ad353.block ≠ gb352 := Nat.ne_of_lt (Nat.lt_of_lt_of_le (by have := World.block_lt_of_cell? _ _ hx353_0; first | rwa [add_block] at this | exact this) GW352.out); have hn353_6 : ad353.block ≠ gb352 := Nat.ne_of_lt (Nat.lt_of_lt_of_le (by have := World.block_lt_of_cell? _ _ hx353_0; first | rwa [add_block] at this | exact this) GW352.out); have hn353_7 : ad353.block ≠ gb352 := Nat.ne_of_lt (Nat.lt_of_lt_of_le (by have := World.block_lt_of_cell? _ _ hx353_0; first | rwa [add_block] at this | exact this) GW352.out); have hn353_8 : ad353.block ≠ gb352 := Nat.ne_of_lt (Nat.lt_of_lt_of_le (by have := World.block_lt_of_cell? _ _ hx353_0; first | rwa [add_block] at this | exact this) GW352.out); have hn353_9 : ad353.block ≠ gb352 := Nat.ne_of_lt (Nat.lt_of_lt_of_le (by have := World.block_lt_of_cell? _ _ hx353_0; first | rwa [add_block] at this | exact this) GW352.out); replace hx353_0 := (HB.out.cell (World.block_lt_of_cell? w _ hx353_0)).trans hx353_0; replace hx353_1 := (HB.out.cell (World.block_lt_of_cell? w _ hx353_1)).trans hx353_1; replace hx353_2 := (HB.out.cell (World.block_lt_of_cell? w _ hx353_2)).trans hx353_2; replace hx353_3 := (HB.out.cell (World.block_lt_of_cell? w _ hx353_3)).trans hx353_3; replace hx353_4 := (HB.out.cell (World.block_lt_of_cell? w _ hx353_4)).trans hx353_4; replace hx353_5 := (HB.out.cell (World.block_lt_of_cell? w _ hx353_5)).trans hx353_5; replace hx353_6 := (HB.out.cell (World.block_lt_of_cell? w _ hx353_6)).trans hx353_6; replace hx353_7 := (HB.out.cell (World.block_lt_of_cell? w _ hx353_7)).trans hx353_7; replace hx353_8 := (HB.out.cell (World.block_lt_of_cell? w _ hx353_8)).trans hx353_8; replace hx353_9 := (HB.out.cell (World.block_lt_of_cell? w _ hx353_9)).trans hx353_9; replace hx353_0 := (cell_far (p := ⟨gb352, 0, none⟩) (by first | (rw [add_block]; exact hn353_0) | (show (Addr.add _ _).block ≠ _; rw [add_block]; exact hn353_0) | exact hn353_0) (.int .i64 ((rd_T34 l0 x5_1).f0))).trans hx353_0; replace hx353_1 := (cell_far (p := ⟨gb352, 0, none⟩) (by first | (rw [add_block]; exact hn353_0) | (show (Addr.add _ _).block ≠ _; rw [add_block]; exact hn353_0) | exact hn353_0) (.int .i64 ((rd_T34 l0 x5_1).f0))).trans hx353_1; replace hx353_2 := (cell_far (p := ⟨gb352, 0, none⟩) (by first | (rw [add_block]; exact hn353_0) | (show (Addr.add _ _).block ≠ _; rw [add_block]; exact hn353_0) | exact hn353_0) (.int .i64 ((rd_T34 l0 x5_1).f0))).trans hx353_2; replace hx353_3 := (cell_far (p := ⟨gb352, 0, none⟩) (by first | (rw [add_block]; exact hn353_0) | (show (Addr.add _ _).block ≠ _; rw [add_block]; exact hn353_0) | exact hn353_0) (.int .i64 ((rd_T34 l0 x5_1).f0))).trans hx353_3; replace hx353_4 := (cell_far (p := ⟨gb352, 0, none⟩) (by first | (rw [add_block]; exact hn353_0) | (show (Addr.add _ _).block ≠ _; rw [add_block]; exact hn353_0) | exact hn353_0) (.int .i64 ((rd_T34 l0 x5_1).f0))).trans hx353_4; replace hx353_5 := (cell_far (p := ⟨gb352, 0, none⟩) (by first | (rw [add_block]; exact hn353_0) | (show (Addr.add _ _).block ≠ _; rw [add_block]; exact hn353_0) | exact hn353_0) (.int .i64 ((rd_T34 l0 x5_1).f0))).trans hx353_5; replace hx353_6 := (cell_far (p := ⟨gb352, 0, none⟩) (by first | (rw [add_block]; exact hn353_0) | (show (Addr.add _ _).block ≠ _; rw [add_block]; exact hn353_0) | exact hn353_0) (.int .i64 ((rd_T34 l0 x5_1).f0))).trans hx353_6; replace hx353_7 := (cell_far (p := ⟨gb352, 0, none⟩) (by first | (rw [add_block]; exact hn353_0) | (show (Addr.add _ _).block ≠ _; rw [add_block]; exact hn353_0) | exact hn353_0) (.int .i64 ((rd_T34 l0 x5_1).f0))).trans hx353_7; replace hx353_8 := (cell_far (p := ⟨gb352, 0, none⟩) (by first | (rw [add_block]; exact hn353_0) | (show (Addr.add _ _).block ≠ _; rw [add_block]; exact hn353_0) | exact hn353_0) (.int .i64 ((rd_T34 l0 x5_1).f0))).trans hx353_8; replace hx353_9 := (cell_far (p := ⟨gb352, 0, none⟩) (by first | (rw [add_block]; exact hn353_0) | (show (Addr.add _ _).block ≠ _; rw [add_block]; exact hn353_0) | exact hn353_0) (.int .i64 ((rd_T34 l0 x5_1).f0))).trans hx353_9; replace hx353_0 := (cell_far (p := ⟨gb352, 1, none⟩) (by first | (rw [add_block]; exact hn353_1) | (show (Addr.add _ _).block ≠ _; rw [add_block]; exact hn353_1) | exact hn353_1) (.int .u16 ((rd_T34 l0 x5_1).f1))).trans hx353_0; replace hx353_1 := (cell_far (p := ⟨gb352, 1, none⟩) (by first | (rw [add_block]; exact hn353_1) | (show (Addr.add _ _).block ≠ _; rw [add_block]; exact hn353_1) | exact hn353_1) (.int .u16 ((rd_T34 l0 x5_1).f1))).trans hx353_1; replace hx353_2 := (cell_far (p := ⟨gb352, 1, none⟩) (by first | (rw [add_block]; exact hn353_1) | (show (Addr.add _ _).block ≠ _; rw [add_block]; exact hn353_1) | exact hn353_1) (.int .u16 ((rd_T34 l0 x5_1).f1))).trans hx353_2; replace hx353_3 := (cell_far (p := ⟨gb352, 1, none⟩) (by first | (rw [add_block]; exact hn353_1) | (show (Addr.add _ _).block ≠ _; rw [add_block]; exact hn353_1) | exact hn353_1) (.int .u16 ((rd_T34 l0 x5_1).f1))).trans hx353_3; replace hx353_4 := (cell_far (p := ⟨gb352, 1, none⟩) (by first | (rw [add_block]; exact hn353_1) | (show (Addr.add _ _).block ≠ _; rw [add_block]; exact hn353_1) | exact hn353_1) (.int .u16 ((rd_T34 l0 x5_1).f1))).trans hx353_4; replace hx353_5 := (cell_far (p := ⟨gb352, 1, none⟩) (by first | (rw [add_block]; exact hn353_1) | (show (Addr.add _ _).block ≠ _; rw [add_block]; exact hn353_1) | exact hn353_1) (.int .u16 ((rd_T34 l0 x5_1).f1))).trans hx353_5; replace hx353_6 := (cell_far (p := ⟨gb352, 1, none⟩) (by first | (rw [add_block]; exact hn353_1) | (show (Addr.add _ _).block ≠ _; rw [add_block]; exact hn353_1) | exact hn353_1) (.int .u16 ((rd_T34 l0 x5_1).f1))).trans hx353_6; replace hx353_7 := (cell_far (p := ⟨gb352, 1, none⟩) (by first | (rw [add_block]; exact hn353_1) | (show (Addr.add _ _).block ≠ _; rw [add_block]; exact hn353_1) | exact hn353_1) (.int .u16 ((rd_T34 l0 x5_1).f1))).trans hx353_7; replace hx353_8 := (cell_far (p := ⟨gb352, 1, none⟩) (by first | (rw [add_block]; exact hn353_1) | (show (Addr.add _ _).block ≠ _; rw [add_block]; exact hn353_1) | exact hn353_1) (.int .u16 ((rd_T34 l0 x5_1).f1))).trans hx353_8; replace hx353_9 := (cell_far (p := ⟨gb352, 1, none⟩) (by first | (rw [add_block]; exact hn353_1) | (show (Addr.add _ _).block ≠ _; rw [add_block]; exact hn353_1) | exact hn353_1) (.int .u16 ((rd_T34 l0 x5_1).f1))).trans hx353_9; replace hx353_0 := (cell_far (p := ⟨gb352, 2, none⟩) (by first | (rw [add_block]; exact hn353_2) | (show (Addr.add _ _).block ≠ _; rw [add_block]; exact hn353_2) | exact hn353_2) (.bool ((rd_T34 l0 x5_1).f2))).trans hx353_0; replace hx353_1 := (cell_far (p := ⟨gb352, 2, none⟩) (by first | (rw [add_block]; exact hn353_2) | (show (Addr.add _ _).block ≠ _; rw [add_block]; exact hn353_2) | exact hn353_2) (.bool ((rd_T34 l0 x5_1).f2))).trans hx353_1; replace hx353_2 := (cell_far (p := ⟨gb352, 2, none⟩) (by first | (rw [add_block]; exact hn353_2) | (show (Addr.add _ _).block ≠ _; rw [add_block]; exact hn353_2) | exact hn353_2) (.bool ((rd_T34 l0 x5_1).f2))).trans hx353_2; replace hx353_3 := (cell_far (p := ⟨gb352, 2, none⟩) (by first | (rw [add_block]; exact hn353_2) | (show (Addr.add _ _).block ≠ _; rw [add_block]; exact hn353_2) | exact hn353_2) (.bool ((rd_T34 l0 x5_1).f2))).trans hx353_3; replace hx353_4 := (cell_far (p := ⟨gb352, 2, none⟩) (by first | (rw [add_block]; exact hn353_2) | (show (Addr.add _ _).block ≠ _; rw [add_block]; exact hn353_2) | exact hn353_2) (.bool ((rd_T34 l0 x5_1).f2))).trans hx353_4; replace hx353_5 := (cell_far (p := ⟨gb352, 2, none⟩) (by first | (rw [add_block]; exact hn353_2) | (show (Addr.add _ _).block ≠ _; rw [add_block]; exact hn353_2) | exact hn353_2) (.bool ((rd_T34 l0 x5_1).f2))).trans hx353_5; replace hx353_6 := (cell_far (p := ⟨gb352, 2, none⟩) (by first | (rw [add_block]; exact hn353_2) | (show (Addr.add _ _).block ≠ _; rw [add_block]; exact hn353_2) | exact hn353_2) (.bool ((rd_T34 l0 x5_1).f2))).trans hx353_6; replace hx353_7 := (cell_far (p := ⟨gb352, 2, none⟩) (by first | (rw [add_block]; exact hn353_2) | (show (Addr.add _ _).block ≠ _; rw [add_block]; exact hn353_2) | exact hn353_2) (.bool ((rd_T34 l0 x5_1).f2))).trans hx353_7; replace hx353_8 := (cell_far (p := ⟨gb352, 2, none⟩) (by first | (rw [add_block]; exact hn353_2) | (show (Addr.add _ _).block ≠ _; rw [add_block]; exact hn353_2) | exact hn353_2) (.bool ((rd_T34 l0 x5_1).f2))).trans hx353_8; replace hx353_9 := (cell_far (p := ⟨gb352, 2, none⟩) (by first | (rw [add_block]; exact hn353_2) | (show (Addr.add _ _).block ≠ _; rw [add_block]; exact hn353_2) | exact hn353_2) (.bool ((rd_T34 l0 x5_1).f2))).trans hx353_9; replace hx353_0 := (cell_far (p := ⟨gb352, 3, none⟩) (by first | (rw [add_block]; exact hn353_3) | (show (Addr.add _ _).block ≠ _; rw [add_block]; exact hn353_3) | exact hn353_3) (.bool ((rd_T34 l0 x5_1).f3))).trans hx353_0; replace hx353_1 := (cell_far (p := ⟨gb352, 3, none⟩) (by first | (rw [add_block]; exact hn353_3) | (show (Addr.add _ _).block ≠ _; rw [add_block]; exact hn353_3) | exact hn353_3) (.bool ((rd_T34 l0 x5_1).f3))).trans hx353_1; replace hx353_2 := (cell_far (p := ⟨gb352, 3, none⟩) (by first | (rw [add_block]; exact hn353_3) | (show (Addr.add _ _).block ≠ _; rw [add_block]; exact hn353_3) | exact hn353_3) (.bool ((rd_T34 l0 x5_1).f3))).trans hx353_2; replace hx353_3 := (cell_far (p := ⟨gb352, 3, none⟩) (by first | (rw [add_block]; exact hn353_3) | (show (Addr.add _ _).block ≠ _; rw [add_block]; exact hn353_3) | exact hn353_3) (.bool ((rd_T34 l0 x5_1).f3))).trans hx353_3; replace hx353_4 := (cell_far (p := ⟨gb352, 3, none⟩) (by first | (rw [add_block]; exact hn353_3) | (show (Addr.add _ _).block ≠ _; rw [add_block]; exact hn353_3) | exact hn353_3) (.bool ((rd_T34 l0 x5_1).f3))).trans hx353_4; replace hx353_5 := (cell_far (p := ⟨gb352, 3, none⟩) (by first | (rw [add_block]; exact hn353_3) | (show (Addr.add _ _).block ≠ _; rw [add_block]; exact hn353_3) | exact hn353_3) (.bool ((rd_T34 l0 x5_1).f3))).trans hx353_5; replace hx353_6 := (cell_far (p := ⟨gb352, 3, none⟩) (by first | (rw [add_block]; exact hn353_3) | (show (Addr.add _ _).block ≠ _; rw [add_block]; exact hn353_3) | exact hn353_3) (.bool ((rd_T34 l0 x5_1).f3))).trans hx353_6; replace hx353_7 := (cell_far (p := ⟨gb352, 3, none⟩) (by first | (rw [add_block]; exact hn353_3) | (show (Addr.add _ _).block ≠ _; rw [add_block]; exact hn353_3) | exact hn353_3) (.bool ((rd_T34 l0 x5_1).f3))).trans hx353_7; replace hx353_8 := (cell_far (p := ⟨gb352, 3, none⟩) (by first | (rw [add_block]; exact hn353_3) | (show (Addr.add _ _).block ≠ _; rw [add_block]; exact hn353_3) | exact hn353_3) (.bool ((rd_T34 l0 x5_1).f3))).trans hx353_8; replace hx353_9 := (cell_far (p := ⟨gb352, 3, none⟩) (by first | (rw [add_block]; exact hn353_3) | (show (Addr.add _ _).block ≠ _; rw [add_block]; exact hn353_3) | exact hn353_3) (.bool ((rd_T34 l0 x5_1).f3))).trans hx353_9; replace hx353_0 := (cell_far (p := ⟨gb352, 4, none⟩) (by first | (rw [add_block]; exact hn353_4) | (show (Addr.add _ _).block ≠ _; rw [add_block]; exact hn353_4) | exact hn353_4) (.bool ((rd_T34 l0 x5_1).f4))).trans hx353_0; replace hx353_1 := (cell_far (p := ⟨gb352, 4, none⟩) (by first | (rw [add_block]; exact hn353_4) | (show (Addr.add _ _).block ≠ _; rw [add_block]; exact hn353_4) | exact hn353_4) (.bool ((rd_T34 l0 x5_1).f4))).trans hx353_1; replace hx353_2 := (cell_far (p := ⟨gb352, 4, none⟩) (by first | (rw [add_block]; exact hn353_4) | (show (Addr.add _ _).block ≠ _; rw [add_block]; exact hn353_4) | exact hn353_4) (.bool ((rd_T34 l0 x5_1).f4))).trans hx353_2; replace hx353_3 := (cell_far (p := ⟨gb352, 4, none⟩) (by first | (rw [add_block]; exact hn353_4) | (show (Addr.add _ _).block ≠ _; rw [add_block]; exact hn353_4) | exact hn353_4) (.bool ((rd_T34 l0 x5_1).f4))).trans hx353_3; replace hx353_4 := (cell_far (p := ⟨gb352, 4, none⟩) (by first | (rw [add_block]; exact hn353_4) | (show (Addr.add _ _).block ≠ _; rw [add_block]; exact hn353_4) | exact hn353_4) (.bool ((rd_T34 l0 x5_1).f4))).trans hx353_4; replace hx353_5 := (cell_far (p := ⟨gb352, 4, none⟩) (by first | (rw [add_block]; exact hn353_4) | (show (Addr.add _ _).block ≠ _; rw [add_block]; exact hn353_4) | exact hn353_4) (.bool ((rd_T34 l0 x5_1).f4))).trans hx353_5; replace hx353_6 := (cell_far (p := ⟨gb352, 4, none⟩) (by first | (rw [add_block]; exact hn353_4) | (show (Addr.add _ _).block ≠ _; rw [add_block]; exact hn353_4) | exact hn353_4) (.bool ((rd_T34 l0 x5_1).f4))).trans hx353_6; replace hx353_7 := (cell_far (p := ⟨gb352, 4, none⟩) (by first | (rw [add_block]; exact hn353_4) | (show (Addr.add _ _).block ≠ _; rw [add_block]; exact hn353_4) | exact hn353_4) (.bool ((rd_T34 l0 x5_1).f4))).trans hx353_7; replace hx353_8 := (cell_far (p := ⟨gb352, 4, none⟩) (by first | (rw [add_block]; exact hn353_4) | (show (Addr.add _ _).block ≠ _; rw [add_block]; exact hn353_4) | exact hn353_4) (.bool ((rd_T34 l0 x5_1).f4))).trans hx353_8; replace hx353_9 := (cell_far (p := ⟨gb352, 4, none⟩) (by first | (rw [add_block]; exact hn353_4) | (show (Addr.add _ _).block ≠ _; rw [add_block]; exact hn353_4) | exact hn353_4) (.bool ((rd_T34 l0 x5_1).f4))).trans hx353_9; replace hx353_0 := (cell_far (p := ⟨gb352, 5, none⟩) (by first | (rw [add_block]; exact hn353_5) | (show (Addr.add _ _).block ≠ _; rw [add_block]; exact hn353_5) | exact hn353_5) (.bool ((rd_T34 l0 x5_1).f5))).trans hx353_0; replace hx353_1 := (cell_far (p := ⟨gb352, 5, none⟩) (by first | (rw [add_block]; exact hn353_5) | (show (Addr.add _ _).block ≠ _; rw [add_block]; exact hn353_5) | exact hn353_5) (.bool ((rd_T34 l0 x5_1).f5))).trans hx353_1; replace hx353_2 := (cell_far (p := ⟨gb352, 5, none⟩) (by first | (rw [add_block]; exact hn353_5) | (show (Addr.add _ _).block ≠ _; rw [add_block]; exact hn353_5) | exact hn353_5) (.bool ((rd_T34 l0 x5_1).f5))).trans hx353_2; replace hx353_3 := (cell_far (p := ⟨gb352, 5, none⟩) (by first | (rw [add_block]; exact hn353_5) | (show (Addr.add _ _).block ≠ _; rw [add_block]; exact hn353_5) | exact hn353_5) (.bool ((rd_T34 l0 x5_1).f5))).trans hx353_3; replace hx353_4 := (cell_far (p := ⟨gb352, 5, none⟩) (by first | (rw [add_block]; exact hn353_5) | (show (Addr.add _ _).block ≠ _; rw [add_block]; exact hn353_5) | exact hn353_5) (.bool ((rd_T34 l0 x5_1).f5))).trans hx353_4; replace hx353_5 := (cell_far (p := ⟨gb352, 5, none⟩) (by first | (rw [add_block]; exact hn353_5) | (show (Addr.add _ _).block ≠ _; rw [add_block]; exact hn353_5) | exact hn353_5) (.bool ((rd_T34 l0 x5_1).f5))).trans hx353_5; replace hx353_6 := (cell_far (p := ⟨gb352, 5, none⟩) (by first | (rw [add_block]; exact hn353_5) | (show (Addr.add _ _).block ≠ _; rw [add_block]; exact hn353_5) | exact hn353_5) (.bool ((rd_T34 l0 x5_1).f5))).trans hx353_6; replace hx353_7 := (cell_far (p := ⟨gb352, 5, none⟩) (by first | (rw [add_block]; exact hn353_5) | (show (Addr.add _ _).block ≠ _; rw [add_block]; exact hn353_5) | exact hn353_5) (.bool ((rd_T34 l0 x5_1).f5))).trans hx353_7; replace hx353_8 := (cell_far (p := ⟨gb352, 5, none⟩) (by first | (rw [add_block]; exact hn353_5) | (show (Addr.add _ _).block ≠ _; rw [add_block]; exact hn353_5) | exact hn353_5) (.bool ((rd_T34 l0 x5_1).f5))).trans hx353_8; replace hx353_9 := (cell_far (p := ⟨gb352, 5, none⟩) (by first | (rw [add_block]; exact hn353_5) | (show (Addr.add _ _).block ≠ _; rw [add_block]; exact hn353_5) | exact hn353_5) (.bool ((rd_T34 l0 x5_1).f5))).trans hx353_9; replace hx353_0 := (cell_far (p := ⟨gb352, 6, none⟩) (by first | (rw [add_block]; exact hn353_6) | (show (Addr.add _ _).block ≠ _; rw [add_block]; exact hn353_6) | exact hn353_6) (.bool ((rd_T34 l0 x5_1).f6))).trans hx353_0; replace hx353_1 := (cell_far (p := ⟨gb352, 6, none⟩) (by first | (rw [add_block]; exact hn353_6) | (show (Addr.add _ _).block ≠ _; rw [add_block]; exact hn353_6) | exact hn353_6) (.bool ((rd_T34 l0 x5_1).f6))).trans hx353_1; replace hx353_2 := (cell_far (p := ⟨gb352, 6, none⟩) (by first | (rw [add_block]; exact hn353_6) | (show (Addr.add _ _).block ≠ _; rw [add_block]; exact hn353_6) | exact hn353_6) (.bool ((rd_T34 l0 x5_1).f6))).trans hx353_2; replace hx353_3 := (cell_far (p := ⟨gb352, 6, none⟩) (by first | (rw [add_block]; exact hn353_6) | (show (Addr.add _ _).block ≠ _; rw [add_block]; exact hn353_6) | exact hn353_6) (.bool ((rd_T34 l0 x5_1).f6))).trans hx353_3; replace hx353_4 := (cell_far (p := ⟨gb352, 6, none⟩) (by first | (rw [add_block]; exact hn353_6) | (show (Addr.add _ _).block ≠ _; rw [add_block]; exact hn353_6) | exact hn353_6) (.bool ((rd_T34 l0 x5_1).f6))).trans hx353_4; replace hx353_5 := (cell_far (p := ⟨gb352, 6, none⟩) (by first | (rw [add_block]; exact hn353_6) | (show (Addr.add _ _).block ≠ _; rw [add_block]; exact hn353_6) | exact hn353_6) (.bool ((rd_T34 l0 x5_1).f6))).trans hx353_5; replace hx353_6 := (cell_far (p := ⟨gb352, 6, none⟩) (by first | (rw [add_block]; exact hn353_6) | (show (Addr.add _ _).block ≠ _; rw [add_block]; exact hn353_6) | exact hn353_6) (.bool ((rd_T34 l0 x5_1).f6))).trans hx353_6; replace hx353_7 := (cell_far (p := ⟨gb352, 6, none⟩) (by first | (rw [add_block]; exact hn353_6) | (show (Addr.add _ _).block ≠ _; rw [add_block]; exact hn353_6) | exact hn353_6) (.bool ((rd_T34 l0 x5_1).f6))).trans hx353_7; replace hx353_8 := (cell_far (p := ⟨gb352, 6, none⟩) (by first | (rw [add_block]; exact hn353_6) | (show (Addr.add _ _).block ≠ _; rw [add_block]; exact hn353_6) | exact hn353_6) (.bool ((rd_T34 l0 x5_1).f6))).trans hx353_8; replace hx353_9 := (cell_far (p := ⟨gb352, 6, none⟩) (by first | (rw [add_block]; exact hn353_6) | (show (Addr.add _ _).block ≠ _; rw [add_block]; exact hn353_6) | exact hn353_6) (.bool ((rd_T34 l0 x5_1).f6))).trans hx353_9; replace hx353_0 := (cell_far (p := ⟨gb352, 7, none⟩) (by first | (rw [add_block]; exact hn353_7) | (show (Addr.add _ _).block ≠ _; rw [add_block]; exact hn353_7) | exact hn353_7) (.bool ((rd_T34 l0 x5_1).f7))).trans hx353_0; replace hx353_1 := (cell_far (p := ⟨gb352, 7, none⟩) (by first | (rw [add_block]; exact hn353_7) | (show (Addr.add _ _).block ≠ _; rw [add_block]; exact hn353_7) | exact hn353_7) (.bool ((rd_T34 l0 x5_1).f7))).trans hx353_1; replace hx353_2 := (cell_far (p := ⟨gb352, 7, none⟩) (by first | (rw [add_block]; exact hn353_7) | (show (Addr.add _ _).block ≠ _; rw [add_block]; exact hn353_7) | exact hn353_7) (.bool ((rd_T34 l0 x5_1).f7))).trans hx353_2; replace hx353_3 := (cell_far (p := ⟨gb352, 7, none⟩) (by first | (rw [add_block]; exact hn353_7) | (show (Addr.add _ _).block ≠ _; rw [add_block]; exact hn353_7) | exact hn353_7) (.bool ((rd_T34 l0 x5_1).f7))).trans hx353_3; replace hx353_4 := (cell_far (p := ⟨gb352, 7, none⟩) (by first | (rw [add_block]; exact hn353_7) | (show (Addr.add _ _).block ≠ _; rw [add_block]; exact hn353_7) | exact hn353_7) (.bool ((rd_T34 l0 x5_1).f7))).trans hx353_4; replace hx353_5 := (cell_far (p := ⟨gb352, 7, none⟩) (by first | (rw [add_block]; exact hn353_7) | (show (Addr.add _ _).block ≠ _; rw [add_block]; exact hn353_7) | exact hn353_7) (.bool ((rd_T34 l0 x5_1).f7))).trans hx353_5; replace hx353_6 := (cell_far (p := ⟨gb352, 7, none⟩) (by first | (rw [add_block]; exact hn353_7) | (show (Addr.add _ _).block ≠ _; rw [add_block]; exact hn353_7) | exact hn353_7) (.bool ((rd_T34 l0 x5_1).f7))).trans hx353_6; replace hx353_7 := (cell_far (p := ⟨gb352, 7, none⟩) (by first | (rw [add_block]; exact hn353_7) | (show (Addr.add _ _).block ≠ _; rw [add_block]; exact hn353_7) | exact hn353_7) (.bool ((rd_T34 l0 x5_1).f7))).trans hx353_7; replace hx353_8 := (cell_far (p := ⟨gb352, 7, none⟩) (by first | (rw [add_block]; exact hn353_7) | (show (Addr.add _ _).block ≠ _; rw [add_block]; exact hn353_7) | exact hn353_7) (.bool ((rd_T34 l0 x5_1).f7))).trans hx353_8; replace hx353_9 := (cell_far (p := ⟨gb352, 7, none⟩) (by first | (rw [add_block]; exact hn353_7) | (show (Addr.add _ _).block ≠ _; rw [add_block]; exact hn353_7) | exact hn353_7) (.bool ((rd_T34 l0 x5_1).f7))).trans hx353_9; replace hx353_0 := (cell_far (p := ⟨gb352, 8, none⟩) (by first | (rw [add_block]; exact hn353_8) | (show (Addr.add _ _).block ≠ _; rw [add_block]; exact hn353_8) | exact hn353_8) (.bool ((rd_T34 l0 x5_1).f8))).trans hx353_0; replace hx353_1 := (cell_far (p := ⟨gb352, 8, none⟩) (by first | (rw [add_block]; exact hn353_8) | (show (Addr.add _ _).block ≠ _; rw [add_block]; exact hn353_8) | exact hn353_8) (.bool ((rd_T34 l0 x5_1).f8))).trans hx353_1; replace hx353_2 := (cell_far (p := ⟨gb352, 8, none⟩) (by first | (rw [add_block]; exact hn353_8) | (show (Addr.add _ _).block ≠ _; rw [add_block]; exact hn353_8) | exact hn353_8) (.bool ((rd_T34 l0 x5_1).f8))).trans hx353_2; replace hx353_3 := (cell_far (p := ⟨gb352, 8, none⟩) (by first | (rw [add_block]; exact hn353_8) | (show (Addr.add _ _).block ≠ _; rw [add_block]; exact hn353_8) | exact hn353_8) (.bool ((rd_T34 l0 x5_1).f8))).trans hx353_3; replace hx353_4 := (cell_far (p := ⟨gb352, 8, none⟩) (by first | (rw [add_block]; exact hn353_8) | (show (Addr.add _ _).block ≠ _; rw [add_block]; exact hn353_8) | exact hn353_8) (.bool ((rd_T34 l0 x5_1).f8))).trans hx353_4; replace hx353_5 := (cell_far (p := ⟨gb352, 8, none⟩) (by first | (rw [add_block]; exact hn353_8) | (show (Addr.add _ _).block ≠ _; rw [add_block]; exact hn353_8) | exact hn353_8) (.bool ((rd_T34 l0 x5_1).f8))).trans hx353_5; replace hx353_6 := (cell_far (p := ⟨gb352, 8, none⟩) (by first | (rw [add_block]; exact hn353_8) | (show (Addr.add _ _).block ≠ _; rw [add_block]; exact hn353_8) | exact hn353_8) (.bool ((rd_T34 l0 x5_1).f8))).trans hx353_6; replace hx353_7 := (cell_far (p := ⟨gb352, 8, none⟩) (by first | (rw [add_block]; exact hn353_8) | (show (Addr.add _ _).block ≠ _; rw [add_block]; exact hn353_8) | exact hn353_8) (.bool ((rd_T34 l0 x5_1).f8))).trans hx353_7; replace hx353_8 := (cell_far (p := ⟨gb352, 8, none⟩) (by first | (rw [add_block]; exact hn353_8) | (show (Addr.add _ _).block ≠ _; rw [add_block]; exact hn353_8) | exact hn353_8) (.bool ((rd_T34 l0 x5_1).f8))).trans hx353_8; replace hx353_9 := (cell_far (p := ⟨gb352, 8, none⟩) (by first | (rw [add_block]; exact hn353_8) | (show (Addr.add _ _).block ≠ _; rw [add_block]; exact hn353_8) | exact hn353_8) (.bool ((rd_T34 l0 x5_1).f8))).trans hx353_9; replace hx353_0 := (cell_far (p := ⟨gb352, 9, none⟩) (by first | (rw [add_block]; exact hn353_9) | (show (Addr.add _ _).block ≠ _; rw [add_block]; exact hn353_9) | exact hn353_9) (.int .u8 ((rd_T34 l0 x5_1).f9))).trans hx353_0; replace hx353_1 := (cell_far (p := ⟨gb352, 9, none⟩) (by first | (rw [add_block]; exact hn353_9) | (show (Addr.add _ _).block ≠ _; rw [add_block]; exact hn353_9) | exact hn353_9) (.int .u8 ((rd_T34 l0 x5_1).f9))).trans hx353_1; replace hx353_2 := (cell_far (p := ⟨gb352, 9, none⟩) (by first | (rw [add_block]; exact hn353_9) | (show (Addr.add _ _).block ≠ _; rw [add_block]; exact hn353_9) | exact hn353_9) (.int .u8 ((rd_T34 l0 x5_1).f9))).trans hx353_2; replace hx353_3 := (cell_far (p := ⟨gb352, 9, none⟩) (by first | (rw [add_block]; exact hn353_9) | (show (Addr.add _ _).block ≠ _; rw [add_block]; exact hn353_9) | exact hn353_9) (.int .u8 ((rd_T34 l0 x5_1).f9))).trans hx353_3; replace hx353_4 := (cell_far (p := ⟨gb352, 9, none⟩) (by first | (rw [add_block]; exact hn353_9) | (show (Addr.add _ _).block ≠ _; rw [add_block]; exact hn353_9) | exact hn353_9) (.int .u8 ((rd_T34 l0 x5_1).f9))).trans hx353_4; replace hx353_5 := (cell_far (p := ⟨gb352, 9, none⟩) (by first | (rw [add_block]; exact hn353_9) | (show (Addr.add _ _).block ≠ _; rw [add_block]; exact hn353_9) | exact hn353_9) (.int .u8 ((rd_T34 l0 x5_1).f9))).trans hx353_5; replace hx353_6 := (cell_far (p := ⟨gb352, 9, none⟩) (by first | (rw [add_block]; exact hn353_9) | (show (Addr.add _ _).block ≠ _; rw [add_block]; exact hn353_9) | exact hn353_9) (.int .u8 ((rd_T34 l0 x5_1).f9))).trans hx353_6; replace hx353_7 := (cell_far (p := ⟨gb352, 9, none⟩) (by first | (rw [add_block]; exact hn353_9) | (show (Addr.add _ _).block ≠ _; rw [add_block]; exact hn353_9) | exact hn353_9) (.int .u8 ((rd_T34 l0 x5_1).f9))).trans hx353_7; replace hx353_8 := (cell_far (p := ⟨gb352, 9, none⟩) (by first | (rw [add_block]; exact hn353_9) | (show (Addr.add _ _).block ≠ _; rw [add_block]; exact hn353_9) | exact hn353_9) (.int .u8 ((rd_T34 l0 x5_1).f9))).trans hx353_8; replace hx353_9 := (cell_far (p := ⟨gb352, 9, none⟩) (by first | (rw [add_block]; exact hn353_9) | (show (Addr.add _ _).block ≠ _; rw [add_block]; exact hn353_9) | exact hn353_9) (.int .u8 ((rd_T34 l0 x5_1).f9))).trans hx353_9; clear hn353_0; clear hn353_1; clear hn353_2; clear hn353_3; clear hn353_4; clear hn353_5; clear hn353_6; clear hn353_7; clear hn353_8; clear hn353_9; replace p353 := eq_true p353; replace q353 := eq_true q353) | ((with_reducible refine gate_dst (N := 10) rfl ?_); (try (refine gate_guard (by rfl) ?_; dsimp only)); refine box_event ?hg (N := 10) ?hd (cs := #[.int .i64 0, .int .u16 0, .bool false, .bool false, .bool false, .bool false, .bool false, .bool false, .bool false, .int .u8 0]) (t := 34) ?hr ?_; (case hd => rfl); (case hg => rfl); (case hr => first | (go_simp; done) | (go_simp; rfl)); intro gb354 hg w14 hbox hb; have n0_ := Aside0.mk (blk_below (g := gb352) (o := .cells #[.int .i64 ((rd_T34 l0 x5_1).f0), .int .u16 ((rd_T34 l0 x5_1).f1), .bool ((rd_T34 l0 x5_1).f2), .bool ((rd_T34 l0 x5_1).f3), .bool ((rd_T34 l0 x5_1).f4), .bool ((rd_T34 l0 x5_1).f5), .bool ((rd_T34 l0 x5_1).f6), .bool ((rd_T34 l0 x5_1).f7), .bool ((rd_T34 l0 x5_1).f8), .int .u8 ((rd_T34 l0 x5_1).f9)] 34 (0, 0)) (by (with_reducible repeat (first | refine blk_drewN ?_ _ | refine blk_drew ?_ | refine blk_alloc ?_ _)); refine blk_put (cs := #[.int .i64 ((rd_T34 l0 x5_1).f0), .int .u16 ((rd_T34 l0 x5_1).f1), .bool ((rd_T34 l0 x5_1).f2), .bool ((rd_T34 l0 x5_1).f3), .bool ((rd_T34 l0 x5_1).f4), .bool ((rd_T34 l0 x5_1).f5), .bool ((rd_T34 l0 x5_1).f6), .bool ((rd_T34 l0 x5_1).f7), .bool ((rd_T34 l0 x5_1).f8), .int .u8 0]) ?_ 9 _ rfl; (with_reducible repeat (first | refine blk_drewN ?_ _ | refine blk_drew ?_ | refine blk_alloc ?_ _)); refine blk_put (cs := #[.int .i64 ((rd_T34 l0 x5_1).f0), .int .u16 ((rd_T34 l0 x5_1).f1), .bool ((rd_T34 l0 x5_1).f2), .bool ((rd_T34 l0 x5_1).f3), .bool ((rd_T34 l0 x5_1).f4), .bool ((rd_T34 l0 x5_1).f5), .bool ((rd_T34 l0 x5_1).f6), .bool ((rd_T34 l0 x5_1).f7), .bool false, .int .u8 0]) ?_ 8 _ rfl; (with_reducible repeat (first | refine blk_drewN ?_ _ | refine blk_drew ?_ | refine blk_alloc ?_ _)); refine blk_put (cs := #[.int .i64 ((rd_T34 l0 x5_1).f0), .int .u16 ((rd_T34 l0 x5_1).f1), .bool ((rd_T34 l0 x5_1).f2), .bool ((rd_T34 l0 x5_1).f3), .bool ((rd_T34 l0 x5_1).f4), .bool ((rd_T34 l0 x5_1).f5), .bool ((rd_T34 l0 x5_1).f6), .bool false, .bool false, .int .u8 0]) ?_ 7 _ rfl; (with_reducible repeat (first | refine blk_drewN ?_ _ | refine blk_drew ?_ | refine blk_alloc ?_ _)); refine blk_put (cs := #[.int .i64 ((rd_T34 l0 x5_1).f0), .int .u16 ((rd_T34 l0 x5_1).f1), .bool ((rd_T34 l0 x5_1).f2), .bool ((rd_T34 l0 x5_1).f3), .bool ((rd_T34 l0 x5_1).f4), .bool ((rd_T34 l0 x5_1).f5), .bool false, .bool false, .bool false, .int .u8 0]) ?_ 6 _ rfl; (with_reducible repeat (first | refine blk_drewN ?_ _ | refine blk_drew ?_ | refine blk_alloc ?_ _)); refine blk_put (cs := #[.int .i64 ((rd_T34 l0 x5_1).f0), .int .u16 ((rd_T34 l0 x5_1).f1), .bool ((rd_T34 l0 x5_1).f2), .bool ((rd_T34 l0 x5_1).f3), .bool ((rd_T34 l0 x5_1).f4), .bool false, .bool false, .bool false, .bool false, .int .u8 0]) ?_ 5 _ rfl; (with_reducible repeat (first | refine blk_drewN ?_ _ | refine blk_drew ?_ | refine blk_alloc ?_ _)); refine blk_put (cs := #[.int .i64 ((rd_T34 l0 x5_1).f0), .int .u16 ((rd_T34 l0 x5_1).f1), .bool ((rd_T34 l0 x5_1).f2), .bool ((rd_T34 l0 x5_1).f3), .bool false, .bool false, .bool false, .bool false, .bool false, .int .u8 0]) ?_ 4 _ rfl; (with_reducible repeat (first | refine blk_drewN ?_ _ | refine blk_drew ?_ | refine blk_alloc ?_ _)); refine blk_put (cs := #[.int .i64 ((rd_T34 l0 x5_1).f0), .int .u16 ((rd_T34 l0 x5_1).f1), .bool ((rd_T34 l0 x5_1).f2), .bool false, .bool false, .bool false, .bool false, .bool false, .bool false, .int .u8 0]) ?_ 3 _ rfl; (with_reducible repeat (first | refine blk_drewN ?_ _ | refine blk_drew ?_ | refine blk_alloc ?_ _)); refine blk_put (cs := #[.int .i64 ((rd_T34 l0 x5_1).f0), .int .u16 ((rd_T34 l0 x5_1).f1), .bool false, .bool false, .bool false, .bool false, .bool false, .bool false, .bool false, .int .u8 0]) ?_ 2 _ rfl; (with_reducible repeat (first | refine blk_drewN ?_ _ | refine blk_drew ?_ | refine blk_alloc ?_ _)); refine blk_put (cs := #[.int .i64 ((rd_T34 l0 x5_1).f0), .int .u16 0, .bool false, .bool false, .bool false, .bool false, .bool false, .bool false, .bool false, .int .u8 0]) ?_ 1 _ rfl; (with_reducible repeat (first | refine blk_drewN ?_ _ | refine blk_drew ?_ | refine blk_alloc ?_ _)); refine blk_put (cs := #[.int .i64 0, .int .u16 0, .bool false, .bool false, .bool false, .bool false, .bool false, .bool false, .bool false, .int .u8 0]) ?_ 0 _ rfl; (with_reducible repeat (first | refine blk_drewN ?_ _ | refine blk_drew ?_ | refine blk_alloc ?_ _)); exact BK352.out) hb); have n1_ := Aside0.mk (below_step (by repeat (first | (with_reducible first | exact HB.out | apply below_alloc | apply pw_below_drewN | apply below_drew1 | refine below_set ?_ GE352.out) | exact HB.out)) hb); have n2_ := Aside0.mk (hbox); have n3_ := Aside0.mk ((by rw [hg]; exact (below_size (by repeat (first | (with_reducible first | exact HB.out | apply below_alloc | apply pw_below_drewN | apply below_drew1 | refine below_set ?_ GE352.out) | exact HB.out))) : w.heap.size ≤ gb354)); have n4_ := Aside0.mk ((by rw [hg]; exact (below_size (by repeat (first | (with_reducible first | exact HB.out | apply below_alloc | apply pw_below_drewN | apply below_drew1 | refine below_set ?_ GE352.out) | exact HB.out))) : w.heap.size ≤ gb354)); have n5_ := Aside0.mk ((by rw [hg]; exact Nat.ne_of_lt (blk_lt (g := gb352) (o := .cells #[.int .i64 ((rd_T34 l0 x5_1).f0), .int .u16 ((rd_T34 l0 x5_1).f1), .bool ((rd_T34 l0 x5_1).f2), .bool ((rd_T34 l0 x5_1).f3), .bool ((rd_T34 l0 x5_1).f4), .bool ((rd_T34 l0 x5_1).f5), .bool ((rd_T34 l0 x5_1).f6), .bool ((rd_T34 l0 x5_1).f7), .bool ((rd_T34 l0 x5_1).f8), .int .u8 ((rd_T34 l0 x5_1).f9)] 34 (0, 0)) (by (with_reducible repeat (first | refine blk_drewN ?_ _ | refine blk_drew ?_ | refine blk_alloc ?_ _)); refine blk_put (cs := #[.int .i64 ((rd_T34 l0 x5_1).f0), .int .u16 ((rd_T34 l0 x5_1).f1), .bool ((rd_T34 l0 x5_1).f2), .bool ((rd_T34 l0 x5_1).f3), .bool ((rd_T34 l0 x5_1).f4), .bool ((rd_T34 l0 x5_1).f5), .bool ((rd_T34 l0 x5_1).f6), .bool ((rd_T34 l0 x5_1).f7), .bool ((rd_T34 l0 x5_1).f8), .int .u8 0]) ?_ 9 _ rfl; (with_reducible repeat (first | refine blk_drewN ?_ _ | refine blk_drew ?_ | refine blk_alloc ?_ _)); refine blk_put (cs := #[.int .i64 ((rd_T34 l0 x5_1).f0), .int .u16 ((rd_T34 l0 x5_1).f1), .bool ((rd_T34 l0 x5_1).f2), .bool ((rd_T34 l0 x5_1).f3), .bool ((rd_T34 l0 x5_1).f4), .bool ((rd_T34 l0 x5_1).f5), .bool ((rd_T34 l0 x5_1).f6), .bool ((rd_T34 l0 x5_1).f7), .bool false, .int .u8 0]) ?_ 8 _ rfl; (with_reducible repeat (first | refine blk_drewN ?_ _ | refine blk_drew ?_ | refine blk_alloc ?_ _)); refine blk_put (cs := #[.int .i64 ((rd_T34 l0 x5_1).f0), .int .u16 ((rd_T34 l0 x5_1).f1), .bool ((rd_T34 l0 x5_1).f2), .bool ((rd_T34 l0 x5_1).f3), .bool ((rd_T34 l0 x5_1).f4), .bool ((rd_T34 l0 x5_1).f5), .bool ((rd_T34 l0 x5_1).f6), .bool false, .bool false, .int .u8 0]) ?_ 7 _ rfl; (with_reducible repeat (first | refine blk_drewN ?_ _ | refine blk_drew ?_ | refine blk_alloc ?_ _)); refine blk_put (cs := #[.int .i64 ((rd_T34 l0 x5_1).f0), .int .u16 ((rd_T34 l0 x5_1).f1), .bool ((rd_T34 l0 x5_1).f2), .bool ((rd_T34 l0 x5_1).f3), .bool ((rd_T34 l0 x5_1).f4), .bool ((rd_T34 l0 x5_1).f5), .bool false, .bool false, .bool false, .int .u8 0]) ?_ 6 _ rfl; (with_reducible repeat (first | refine blk_drewN ?_ _ | refine blk_drew ?_ | refine blk_alloc ?_ _)); refine blk_put (cs := #[.int .i64 ((rd_T34 l0 x5_1).f0), .int .u16 ((rd_T34 l0 x5_1).f1), .bool ((rd_T34 l0 x5_1).f2), .bool ((rd_T34 l0 x5_1).f3), .bool ((rd_T34 l0 x5_1).f4), .bool false, .bool false, .bool false, .bool false, .int .u8 0]) ?_ 5 _ rfl; (with_reducible repeat (first | refine blk_drewN ?_ _ | refine blk_drew ?_ | refine blk_alloc ?_ _)); refine blk_put (cs := #[.int .i64 ((rd_T34 l0 x5_1).f0), .int .u16 ((rd_T34 l0 x5_1).f1), .bool ((rd_T34 l0 x5_1).f2), .bool ((rd_T34 l0 x5_1).f3), .bool false, .bool false, .bool false, .bool false, .bool false, .int .u8 0]) ?_ 4 _ rfl; (with_reducible repeat (first | refine blk_drewN ?_ _ | refine blk_drew ?_ | refine blk_alloc ?_ _)); refine blk_put (cs := #[.int .i64 ((rd_T34 l0 x5_1).f0), .int .u16 ((rd_T34 l0 x5_1).f1), .bool ((rd_T34 l0 x5_1).f2), .bool false, .bool false, .bool false, .bool false, .bool false, .bool false, .int .u8 0]) ?_ 3 _ rfl; (with_reducible repeat (first | refine blk_drewN ?_ _ | refine blk_drew ?_ | refine blk_alloc ?_ _)); refine blk_put (cs := #[.int .i64 ((rd_T34 l0 x5_1).f0), .int .u16 ((rd_T34 l0 x5_1).f1), .bool false, .bool false, .bool false, .bool false, .bool false, .bool false, .bool false, .int .u8 0]) ?_ 2 _ rfl; (with_reducible repeat (first | refine blk_drewN ?_ _ | refine blk_drew ?_ | refine blk_alloc ?_ _)); refine blk_put (cs := #[.int .i64 ((rd_T34 l0 x5_1).f0), .int .u16 0, .bool false, .bool false, .bool false, .bool false, .bool false, .bool false, .bool false, .int .u8 0]) ?_ 1 _ rfl; (with_reducible repeat (first | refine blk_drewN ?_ _ | refine blk_drew ?_ | refine blk_alloc ?_ _)); refine blk_put (cs := #[.int .i64 0, .int .u16 0, .bool false, .bool false, .bool false, .bool false, .bool false, .bool false, .bool false, .int .u8 0]) ?_ 0 _ rfl; (with_reducible repeat (first | refine blk_drewN ?_ _ | refine blk_drew ?_ | refine blk_alloc ?_ _)); exact BK352.out)) : gb352 ≠ gb354)); have n6_ := Aside0.mk ((by rw [hg]; exact Nat.ne_of_gt (blk_lt (g := gb352) (o := .cells #[.int .i64 ((rd_T34 l0 x5_1).f0), .int .u16 ((rd_T34 l0 x5_1).f1), .bool ((rd_T34 l0 x5_1).f2), .bool ((rd_T34 l0 x5_1).f3), .bool ((rd_T34 l0 x5_1).f4), .bool ((rd_T34 l0 x5_1).f5), .bool ((rd_T34 l0 x5_1).f6), .bool ((rd_T34 l0 x5_1).f7), .bool ((rd_T34 l0 x5_1).f8), .int .u8 ((rd_T34 l0 x5_1).f9)] 34 (0, 0)) (by (with_reducible repeat (first | refine blk_drewN ?_ _ | refine blk_drew ?_ | refine blk_alloc ?_ _)); refine blk_put (cs := #[.int .i64 ((rd_T34 l0 x5_1).f0), .int .u16 ((rd_T34 l0 x5_1).f1), .bool ((rd_T34 l0 x5_1).f2), .bool ((rd_T34 l0 x5_1).f3), .bool ((rd_T34 l0 x5_1).f4), .bool ((rd_T34 l0 x5_1).f5), .bool ((rd_T34 l0 x5_1).f6), .bool ((rd_T34 l0 x5_1).f7), .bool ((rd_T34 l0 x5_1).f8), .int .u8 0]) ?_ 9 _ rfl; (with_reducible repeat (first | refine blk_drewN ?_ _ | refine blk_drew ?_ | refine blk_alloc ?_ _)); refine blk_put (cs := #[.int .i64 ((rd_T34 l0 x5_1).f0), .int .u16 ((rd_T34 l0 x5_1).f1), .bool ((rd_T34 l0 x5_1).f2), .bool ((rd_T34 l0 x5_1).f3), .bool ((rd_T34 l0 x5_1).f4), .bool ((rd_T34 l0 x5_1).f5), .bool ((rd_T34 l0 x5_1).f6), .bool ((rd_T34 l0 x5_1).f7), .bool false, .int .u8 0]) ?_ 8 _ rfl; (with_reducible repeat (first | refine blk_drewN ?_ _ | refine blk_drew ?_ | refine blk_alloc ?_ _)); refine blk_put (cs := #[.int .i64 ((rd_T34 l0 x5_1).f0), .int .u16 ((rd_T34 l0 x5_1).f1), .bool ((rd_T34 l0 x5_1).f2), .bool ((rd_T34 l0 x5_1).f3), .bool ((rd_T34 l0 x5_1).f4), .bool ((rd_T34 l0 x5_1).f5), .bool ((rd_T34 l0 x5_1).f6), .bool false, .bool false, .int .u8 0]) ?_ 7 _ rfl; (with_reducible repeat (first | refine blk_drewN ?_ _ | refine blk_drew ?_ | refine blk_alloc ?_ _)); refine blk_put (cs := #[.int .i64 ((rd_T34 l0 x5_1).f0), .int .u16 ((rd_T34 l0 x5_1).f1), .bool ((rd_T34 l0 x5_1).f2), .bool ((rd_T34 l0 x5_1).f3), .bool ((rd_T34 l0 x5_1).f4), .bool ((rd_T34 l0 x5_1).f5), .bool false, .bool false, .bool false, .int .u8 0]) ?_ 6 _ rfl; (with_reducible repeat (first | refine blk_drewN ?_ _ | refine blk_drew ?_ | refine blk_alloc ?_ _)); refine blk_put (cs := #[.int .i64 ((rd_T34 l0 x5_1).f0), .int .u16 ((rd_T34 l0 x5_1).f1), .bool ((rd_T34 l0 x5_1).f2), .bool ((rd_T34 l0 x5_1).f3), .bool ((rd_T34 l0 x5_1).f4), .bool false, .bool false, .bool false, .bool false, .int .u8 0]) ?_ 5 _ rfl; (with_reducible repeat (first | refine blk_drewN ?_ _ | refine blk_drew ?_ | refine blk_alloc ?_ _)); refine blk_put (cs := #[.int .i64 ((rd_T34 l0 x5_1).f0), .int .u16 ((rd_T34 l0 x5_1).f1), .bool ((rd_T34 l0 x5_1).f2), .bool ((rd_T34 l0 x5_1).f3), .bool false, .bool false, .bool false, .bool false, .bool false, .int .u8 0]) ?_ 4 _ rfl; (with_reducible repeat (first | refine blk_drewN ?_ _ | refine blk_drew ?_ | refine blk_alloc ?_ _)); refine blk_put (cs := #[.int .i64 ((rd_T34 l0 x5_1).f0), .int .u16 ((rd_T34 l0 x5_1).f1), .bool ((rd_T34 l0 x5_1).f2), .bool false, .bool false, .bool false, .bool false, .bool false, .bool false, .int .u8 0]) ?_ 3 _ rfl; (with_reducible repeat (first | refine blk_drewN ?_ _ | refine blk_drew ?_ | refine blk_alloc ?_ _)); refine blk_put (cs := #[.int .i64 ((rd_T34 l0 x5_1).f0), .int .u16 ((rd_T34 l0 x5_1).f1), .bool false, .bool false, .bool false, .bool false, .bool false, .bool false, .bool false, .int .u8 0]) ?_ 2 _ rfl; (with_reducible repeat (first | refine blk_drewN ?_ _ | refine blk_drew ?_ | refine blk_alloc ?_ _)); refine blk_put (cs := #[.int .i64 ((rd_T34 l0 x5_1).f0), .int .u16 0, .bool false, .bool false, .bool false, .bool false, .bool false, .bool false, .bool false, .int .u8 0]) ?_ 1 _ rfl; (with_reducible repeat (first | refine blk_drewN ?_ _ | refine blk_drew ?_ | refine blk_alloc ?_ _)); refine blk_put (cs := #[.int .i64 0, .int .u16 0, .bool false, .bool false, .bool false, .bool false, .bool false, .bool false, .bool false, .int .u8 0]) ?_ 0 _ rfl; (with_reducible repeat (first | refine blk_drewN ?_ _ | refine blk_drew ?_ | refine blk_alloc ?_ _)); exact BK352.out)) : gb354 ≠ gb352)); clear BK352; clear HB; have BK352 := n0_; have HB := n1_; have BK354 := n2_; have GW354 := n3_; have GE354 := n4_; have NB352_354 := n5_; have NB354_352 := n6_; clear n0_ n1_ n2_ n3_ n4_ n5_ n6_; clear hb hbox hg; have hnb15 := NB354_352.out; have hnc15 := NB352_354.out; have hcz16_0 : w14.cell? ⟨gb354, 0, none⟩ = some (.int .i64 0) := (blk_cell BK354.out 0).trans rfl; have hcz16_1 : w14.cell? ⟨gb354, 1, none⟩ = some (.int .u16 0) := (blk_cell BK354.out 1).trans rfl; have hcz16_2 : w14.cell? ⟨gb354, 2, none⟩ = some (.bool false) := (blk_cell BK354.out 2).trans rfl; have hcz16_3 : w14.cell? ⟨gb354, 3, none⟩ = some (.bool false) := (blk_cell BK354.out 3).trans rfl; have hcz16_4 : w14.cell? ⟨gb354, 4, none⟩ = some (.bool false) := (blk_cell BK354.out 4).trans rfl; have hcz16_5 : w14.cell? ⟨gb354, 5, none⟩ = some (.bool false) := (blk_cell BK354.out 5).trans rfl; have hcz16_6 : w14.cell? ⟨gb354, 6, none⟩ = some (.bool false) := (blk_cell BK354.out 6).trans rfl; have hcz16_7 : w14.cell? ⟨gb354, 7, none⟩ = some (.bool false) := (blk_cell BK354.out 7).trans rfl; have hcz16_8 : w14.cell? ⟨gb354, 8, none⟩ = some (.bool false) := (blk_cell BK354.out 8).trans rfl; have hcz16_9 : w14.cell? ⟨gb354, 9, none⟩ = some (.int .u8 0) := (blk_cell BK354.out 9).trans rfl; have hfz16_0 := blk_frozen BK354.out 0; have hfz16_1 := blk_frozen BK354.out 1; have hfz16_2 := blk_frozen BK354.out 2; have hfz16_3 := blk_frozen BK354.out 3; have hfz16_4 := blk_frozen BK354.out 4; have hfz16_5 := blk_frozen BK354.out 5; have hfz16_6 := blk_frozen BK354.out 6; have hfz16_7 := blk_frozen BK354.out 7; have hfz16_8 := blk_frozen BK354.out 8; have hfz16_9 := blk_frozen BK354.out 9; have hcz17_0 : w14.cell? ⟨gb352, 0, none⟩ = some (.int .i64 ((rd_T34 l0 x5_1).f0)) := (blk_cell BK352.out 0).trans rfl; have hcz17_1 : w14.cell? ⟨gb352, 1, none⟩ = some (.int .u16 ((rd_T34 l0 x5_1).f1)) := (blk_cell BK352.out 1).trans rfl; have hcz17_2 : w14.cell? ⟨gb352, 2, none⟩ = some (.bool ((rd_T34 l0 x5_1).f2)) := (blk_cell BK352.out 2).trans rfl; have hcz17_3 : w14.cell? ⟨gb352, 3, none⟩ = some (.bool ((rd_T34 l0 x5_1).f3)) := (blk_cell BK352.out 3).trans rfl; have hcz17_4 : w14.cell? ⟨gb352, 4, none⟩ = some (.bool ((rd_T34 l0 x5_1).f4)) := (blk_cell BK352.out 4).trans rfl; have hcz17_5 : w14.cell? ⟨gb352, 5, none⟩ = some (.bool ((rd_T34 l0 x5_1).f5)) := (blk_cell BK352.out 5).trans rfl; have hcz17_6 : w14.cell? ⟨gb352, 6, none⟩ = some (.bool ((rd_T34 l0 x5_1).f6)) := (blk_cell BK352.out 6).trans rfl; have hcz17_7 : w14.cell? ⟨gb352, 7, none⟩ = some (.bool ((rd_T34 l0 x5_1).f7)) := (blk_cell BK352.out 7).trans rfl; have hcz17_8 : w14.cell? ⟨gb352, 8, none⟩ = some (.bool ((rd_T34 l0 x5_1).f8)) := (blk_cell BK352.out 8).trans rfl; have hcz17_9 : w14.cell? ⟨gb352, 9, none⟩ = some (.int .u8 ((rd_T34 l0 x5_1).f9)) := (blk_cell BK352.out 9).trans rfl; have hfz17_0 := blk_frozen BK352.out 0; have hfz17_1 := blk_frozen BK352.out 1; have hfz17_2 := blk_frozen BK352.out 2; have hfz17_3 := blk_frozen BK352.out 3; have hfz17_4 := blk_frozen BK352.out 4; have hfz17_5 := blk_frozen BK352.out 5; have hfz17_6 := blk_frozen BK352.out 6; have hfz17_7 := blk_frozen BK352.out 7; have hfz17_8 := blk_frozen BK352.out 8; have hfz17_9 := blk_frozen BK352.out 9))
                    (try simp only [Act.put, List.setIfInBounds_toArray, List.set_cons_zero, List.set_cons_succ])
                    go_cut [47] (fun v47 wc => ∃ (kq : Nat) (x47_10 : Bool), v47 = .bool x47_10 ∧ Aside0 (vesperlaw07_flat.j2 kq l0 l1 x5_1 x6_1 x7_1 x8_1 ji10 x47_10 = some r) ∧ Aside0 (kq ≤ kj2) ∧ Aside0 (wc.heap[gb352]? = some (.cells #[.int .i64 0, .int .u16 ((rd_T34 l0 x5_1).f1), .bool ((rd_T34 l0 x5_1).f2), .bool ((rd_T34 l0 x5_1).f3), .bool ((rd_T34 l0 x5_1).f4), .bool ((rd_T34 l0 x5_1).f5), .bool ((rd_T34 l0 x5_1).f6), .bool ((rd_T34 l0 x5_1).f7), .bool ((rd_T34 l0 x5_1).f8), .int .u8 ((rd_T34 l0 x5_1).f9)] 34 (0, 0))) ∧ Aside0 (wc.heap[gb354]? = some (.cells #[.int .i64 0, .int .u16 ((rd_T34 l1 x6_1).f1), .bool ((rd_T34 l1 x6_1).f2), .bool ((rd_T34 l1 x6_1).f3), .bool ((rd_T34 l1 x6_1).f4), .bool ((rd_T34 l1 x6_1).f5), .bool ((rd_T34 l1 x6_1).f6), .bool ((rd_T34 l1 x6_1).f7), .bool ((rd_T34 l1 x6_1).f8), .int .u8 ((rd_T34 l1 x6_1).f9)] 34 (0, 0))) ∧ Aside0 (Below w.heap.size w wc))
                    case first =>
                      have H := HC11.out
                      clear HC11
                      by_cases c18 : (ji10) < 1
                      · rw [if_pos c18] at H
                        have c18b0 : decide ((ji10) < 1) = true := decide_eq_true c18
                        clear c18
                        (first | rw [c18b0] | (simp only [i64_w, i32_w]; rw [c18b0]) | skip)
                        have H' := Aside0.mk H
                        clear H
                        go_wp2
                        go_meet
                        case rel => exact ⟨_, (true), (by first | rfl | (simp; done) | (simp [*]; done)), H', ⟨by have := HK1.out; have := HJ2.out; first | omega | exact Nat.le_refl _⟩, ⟨by (with_reducible repeat (first | refine blk_drewN ?_ _ | refine blk_drew ?_ | refine blk_alloc ?_ _)); refine blk_far ?_ NB352_354.out _; (with_reducible repeat (first | refine blk_drewN ?_ _ | refine blk_drew ?_ | refine blk_alloc ?_ _)); refine blk_put (cs := #[.int .i64 ((rd_T34 l0 x5_1).f0), .int .u16 ((rd_T34 l0 x5_1).f1), .bool ((rd_T34 l0 x5_1).f2), .bool ((rd_T34 l0 x5_1).f3), .bool ((rd_T34 l0 x5_1).f4), .bool ((rd_T34 l0 x5_1).f5), .bool ((rd_T34 l0 x5_1).f6), .bool ((rd_T34 l0 x5_1).f7), .bool ((rd_T34 l0 x5_1).f8), .int .u8 ((rd_T34 l0 x5_1).f9)]) ?_ 0 _ rfl; (with_reducible repeat (first | refine blk_drewN ?_ _ | refine blk_drew ?_ | refine blk_alloc ?_ _)); refine blk_far ?_ NB352_354.out _; (with_reducible repeat (first | refine blk_drewN ?_ _ | refine blk_drew ?_ | refine blk_alloc ?_ _)); refine blk_far ?_ NB352_354.out _; (with_reducible repeat (first | refine blk_drewN ?_ _ | refine blk_drew ?_ | refine blk_alloc ?_ _)); refine blk_far ?_ NB352_354.out _; (with_reducible repeat (first | refine blk_drewN ?_ _ | refine blk_drew ?_ | refine blk_alloc ?_ _)); refine blk_far ?_ NB352_354.out _; (with_reducible repeat (first | refine blk_drewN ?_ _ | refine blk_drew ?_ | refine blk_alloc ?_ _)); refine blk_far ?_ NB352_354.out _; (with_reducible repeat (first | refine blk_drewN ?_ _ | refine blk_drew ?_ | refine blk_alloc ?_ _)); refine blk_far ?_ NB352_354.out _; (with_reducible repeat (first | refine blk_drewN ?_ _ | refine blk_drew ?_ | refine blk_alloc ?_ _)); refine blk_far ?_ NB352_354.out _; (with_reducible repeat (first | refine blk_drewN ?_ _ | refine blk_drew ?_ | refine blk_alloc ?_ _)); refine blk_far ?_ NB352_354.out _; (with_reducible repeat (first | refine blk_drewN ?_ _ | refine blk_drew ?_ | refine blk_alloc ?_ _)); refine blk_far ?_ NB352_354.out _; (with_reducible repeat (first | refine blk_drewN ?_ _ | refine blk_drew ?_ | refine blk_alloc ?_ _)); refine blk_far ?_ NB352_354.out _; (with_reducible repeat (first | refine blk_drewN ?_ _ | refine blk_drew ?_ | refine blk_alloc ?_ _)); exact BK352.out⟩, ⟨by (with_reducible repeat (first | refine blk_drewN ?_ _ | refine blk_drew ?_ | refine blk_alloc ?_ _)); refine blk_put (cs := #[.int .i64 ((rd_T34 l1 x6_1).f0), .int .u16 ((rd_T34 l1 x6_1).f1), .bool ((rd_T34 l1 x6_1).f2), .bool ((rd_T34 l1 x6_1).f3), .bool ((rd_T34 l1 x6_1).f4), .bool ((rd_T34 l1 x6_1).f5), .bool ((rd_T34 l1 x6_1).f6), .bool ((rd_T34 l1 x6_1).f7), .bool ((rd_T34 l1 x6_1).f8), .int .u8 ((rd_T34 l1 x6_1).f9)]) ?_ 0 _ rfl; (with_reducible repeat (first | refine blk_drewN ?_ _ | refine blk_drew ?_ | refine blk_alloc ?_ _)); refine blk_far ?_ NB354_352.out _; (with_reducible repeat (first | refine blk_drewN ?_ _ | refine blk_drew ?_ | refine blk_alloc ?_ _)); refine blk_put (cs := #[.int .i64 ((rd_T34 l1 x6_1).f0), .int .u16 ((rd_T34 l1 x6_1).f1), .bool ((rd_T34 l1 x6_1).f2), .bool ((rd_T34 l1 x6_1).f3), .bool ((rd_T34 l1 x6_1).f4), .bool ((rd_T34 l1 x6_1).f5), .bool ((rd_T34 l1 x6_1).f6), .bool ((rd_T34 l1 x6_1).f7), .bool ((rd_T34 l1 x6_1).f8), .int .u8 0]) ?_ 9 _ rfl; (with_reducible repeat (first | refine blk_drewN ?_ _ | refine blk_drew ?_ | refine blk_alloc ?_ _)); refine blk_put (cs := #[.int .i64 ((rd_T34 l1 x6_1).f0), .int .u16 ((rd_T34 l1 x6_1).f1), .bool ((rd_T34 l1 x6_1).f2), .bool ((rd_T34 l1 x6_1).f3), .bool ((rd_T34 l1 x6_1).f4), .bool ((rd_T34 l1 x6_1).f5), .bool ((rd_T34 l1 x6_1).f6), .bool ((rd_T34 l1 x6_1).f7), .bool false, .int .u8 0]) ?_ 8 _ rfl; (with_reducible repeat (first | refine blk_drewN ?_ _ | refine blk_drew ?_ | refine blk_alloc ?_ _)); refine blk_put (cs := #[.int .i64 ((rd_T34 l1 x6_1).f0), .int .u16 ((rd_T34 l1 x6_1).f1), .bool ((rd_T34 l1 x6_1).f2), .bool ((rd_T34 l1 x6_1).f3), .bool ((rd_T34 l1 x6_1).f4), .bool ((rd_T34 l1 x6_1).f5), .bool ((rd_T34 l1 x6_1).f6), .bool false, .bool false, .int .u8 0]) ?_ 7 _ rfl; (with_reducible repeat (first | refine blk_drewN ?_ _ | refine blk_drew ?_ | refine blk_alloc ?_ _)); refine blk_put (cs := #[.int .i64 ((rd_T34 l1 x6_1).f0), .int .u16 ((rd_T34 l1 x6_1).f1), .bool ((rd_T34 l1 x6_1).f2), .bool ((rd_T34 l1 x6_1).f3), .bool ((rd_T34 l1 x6_1).f4), .bool ((rd_T34 l1 x6_1).f5), .bool false, .bool false, .bool false, .int .u8 0]) ?_ 6 _ rfl; (with_reducible repeat (first | refine blk_drewN ?_ _ | refine blk_drew ?_ | refine blk_alloc ?_ _)); refine blk_put (cs := #[.int .i64 ((rd_T34 l1 x6_1).f0), .int .u16 ((rd_T34 l1 x6_1).f1), .bool ((rd_T34 l1 x6_1).f2), .bool ((rd_T34 l1 x6_1).f3), .bool ((rd_T34 l1 x6_1).f4), .bool false, .bool false, .bool false, .bool false, .int .u8 0]) ?_ 5 _ rfl; (with_reducible repeat (first | refine blk_drewN ?_ _ | refine blk_drew ?_ | refine blk_alloc ?_ _)); refine blk_put (cs := #[.int .i64 ((rd_T34 l1 x6_1).f0), .int .u16 ((rd_T34 l1 x6_1).f1), .bool ((rd_T34 l1 x6_1).f2), .bool ((rd_T34 l1 x6_1).f3), .bool false, .bool false, .bool false, .bool false, .bool false, .int .u8 0]) ?_ 4 _ rfl; (with_reducible repeat (first | refine blk_drewN ?_ _ | refine blk_drew ?_ | refine blk_alloc ?_ _)); refine blk_put (cs := #[.int .i64 ((rd_T34 l1 x6_1).f0), .int .u16 ((rd_T34 l1 x6_1).f1), .bool ((rd_T34 l1 x6_1).f2), .bool false, .bool false, .bool false, .bool false, .bool false, .bool false, .int .u8 0]) ?_ 3 _ rfl; (with_reducible repeat (first | refine blk_drewN ?_ _ | refine blk_drew ?_ | refine blk_alloc ?_ _)); refine blk_put (cs := #[.int .i64 ((rd_T34 l1 x6_1).f0), .int .u16 ((rd_T34 l1 x6_1).f1), .bool false, .bool false, .bool false, .bool false, .bool false, .bool false, .bool false, .int .u8 0]) ?_ 2 _ rfl; (with_reducible repeat (first | refine blk_drewN ?_ _ | refine blk_drew ?_ | refine blk_alloc ?_ _)); refine blk_put (cs := #[.int .i64 ((rd_T34 l1 x6_1).f0), .int .u16 0, .bool false, .bool false, .bool false, .bool false, .bool false, .bool false, .bool false, .int .u8 0]) ?_ 1 _ rfl; (with_reducible repeat (first | refine blk_drewN ?_ _ | refine blk_drew ?_ | refine blk_alloc ?_ _)); refine blk_put (cs := #[.int .i64 0, .int .u16 0, .bool false, .bool false, .bool false, .bool false, .bool false, .bool false, .bool false, .int .u8 0]) ?_ 0 _ rfl; (with_reducible repeat (first | refine blk_drewN ?_ _ | refine blk_drew ?_ | refine blk_alloc ?_ _)); exact BK354.out⟩, ⟨by repeat (first | (with_reducible first | exact HB.out | apply below_alloc | apply pw_below_drewN | apply below_drew1 | refine below_set ?_ GE352.out | refine below_set ?_ GE354.out) | exact HB.out)⟩⟩
                      · rw [if_neg c18] at H
                        have c18b0 : decide ((ji10) < 1) = false := decide_eq_false c18
                        clear c18
                        (first | rw [c18b0] | (simp only [i64_w, i32_w]; rw [c18b0]) | skip)
                        have H' := Aside0.mk H
                        clear H
                        have hnb19 := NB352_354.out
                        have hnc19 := NB354_352.out
                        have hcz20_0 : w14.cell? ⟨gb352, 0, none⟩ = some (.int .i64 ((rd_T34 l0 x5_1).f0)) := (blk_cell BK352.out 0).trans rfl
                        have hcz20_1 : w14.cell? ⟨gb352, 1, none⟩ = some (.int .u16 ((rd_T34 l0 x5_1).f1)) := (blk_cell BK352.out 1).trans rfl
                        have hcz20_2 : w14.cell? ⟨gb352, 2, none⟩ = some (.bool ((rd_T34 l0 x5_1).f2)) := (blk_cell BK352.out 2).trans rfl
                        have hcz20_3 : w14.cell? ⟨gb352, 3, none⟩ = some (.bool ((rd_T34 l0 x5_1).f3)) := (blk_cell BK352.out 3).trans rfl
                        have hcz20_4 : w14.cell? ⟨gb352, 4, none⟩ = some (.bool ((rd_T34 l0 x5_1).f4)) := (blk_cell BK352.out 4).trans rfl
                        have hcz20_5 : w14.cell? ⟨gb352, 5, none⟩ = some (.bool ((rd_T34 l0 x5_1).f5)) := (blk_cell BK352.out 5).trans rfl
                        have hcz20_6 : w14.cell? ⟨gb352, 6, none⟩ = some (.bool ((rd_T34 l0 x5_1).f6)) := (blk_cell BK352.out 6).trans rfl
                        have hcz20_7 : w14.cell? ⟨gb352, 7, none⟩ = some (.bool ((rd_T34 l0 x5_1).f7)) := (blk_cell BK352.out 7).trans rfl
                        have hcz20_8 : w14.cell? ⟨gb352, 8, none⟩ = some (.bool ((rd_T34 l0 x5_1).f8)) := (blk_cell BK352.out 8).trans rfl
                        have hcz20_9 : w14.cell? ⟨gb352, 9, none⟩ = some (.int .u8 ((rd_T34 l0 x5_1).f9)) := (blk_cell BK352.out 9).trans rfl
                        have hfz20_0 := blk_frozen BK352.out 0
                        have hfz20_1 := blk_frozen BK352.out 1
                        have hfz20_2 := blk_frozen BK352.out 2
                        have hfz20_3 := blk_frozen BK352.out 3
                        have hfz20_4 := blk_frozen BK352.out 4
                        have hfz20_5 := blk_frozen BK352.out 5
                        have hfz20_6 := blk_frozen BK352.out 6
                        have hfz20_7 := blk_frozen BK352.out 7
                        have hfz20_8 := blk_frozen BK352.out 8
                        have hfz20_9 := blk_frozen BK352.out 9
                        have hcz21_0 : w14.cell? ⟨gb354, 0, none⟩ = some (.int .i64 0) := (blk_cell BK354.out 0).trans rfl
                        have hcz21_1 : w14.cell? ⟨gb354, 1, none⟩ = some (.int .u16 0) := (blk_cell BK354.out 1).trans rfl
                        have hcz21_2 : w14.cell? ⟨gb354, 2, none⟩ = some (.bool false) := (blk_cell BK354.out 2).trans rfl
                        have hcz21_3 : w14.cell? ⟨gb354, 3, none⟩ = some (.bool false) := (blk_cell BK354.out 3).trans rfl
                        have hcz21_4 : w14.cell? ⟨gb354, 4, none⟩ = some (.bool false) := (blk_cell BK354.out 4).trans rfl
                        have hcz21_5 : w14.cell? ⟨gb354, 5, none⟩ = some (.bool false) := (blk_cell BK354.out 5).trans rfl
                        have hcz21_6 : w14.cell? ⟨gb354, 6, none⟩ = some (.bool false) := (blk_cell BK354.out 6).trans rfl
                        have hcz21_7 : w14.cell? ⟨gb354, 7, none⟩ = some (.bool false) := (blk_cell BK354.out 7).trans rfl
                        have hcz21_8 : w14.cell? ⟨gb354, 8, none⟩ = some (.bool false) := (blk_cell BK354.out 8).trans rfl
                        have hcz21_9 : w14.cell? ⟨gb354, 9, none⟩ = some (.int .u8 0) := (blk_cell BK354.out 9).trans rfl
                        have hfz21_0 := blk_frozen BK354.out 0
                        have hfz21_1 := blk_frozen BK354.out 1
                        have hfz21_2 := blk_frozen BK354.out 2
                        have hfz21_3 := blk_frozen BK354.out 3
                        have hfz21_4 := blk_frozen BK354.out 4
                        have hfz21_5 := blk_frozen BK354.out 5
                        have hfz21_6 := blk_frozen BK354.out 6
                        have hfz21_7 := blk_frozen BK354.out 7
                        have hfz21_8 := blk_frozen BK354.out 8
                        have hfz21_9 := blk_frozen BK354.out 9
                        go_wp2
                        go_meet
                        case rel => exact ⟨_, ((!(((rd_T34 l0 x5_1).f1) == ((rd_T34 l1 x6_1).f1)) || (!(((rd_T34 l0 x5_1).f2) == ((rd_T34 l1 x6_1).f2)) || (!(((rd_T34 l0 x5_1).f3) == ((rd_T34 l1 x6_1).f3)) || (!(((rd_T34 l0 x5_1).f4) == ((rd_T34 l1 x6_1).f4)) || (!(((rd_T34 l0 x5_1).f5) == ((rd_T34 l1 x6_1).f5)) || (!(((rd_T34 l0 x5_1).f6) == ((rd_T34 l1 x6_1).f6)) || (!(((rd_T34 l0 x5_1).f7) == ((rd_T34 l1 x6_1).f7)) || (!(((rd_T34 l0 x5_1).f8) == ((rd_T34 l1 x6_1).f8)) || (!(((rd_T34 l0 x5_1).f9) == ((rd_T34 l1 x6_1).f9)))))))))))), (by first | rfl | (simp; done) | (simp [*]; done)), H', ⟨by have := HK1.out; have := HJ2.out; first | omega | exact Nat.le_refl _⟩, ⟨by (with_reducible repeat (first | refine blk_drewN ?_ _ | refine blk_drew ?_ | refine blk_alloc ?_ _)); refine blk_far ?_ NB352_354.out _; (with_reducible repeat (first | refine blk_drewN ?_ _ | refine blk_drew ?_ | refine blk_alloc ?_ _)); refine blk_put (cs := #[.int .i64 ((rd_T34 l0 x5_1).f0), .int .u16 ((rd_T34 l0 x5_1).f1), .bool ((rd_T34 l0 x5_1).f2), .bool ((rd_T34 l0 x5_1).f3), .bool ((rd_T34 l0 x5_1).f4), .bool ((rd_T34 l0 x5_1).f5), .bool ((rd_T34 l0 x5_1).f6), .bool ((rd_T34 l0 x5_1).f7), .bool ((rd_T34 l0 x5_1).f8), .int .u8 ((rd_T34 l0 x5_1).f9)]) ?_ 0 _ rfl; (with_reducible repeat (first | refine blk_drewN ?_ _ | refine blk_drew ?_ | refine blk_alloc ?_ _)); refine blk_far ?_ NB352_354.out _; (with_reducible repeat (first | refine blk_drewN ?_ _ | refine blk_drew ?_ | refine blk_alloc ?_ _)); refine blk_far ?_ NB352_354.out _; (with_reducible repeat (first | refine blk_drewN ?_ _ | refine blk_drew ?_ | refine blk_alloc ?_ _)); refine blk_far ?_ NB352_354.out _; (with_reducible repeat (first | refine blk_drewN ?_ _ | refine blk_drew ?_ | refine blk_alloc ?_ _)); refine blk_far ?_ NB352_354.out _; (with_reducible repeat (first | refine blk_drewN ?_ _ | refine blk_drew ?_ | refine blk_alloc ?_ _)); refine blk_far ?_ NB352_354.out _; (with_reducible repeat (first | refine blk_drewN ?_ _ | refine blk_drew ?_ | refine blk_alloc ?_ _)); refine blk_far ?_ NB352_354.out _; (with_reducible repeat (first | refine blk_drewN ?_ _ | refine blk_drew ?_ | refine blk_alloc ?_ _)); refine blk_far ?_ NB352_354.out _; (with_reducible repeat (first | refine blk_drewN ?_ _ | refine blk_drew ?_ | refine blk_alloc ?_ _)); refine blk_far ?_ NB352_354.out _; (with_reducible repeat (first | refine blk_drewN ?_ _ | refine blk_drew ?_ | refine blk_alloc ?_ _)); refine blk_far ?_ NB352_354.out _; (with_reducible repeat (first | refine blk_drewN ?_ _ | refine blk_drew ?_ | refine blk_alloc ?_ _)); refine blk_far ?_ NB352_354.out _; (with_reducible repeat (first | refine blk_drewN ?_ _ | refine blk_drew ?_ | refine blk_alloc ?_ _)); exact BK352.out⟩, ⟨by (with_reducible repeat (first | refine blk_drewN ?_ _ | refine blk_drew ?_ | refine blk_alloc ?_ _)); refine blk_put (cs := #[.int .i64 ((rd_T34 l1 x6_1).f0), .int .u16 ((rd_T34 l1 x6_1).f1), .bool ((rd_T34 l1 x6_1).f2), .bool ((rd_T34 l1 x6_1).f3), .bool ((rd_T34 l1 x6_1).f4), .bool ((rd_T34 l1 x6_1).f5), .bool ((rd_T34 l1 x6_1).f6), .bool ((rd_T34 l1 x6_1).f7), .bool ((rd_T34 l1 x6_1).f8), .int .u8 ((rd_T34 l1 x6_1).f9)]) ?_ 0 _ rfl; (with_reducible repeat (first | refine blk_drewN ?_ _ | refine blk_drew ?_ | refine blk_alloc ?_ _)); refine blk_far ?_ NB354_352.out _; (with_reducible repeat (first | refine blk_drewN ?_ _ | refine blk_drew ?_ | refine blk_alloc ?_ _)); refine blk_put (cs := #[.int .i64 ((rd_T34 l1 x6_1).f0), .int .u16 ((rd_T34 l1 x6_1).f1), .bool ((rd_T34 l1 x6_1).f2), .bool ((rd_T34 l1 x6_1).f3), .bool ((rd_T34 l1 x6_1).f4), .bool ((rd_T34 l1 x6_1).f5), .bool ((rd_T34 l1 x6_1).f6), .bool ((rd_T34 l1 x6_1).f7), .bool ((rd_T34 l1 x6_1).f8), .int .u8 0]) ?_ 9 _ rfl; (with_reducible repeat (first | refine blk_drewN ?_ _ | refine blk_drew ?_ | refine blk_alloc ?_ _)); refine blk_put (cs := #[.int .i64 ((rd_T34 l1 x6_1).f0), .int .u16 ((rd_T34 l1 x6_1).f1), .bool ((rd_T34 l1 x6_1).f2), .bool ((rd_T34 l1 x6_1).f3), .bool ((rd_T34 l1 x6_1).f4), .bool ((rd_T34 l1 x6_1).f5), .bool ((rd_T34 l1 x6_1).f6), .bool ((rd_T34 l1 x6_1).f7), .bool false, .int .u8 0]) ?_ 8 _ rfl; (with_reducible repeat (first | refine blk_drewN ?_ _ | refine blk_drew ?_ | refine blk_alloc ?_ _)); refine blk_put (cs := #[.int .i64 ((rd_T34 l1 x6_1).f0), .int .u16 ((rd_T34 l1 x6_1).f1), .bool ((rd_T34 l1 x6_1).f2), .bool ((rd_T34 l1 x6_1).f3), .bool ((rd_T34 l1 x6_1).f4), .bool ((rd_T34 l1 x6_1).f5), .bool ((rd_T34 l1 x6_1).f6), .bool false, .bool false, .int .u8 0]) ?_ 7 _ rfl; (with_reducible repeat (first | refine blk_drewN ?_ _ | refine blk_drew ?_ | refine blk_alloc ?_ _)); refine blk_put (cs := #[.int .i64 ((rd_T34 l1 x6_1).f0), .int .u16 ((rd_T34 l1 x6_1).f1), .bool ((rd_T34 l1 x6_1).f2), .bool ((rd_T34 l1 x6_1).f3), .bool ((rd_T34 l1 x6_1).f4), .bool ((rd_T34 l1 x6_1).f5), .bool false, .bool false, .bool false, .int .u8 0]) ?_ 6 _ rfl; (with_reducible repeat (first | refine blk_drewN ?_ _ | refine blk_drew ?_ | refine blk_alloc ?_ _)); refine blk_put (cs := #[.int .i64 ((rd_T34 l1 x6_1).f0), .int .u16 ((rd_T34 l1 x6_1).f1), .bool ((rd_T34 l1 x6_1).f2), .bool ((rd_T34 l1 x6_1).f3), .bool ((rd_T34 l1 x6_1).f4), .bool false, .bool false, .bool false, .bool false, .int .u8 0]) ?_ 5 _ rfl; (with_reducible repeat (first | refine blk_drewN ?_ _ | refine blk_drew ?_ | refine blk_alloc ?_ _)); refine blk_put (cs := #[.int .i64 ((rd_T34 l1 x6_1).f0), .int .u16 ((rd_T34 l1 x6_1).f1), .bool ((rd_T34 l1 x6_1).f2), .bool ((rd_T34 l1 x6_1).f3), .bool false, .bool false, .bool false, .bool false, .bool false, .int .u8 0]) ?_ 4 _ rfl; (with_reducible repeat (first | refine blk_drewN ?_ _ | refine blk_drew ?_ | refine blk_alloc ?_ _)); refine blk_put (cs := #[.int .i64 ((rd_T34 l1 x6_1).f0), .int .u16 ((rd_T34 l1 x6_1).f1), .bool ((rd_T34 l1 x6_1).f2), .bool false, .bool false, .bool false, .bool false, .bool false, .bool false, .int .u8 0]) ?_ 3 _ rfl; (with_reducible repeat (first | refine blk_drewN ?_ _ | refine blk_drew ?_ | refine blk_alloc ?_ _)); refine blk_put (cs := #[.int .i64 ((rd_T34 l1 x6_1).f0), .int .u16 ((rd_T34 l1 x6_1).f1), .bool false, .bool false, .bool false, .bool false, .bool false, .bool false, .bool false, .int .u8 0]) ?_ 2 _ rfl; (with_reducible repeat (first | refine blk_drewN ?_ _ | refine blk_drew ?_ | refine blk_alloc ?_ _)); refine blk_put (cs := #[.int .i64 ((rd_T34 l1 x6_1).f0), .int .u16 0, .bool false, .bool false, .bool false, .bool false, .bool false, .bool false, .bool false, .int .u8 0]) ?_ 1 _ rfl; (with_reducible repeat (first | refine blk_drewN ?_ _ | refine blk_drew ?_ | refine blk_alloc ?_ _)); refine blk_put (cs := #[.int .i64 0, .int .u16 0, .bool false, .bool false, .bool false, .bool false, .bool false, .bool false, .bool false, .int .u8 0]) ?_ 0 _ rfl; (with_reducible repeat (first | refine blk_drewN ?_ _ | refine blk_drew ?_ | refine blk_alloc ?_ _)); exact BK354.out⟩, ⟨by repeat (first | (with_reducible first | exact HB.out | apply below_alloc | apply pw_below_drewN | apply below_drew1 | refine below_set ?_ GE352.out | refine below_set ?_ GE354.out) | exact HB.out)⟩⟩
                    case rest =>
                      clear HC11
                      try clear c1
                      try clear p2
                      try clear c3
                      try clear p3
                      try clear q3
                      try clear hx3
                      try clear c4
                      try clear c4b0
                      try clear c5
                      try clear c6
                      try clear c6b0
                      try clear p6
                      try clear c7
                      try clear c7b0
                      try clear c8
                      try clear c8b0
                      try clear c9
                      try clear c9b0
                      try clear c15
                      try clear c18
                      try clear c18b0
                      try clear c19
                      try clear hcz13_0
                      try clear hcz13_1
                      try clear hcz13_2
                      try clear hcz13_3
                      try clear hcz13_4
                      try clear hcz13_5
                      try clear hcz13_6
                      try clear hcz13_7
                      try clear hcz13_8
                      try clear hcz13_9
                      try clear hcz16_0
                      try clear hcz16_1
                      try clear hcz16_2
                      try clear hcz16_3
                      try clear hcz16_4
                      try clear hcz16_5
                      try clear hcz16_6
                      try clear hcz16_7
                      try clear hcz16_8
                      try clear hcz16_9
                      try clear hcz17_0
                      try clear hcz17_1
                      try clear hcz17_2
                      try clear hcz17_3
                      try clear hcz17_4
                      try clear hcz17_5
                      try clear hcz17_6
                      try clear hcz17_7
                      try clear hcz17_8
                      try clear hcz17_9
                      try clear hcz20_0
                      try clear hcz20_1
                      try clear hcz20_2
                      try clear hcz20_3
                      try clear hcz20_4
                      try clear hcz20_5
                      try clear hcz20_6
                      try clear hcz20_7
                      try clear hcz20_8
                      try clear hcz20_9
                      try clear hcz21_0
                      try clear hcz21_1
                      try clear hcz21_2
                      try clear hcz21_3
                      try clear hcz21_4
                      try clear hcz21_5
                      try clear hcz21_6
                      try clear hcz21_7
                      try clear hcz21_8
                      try clear hcz21_9
                      try clear hfz13_0
                      try clear hfz13_1
                      try clear hfz13_2
                      try clear hfz13_3
                      try clear hfz13_4
                      try clear hfz13_5
                      try clear hfz13_6
                      try clear hfz13_7
                      try clear hfz13_8
                      try clear hfz13_9
                      try clear hfz16_0
                      try clear hfz16_1
                      try clear hfz16_2
                      try clear hfz16_3
                      try clear hfz16_4
                      try clear hfz16_5
                      try clear hfz16_6
                      try clear hfz16_7
                      try clear hfz16_8
                      try clear hfz16_9
                      try clear hfz17_0
                      try clear hfz17_1
                      try clear hfz17_2
                      try clear hfz17_3
                      try clear hfz17_4
                      try clear hfz17_5
                      try clear hfz17_6
                      try clear hfz17_7
                      try clear hfz17_8
                      try clear hfz17_9
                      try clear hfz20_0
                      try clear hfz20_1
                      try clear hfz20_2
                      try clear hfz20_3
                      try clear hfz20_4
                      try clear hfz20_5
                      try clear hfz20_6
                      try clear hfz20_7
                      try clear hfz20_8
                      try clear hfz20_9
                      try clear hfz21_0
                      try clear hfz21_1
                      try clear hfz21_2
                      try clear hfz21_3
                      try clear hfz21_4
                      try clear hfz21_5
                      try clear hfz21_6
                      try clear hfz21_7
                      try clear hfz21_8
                      try clear hfz21_9
                      try clear hx351_0
                      try clear hx351_1
                      try clear hx351_2
                      try clear hx351_3
                      try clear hx351_4
                      try clear hx351_5
                      try clear hx351_6
                      try clear hx351_7
                      try clear hx351_8
                      try clear hx351_9
                      try clear hx353_0
                      try clear hx353_1
                      try clear hx353_2
                      try clear hx353_3
                      try clear hx353_4
                      try clear hx353_5
                      try clear hx353_6
                      try clear hx353_7
                      try clear hx353_8
                      try clear hx353_9
                      try clear p2
                      try clear p351
                      try clear p353
                      try clear q351
                      try clear q353
                      obtain ⟨kq, x47_10, rfl, HA, HJ10, BK352, BK354, HB⟩ := hcut
                      cases kq with
                      | zero => exact absurd HA.out (by simp [vesperlaw07_flat.j2])
                      | succ kj10 =>
                        have H := HA.out
                        clear HA
                        simp only [vesperlaw07_flat.j2] at H
                        by_cases c22 : x47_10 = true
                        · subst c22
                          have H1 : (some false) = some r := by rw [if_pos rfl] at H; exact H
                          clear H
                          have H := H1
                          clear H1
                          obtain rfl := Option.some.inj H
                          go_wp2
                          go_ret
                          exact ⟨by first | rfl | (simp [errW_none, errW_some] <;> rfl) | (simp only [← hji10]; first | rfl | (simp [errW_none, errW_some] <;> rfl)) | (simp [*, errW_none, errW_some] <;> rfl), by repeat (first | (with_reducible first | exact HB.out | apply below_alloc | apply pw_below_drewN | apply below_drew1 | refine below_set ?_ GE352.out | refine below_set ?_ GE354.out) | exact HB.out)⟩
                        · replace c22 := Bool.eq_false_iff.mpr c22
                          subst c22
                          have H1 : (if 0 ≤ x5_1 then (if x5_1 < (l0.length : Int) then (if (wrap64 (x7_1 + ji10)) = ((rd_T34 l0 x5_1).f0) then (if 0 ≤ x6_1 then (if x6_1 < (l1.length : Int) then (if (wrap64 (x8_1 + ji10)) = ((rd_T34 l1 x6_1).f0) then (vesperlaw07_flat.l0 kj10 l0 l1 (wrap64 (x5_1 + 1)) (wrap64 (x6_1 + 1)) 0 0) else (vesperlaw07_flat.l0 kj10 l0 l1 (wrap64 (x5_1 + 1)) x6_1 0 (wrap64 (x8_1 + ji10)))) else (none)) else (none)) else (if 0 ≤ x6_1 then (if x6_1 < (l1.length : Int) then (if (wrap64 (x8_1 + ji10)) = ((rd_T34 l1 x6_1).f0) then (vesperlaw07_flat.l0 kj10 l0 l1 x5_1 (wrap64 (x6_1 + 1)) (wrap64 (x7_1 + ji10)) 0) else (vesperlaw07_flat.l0 kj10 l0 l1 x5_1 x6_1 (wrap64 (x7_1 + ji10)) (wrap64 (x8_1 + ji10)))) else (none)) else (none))) else (none)) else (none)) = some r := by rw [if_neg (show ¬ (false = true) by decide)] at H; exact H
                          clear H
                          have H := H1
                          clear H1
                          by_cases c23 : 0 ≤ x5_1
                          · rw [if_pos c23] at H
                            have c23b0 : decide (0 ≤ x5_1) = true := decide_eq_true c23
                            clear c23
                            by_cases c24 : x5_1 < (l0.length : Int)
                            · rw [if_pos c24] at H
                              have c24b0 : decide (x5_1 < (l0.length : Int)) = true := decide_eq_true c24
                              clear c24
                              by_cases c25 : (wrap64 (x7_1 + ji10)) = ((rd_T34 l0 x5_1).f0)
                              · rw [if_pos c25] at H
                                have c25b0 : ((wrap64 (x7_1 + ji10)) == ((rd_T34 l0 x5_1).f0)) = true := beq_iff_eq.mpr c25
                                have c25b1 : ((wrap64 (x7_1 + ji10)) != ((rd_T34 l0 x5_1).f0)) = false := bne_eq_false_iff_eq.mpr c25
                                clear c25
                                by_cases c26 : 0 ≤ x6_1
                                · rw [if_pos c26] at H
                                  have c26b0 : decide (0 ≤ x6_1) = true := decide_eq_true c26
                                  clear c26
                                  by_cases c27 : x6_1 < (l1.length : Int)
                                  · rw [if_pos c27] at H
                                    have c27b0 : decide (x6_1 < (l1.length : Int)) = true := decide_eq_true c27
                                    clear c27
                                    by_cases c28 : (wrap64 (x8_1 + ji10)) = ((rd_T34 l1 x6_1).f0)
                                    · rw [if_pos c28] at H
                                      have c28b0 : ((wrap64 (x8_1 + ji10)) == ((rd_T34 l1 x6_1).f0)) = true := beq_iff_eq.mpr c28
                                      have c28b1 : ((wrap64 (x8_1 + ji10)) != ((rd_T34 l1 x6_1).f0)) = false := bne_eq_false_iff_eq.mpr c28
                                      clear c28
                                      have H' := Aside0.mk H
                                      clear H
                                      have p355 : 0 ≤ (x5_1 : Int) := of_decide_eq_true (by first | (with_reducible assumption) | assumption)
                                      have q355 : x5_1 < (l0.length : Int) := of_decide_eq_true (by first | (with_reducible assumption) | assumption)
                                      obtain ⟨ad355, e355, hx355_0, hx355_1, hx355_2, hx355_3, hx355_4, hx355_5, hx355_6, hx355_7, hx355_8, hx355_9⟩ := at_T34 HR0.out x5_1 p355 q355
                                      obtain rfl : ad351 = ad355 := (by injection e355)
                                      replace hx355_0 := (HB.out.cell (World.block_lt_of_cell? w _ hx355_0)).trans hx355_0
                                      replace hx355_1 := (HB.out.cell (World.block_lt_of_cell? w _ hx355_1)).trans hx355_1
                                      replace hx355_2 := (HB.out.cell (World.block_lt_of_cell? w _ hx355_2)).trans hx355_2
                                      replace hx355_3 := (HB.out.cell (World.block_lt_of_cell? w _ hx355_3)).trans hx355_3
                                      replace hx355_4 := (HB.out.cell (World.block_lt_of_cell? w _ hx355_4)).trans hx355_4
                                      replace hx355_5 := (HB.out.cell (World.block_lt_of_cell? w _ hx355_5)).trans hx355_5
                                      replace hx355_6 := (HB.out.cell (World.block_lt_of_cell? w _ hx355_6)).trans hx355_6
                                      replace hx355_7 := (HB.out.cell (World.block_lt_of_cell? w _ hx355_7)).trans hx355_7
                                      replace hx355_8 := (HB.out.cell (World.block_lt_of_cell? w _ hx355_8)).trans hx355_8
                                      replace hx355_9 := (HB.out.cell (World.block_lt_of_cell? w _ hx355_9)).trans hx355_9
                                      replace p355 := eq_true p355
                                      replace q355 := eq_true q355
                                      have p356 : 0 ≤ (x6_1 : Int) := of_decide_eq_true (by first | (with_reducible assumption) | assumption)
                                      have q356 : x6_1 < (l1.length : Int) := of_decide_eq_true (by first | (with_reducible assumption) | assumption)
                                      obtain ⟨ad356, e356, hx356_0, hx356_1, hx356_2, hx356_3, hx356_4, hx356_5, hx356_6, hx356_7, hx356_8, hx356_9⟩ := at_T34 HR1.out x6_1 p356 q356
                                      obtain rfl : ad353 = ad356 := (by injection e356)
                                      replace hx356_0 := (HB.out.cell (World.block_lt_of_cell? w _ hx356_0)).trans hx356_0
                                      replace hx356_1 := (HB.out.cell (World.block_lt_of_cell? w _ hx356_1)).trans hx356_1
                                      replace hx356_2 := (HB.out.cell (World.block_lt_of_cell? w _ hx356_2)).trans hx356_2
                                      replace hx356_3 := (HB.out.cell (World.block_lt_of_cell? w _ hx356_3)).trans hx356_3
                                      replace hx356_4 := (HB.out.cell (World.block_lt_of_cell? w _ hx356_4)).trans hx356_4
                                      replace hx356_5 := (HB.out.cell (World.block_lt_of_cell? w _ hx356_5)).trans hx356_5
                                      replace hx356_6 := (HB.out.cell (World.block_lt_of_cell? w _ hx356_6)).trans hx356_6
                                      replace hx356_7 := (HB.out.cell (World.block_lt_of_cell? w _ hx356_7)).trans hx356_7
                                      replace hx356_8 := (HB.out.cell (World.block_lt_of_cell? w _ hx356_8)).trans hx356_8
                                      replace hx356_9 := (HB.out.cell (World.block_lt_of_cell? w _ hx356_9)).trans hx356_9
                                      replace p356 := eq_true p356
                                      replace q356 := eq_true q356
                                      go_wp2
                                      go_roundg kj10
                                      case measure => have := HK1.out; have := HJ2.out; have := HJ10.out; omega
                                      case rel => exact ⟨(wrap64 (x5_1 + 1)), (wrap64 (x6_1 + 1)), (0), (0), (by first | rfl | (simp; done) | (simp [*]; done)), (by first | rfl | (simp; done) | (simp [*]; done)), (by first | rfl | (simp; done) | (simp [*]; done)), (by first | rfl | (simp; done) | (simp [*]; done)), H', ⟨by have := HK1.out; have := HJ2.out; have := HJ10.out; omega⟩, ⟨by repeat (first | (with_reducible first | exact HB.out | apply below_alloc | apply pw_below_drewN | apply below_drew1 | refine below_set ?_ GE352.out | refine below_set ?_ GE354.out) | exact HB.out)⟩⟩
                                    · rw [if_neg c28] at H
                                      have c28b0 : ((wrap64 (x8_1 + ji10)) == ((rd_T34 l1 x6_1).f0)) = false := beq_eq_false_iff_ne.mpr c28
                                      have c28b1 : ((wrap64 (x8_1 + ji10)) != ((rd_T34 l1 x6_1).f0)) = true := bne_iff_ne.mpr c28
                                      have H' := Aside0.mk H
                                      clear H
                                      have p355 : 0 ≤ (x5_1 : Int) := of_decide_eq_true (by first | (with_reducible assumption) | assumption)
                                      have q355 : x5_1 < (l0.length : Int) := of_decide_eq_true (by first | (with_reducible assumption) | assumption)
                                      obtain ⟨ad355, e355, hx355_0, hx355_1, hx355_2, hx355_3, hx355_4, hx355_5, hx355_6, hx355_7, hx355_8, hx355_9⟩ := at_T34 HR0.out x5_1 p355 q355
                                      obtain rfl : ad351 = ad355 := (by injection e355)
                                      replace hx355_0 := (HB.out.cell (World.block_lt_of_cell? w _ hx355_0)).trans hx355_0
                                      replace hx355_1 := (HB.out.cell (World.block_lt_of_cell? w _ hx355_1)).trans hx355_1
                                      replace hx355_2 := (HB.out.cell (World.block_lt_of_cell? w _ hx355_2)).trans hx355_2
                                      replace hx355_3 := (HB.out.cell (World.block_lt_of_cell? w _ hx355_3)).trans hx355_3
                                      replace hx355_4 := (HB.out.cell (World.block_lt_of_cell? w _ hx355_4)).trans hx355_4
                                      replace hx355_5 := (HB.out.cell (World.block_lt_of_cell? w _ hx355_5)).trans hx355_5
                                      replace hx355_6 := (HB.out.cell (World.block_lt_of_cell? w _ hx355_6)).trans hx355_6
                                      replace hx355_7 := (HB.out.cell (World.block_lt_of_cell? w _ hx355_7)).trans hx355_7
                                      replace hx355_8 := (HB.out.cell (World.block_lt_of_cell? w _ hx355_8)).trans hx355_8
                                      replace hx355_9 := (HB.out.cell (World.block_lt_of_cell? w _ hx355_9)).trans hx355_9
                                      replace p355 := eq_true p355
                                      replace q355 := eq_true q355
                                      have p356 : 0 ≤ (x6_1 : Int) := of_decide_eq_true (by first | (with_reducible assumption) | assumption)
                                      have q356 : x6_1 < (l1.length : Int) := of_decide_eq_true (by first | (with_reducible assumption) | assumption)
                                      obtain ⟨ad356, e356, hx356_0, hx356_1, hx356_2, hx356_3, hx356_4, hx356_5, hx356_6, hx356_7, hx356_8, hx356_9⟩ := at_T34 HR1.out x6_1 p356 q356
                                      obtain rfl : ad353 = ad356 := (by injection e356)
                                      replace hx356_0 := (HB.out.cell (World.block_lt_of_cell? w _ hx356_0)).trans hx356_0
                                      replace hx356_1 := (HB.out.cell (World.block_lt_of_cell? w _ hx356_1)).trans hx356_1
                                      replace hx356_2 := (HB.out.cell (World.block_lt_of_cell? w _ hx356_2)).trans hx356_2
                                      replace hx356_3 := (HB.out.cell (World.block_lt_of_cell? w _ hx356_3)).trans hx356_3
                                      replace hx356_4 := (HB.out.cell (World.block_lt_of_cell? w _ hx356_4)).trans hx356_4
                                      replace hx356_5 := (HB.out.cell (World.block_lt_of_cell? w _ hx356_5)).trans hx356_5
                                      replace hx356_6 := (HB.out.cell (World.block_lt_of_cell? w _ hx356_6)).trans hx356_6
                                      replace hx356_7 := (HB.out.cell (World.block_lt_of_cell? w _ hx356_7)).trans hx356_7
                                      replace hx356_8 := (HB.out.cell (World.block_lt_of_cell? w _ hx356_8)).trans hx356_8
                                      replace hx356_9 := (HB.out.cell (World.block_lt_of_cell? w _ hx356_9)).trans hx356_9
                                      replace p356 := eq_true p356
                                      replace q356 := eq_true q356
                                      go_wp2
                                      go_roundg kj10
                                      case measure => have := HK1.out; have := HJ2.out; have := HJ10.out; omega
                                      case rel => exact ⟨(wrap64 (x5_1 + 1)), (x6_1), (0), (wrap64 (x8_1 + ji10)), (by first | rfl | (simp; done) | (simp [*]; done)), (by first | rfl | (simp; done) | (simp [*]; done)), (by first | rfl | (simp; done) | (simp [*]; done)), (by first | rfl | (simp; done) | (simp only [← hji10] <;> (first | rfl | simp)) | (simp [*]; done)), H', ⟨by have := HK1.out; have := HJ2.out; have := HJ10.out; omega⟩, ⟨by repeat (first | (with_reducible first | exact HB.out | apply below_alloc | apply pw_below_drewN | apply below_drew1 | refine below_set ?_ GE352.out | refine below_set ?_ GE354.out) | exact HB.out)⟩⟩
                                  · rw [if_neg c27] at H
                                    exact absurd H (by simp)
                                · rw [if_neg c26] at H
                                  exact absurd H (by simp)
                              · rw [if_neg c25] at H
                                have c25b0 : ((wrap64 (x7_1 + ji10)) == ((rd_T34 l0 x5_1).f0)) = false := beq_eq_false_iff_ne.mpr c25
                                have c25b1 : ((wrap64 (x7_1 + ji10)) != ((rd_T34 l0 x5_1).f0)) = true := bne_iff_ne.mpr c25
                                by_cases c29 : 0 ≤ x6_1
                                · rw [if_pos c29] at H
                                  have c29b0 : decide (0 ≤ x6_1) = true := decide_eq_true c29
                                  clear c29
                                  by_cases c30 : x6_1 < (l1.length : Int)
                                  · rw [if_pos c30] at H
                                    have c30b0 : decide (x6_1 < (l1.length : Int)) = true := decide_eq_true c30
                                    clear c30
                                    by_cases c31 : (wrap64 (x8_1 + ji10)) = ((rd_T34 l1 x6_1).f0)
                                    · rw [if_pos c31] at H
                                      have c31b0 : ((wrap64 (x8_1 + ji10)) == ((rd_T34 l1 x6_1).f0)) = true := beq_iff_eq.mpr c31
                                      have c31b1 : ((wrap64 (x8_1 + ji10)) != ((rd_T34 l1 x6_1).f0)) = false := bne_eq_false_iff_eq.mpr c31
                                      clear c31
                                      have H' := Aside0.mk H
                                      clear H
                                      have p355 : 0 ≤ (x5_1 : Int) := of_decide_eq_true (by first | (with_reducible assumption) | assumption)
                                      have q355 : x5_1 < (l0.length : Int) := of_decide_eq_true (by first | (with_reducible assumption) | assumption)
                                      obtain ⟨ad355, e355, hx355_0, hx355_1, hx355_2, hx355_3, hx355_4, hx355_5, hx355_6, hx355_7, hx355_8, hx355_9⟩ := at_T34 HR0.out x5_1 p355 q355
                                      obtain rfl : ad351 = ad355 := (by injection e355)
                                      replace hx355_0 := (HB.out.cell (World.block_lt_of_cell? w _ hx355_0)).trans hx355_0
                                      replace hx355_1 := (HB.out.cell (World.block_lt_of_cell? w _ hx355_1)).trans hx355_1
                                      replace hx355_2 := (HB.out.cell (World.block_lt_of_cell? w _ hx355_2)).trans hx355_2
                                      replace hx355_3 := (HB.out.cell (World.block_lt_of_cell? w _ hx355_3)).trans hx355_3
                                      replace hx355_4 := (HB.out.cell (World.block_lt_of_cell? w _ hx355_4)).trans hx355_4
                                      replace hx355_5 := (HB.out.cell (World.block_lt_of_cell? w _ hx355_5)).trans hx355_5
                                      replace hx355_6 := (HB.out.cell (World.block_lt_of_cell? w _ hx355_6)).trans hx355_6
                                      replace hx355_7 := (HB.out.cell (World.block_lt_of_cell? w _ hx355_7)).trans hx355_7
                                      replace hx355_8 := (HB.out.cell (World.block_lt_of_cell? w _ hx355_8)).trans hx355_8
                                      replace hx355_9 := (HB.out.cell (World.block_lt_of_cell? w _ hx355_9)).trans hx355_9
                                      replace p355 := eq_true p355
                                      replace q355 := eq_true q355
                                      have p357 : 0 ≤ (x6_1 : Int) := of_decide_eq_true (by first | (with_reducible assumption) | assumption)
                                      have q357 : x6_1 < (l1.length : Int) := of_decide_eq_true (by first | (with_reducible assumption) | assumption)
                                      obtain ⟨ad357, e357, hx357_0, hx357_1, hx357_2, hx357_3, hx357_4, hx357_5, hx357_6, hx357_7, hx357_8, hx357_9⟩ := at_T34 HR1.out x6_1 p357 q357
                                      obtain rfl : ad353 = ad357 := (by injection e357)
                                      replace hx357_0 := (HB.out.cell (World.block_lt_of_cell? w _ hx357_0)).trans hx357_0
                                      replace hx357_1 := (HB.out.cell (World.block_lt_of_cell? w _ hx357_1)).trans hx357_1
                                      replace hx357_2 := (HB.out.cell (World.block_lt_of_cell? w _ hx357_2)).trans hx357_2
                                      replace hx357_3 := (HB.out.cell (World.block_lt_of_cell? w _ hx357_3)).trans hx357_3
                                      replace hx357_4 := (HB.out.cell (World.block_lt_of_cell? w _ hx357_4)).trans hx357_4
                                      replace hx357_5 := (HB.out.cell (World.block_lt_of_cell? w _ hx357_5)).trans hx357_5
                                      replace hx357_6 := (HB.out.cell (World.block_lt_of_cell? w _ hx357_6)).trans hx357_6
                                      replace hx357_7 := (HB.out.cell (World.block_lt_of_cell? w _ hx357_7)).trans hx357_7
                                      replace hx357_8 := (HB.out.cell (World.block_lt_of_cell? w _ hx357_8)).trans hx357_8
                                      replace hx357_9 := (HB.out.cell (World.block_lt_of_cell? w _ hx357_9)).trans hx357_9
                                      replace p357 := eq_true p357
                                      replace q357 := eq_true q357
                                      go_wp2
                                      go_roundg kj10
                                      case measure => have := HK1.out; have := HJ2.out; have := HJ10.out; omega
                                      case rel => exact ⟨(x5_1), (wrap64 (x6_1 + 1)), (wrap64 (x7_1 + ji10)), (0), (by first | rfl | (simp; done) | (simp [*]; done)), (by first | rfl | (simp; done) | (simp [*]; done)), (by first | rfl | (simp; done) | (simp only [← hji10] <;> (first | rfl | simp)) | (simp [*]; done)), (by first | rfl | (simp; done) | (simp [*]; done)), H', ⟨by have := HK1.out; have := HJ2.out; have := HJ10.out; omega⟩, ⟨by repeat (first | (with_reducible first | exact HB.out | apply below_alloc | apply pw_below_drewN | apply below_drew1 | refine below_set ?_ GE352.out | refine below_set ?_ GE354.out) | exact HB.out)⟩⟩
                                    · rw [if_neg c31] at H
                                      have c31b0 : ((wrap64 (x8_1 + ji10)) == ((rd_T34 l1 x6_1).f0)) = false := beq_eq_false_iff_ne.mpr c31
                                      have c31b1 : ((wrap64 (x8_1 + ji10)) != ((rd_T34 l1 x6_1).f0)) = true := bne_iff_ne.mpr c31
                                      have H' := Aside0.mk H
                                      clear H
                                      have p355 : 0 ≤ (x5_1 : Int) := of_decide_eq_true (by first | (with_reducible assumption) | assumption)
                                      have q355 : x5_1 < (l0.length : Int) := of_decide_eq_true (by first | (with_reducible assumption) | assumption)
                                      obtain ⟨ad355, e355, hx355_0, hx355_1, hx355_2, hx355_3, hx355_4, hx355_5, hx355_6, hx355_7, hx355_8, hx355_9⟩ := at_T34 HR0.out x5_1 p355 q355
                                      obtain rfl : ad351 = ad355 := (by injection e355)
                                      replace hx355_0 := (HB.out.cell (World.block_lt_of_cell? w _ hx355_0)).trans hx355_0
                                      replace hx355_1 := (HB.out.cell (World.block_lt_of_cell? w _ hx355_1)).trans hx355_1
                                      replace hx355_2 := (HB.out.cell (World.block_lt_of_cell? w _ hx355_2)).trans hx355_2
                                      replace hx355_3 := (HB.out.cell (World.block_lt_of_cell? w _ hx355_3)).trans hx355_3
                                      replace hx355_4 := (HB.out.cell (World.block_lt_of_cell? w _ hx355_4)).trans hx355_4
                                      replace hx355_5 := (HB.out.cell (World.block_lt_of_cell? w _ hx355_5)).trans hx355_5
                                      replace hx355_6 := (HB.out.cell (World.block_lt_of_cell? w _ hx355_6)).trans hx355_6
                                      replace hx355_7 := (HB.out.cell (World.block_lt_of_cell? w _ hx355_7)).trans hx355_7
                                      replace hx355_8 := (HB.out.cell (World.block_lt_of_cell? w _ hx355_8)).trans hx355_8
                                      replace hx355_9 := (HB.out.cell (World.block_lt_of_cell? w _ hx355_9)).trans hx355_9
                                      replace p355 := eq_true p355
                                      replace q355 := eq_true q355
                                      have p357 : 0 ≤ (x6_1 : Int) := of_decide_eq_true (by first | (with_reducible assumption) | assumption)
                                      have q357 : x6_1 < (l1.length : Int) := of_decide_eq_true (by first | (with_reducible assumption) | assumption)
                                      obtain ⟨ad357, e357, hx357_0, hx357_1, hx357_2, hx357_3, hx357_4, hx357_5, hx357_6, hx357_7, hx357_8, hx357_9⟩ := at_T34 HR1.out x6_1 p357 q357
                                      obtain rfl : ad353 = ad357 := (by injection e357)
                                      replace hx357_0 := (HB.out.cell (World.block_lt_of_cell? w _ hx357_0)).trans hx357_0
                                      replace hx357_1 := (HB.out.cell (World.block_lt_of_cell? w _ hx357_1)).trans hx357_1
                                      replace hx357_2 := (HB.out.cell (World.block_lt_of_cell? w _ hx357_2)).trans hx357_2
                                      replace hx357_3 := (HB.out.cell (World.block_lt_of_cell? w _ hx357_3)).trans hx357_3
                                      replace hx357_4 := (HB.out.cell (World.block_lt_of_cell? w _ hx357_4)).trans hx357_4
                                      replace hx357_5 := (HB.out.cell (World.block_lt_of_cell? w _ hx357_5)).trans hx357_5
                                      replace hx357_6 := (HB.out.cell (World.block_lt_of_cell? w _ hx357_6)).trans hx357_6
                                      replace hx357_7 := (HB.out.cell (World.block_lt_of_cell? w _ hx357_7)).trans hx357_7
                                      replace hx357_8 := (HB.out.cell (World.block_lt_of_cell? w _ hx357_8)).trans hx357_8
                                      replace hx357_9 := (HB.out.cell (World.block_lt_of_cell? w _ hx357_9)).trans hx357_9
                                      replace p357 := eq_true p357
                                      replace q357 := eq_true q357
                                      go_wp2
                                      go_roundg kj10
                                      case measure => have := HK1.out; have := HJ2.out; have := HJ10.out; omega
                                      case rel => exact ⟨(x5_1), (x6_1), (wrap64 (x7_1 + ji10)), (wrap64 (x8_1 + ji10)), (by first | rfl | (simp; done) | (simp [*]; done)), (by first | rfl | (simp; done) | (simp [*]; done)), (by first | rfl | (simp; done) | (simp only [← hji10] <;> (first | rfl | simp)) | (simp [*]; done)), (by first | rfl | (simp; done) | (simp only [← hji10] <;> (first | rfl | simp)) | (simp [*]; done)), H', ⟨by have := HK1.out; have := HJ2.out; have := HJ10.out; omega⟩, ⟨by repeat (first | (with_reducible first | exact HB.out | apply below_alloc | apply pw_below_drewN | apply below_drew1 | refine below_set ?_ GE352.out | refine below_set ?_ GE354.out) | exact HB.out)⟩⟩
                                  · rw [if_neg c30] at H
                                    exact absurd H (by simp)
                                · rw [if_neg c29] at H
                                  exact absurd H (by simp)
                            · rw [if_neg c24] at H
                              exact absurd H (by simp)
                          · rw [if_neg c23] at H
                            exact absurd H (by simp)
                  · rw [if_neg c9] at H
                    exact absurd H (by simp)
                · rw [if_neg c8] at H
                  exact absurd H (by simp)
              · rw [if_neg c7] at H
                exact absurd H (by simp)
            · rw [if_neg c6] at H
              exact absurd H (by simp)
          · replace c5 := Bool.eq_false_iff.mpr c5
            subst c5
            have H1 : (if x5_1 = (l0.length : Int) then (some (x6_1 == (l1.length : Int))) else (some false)) = some r := by rw [if_neg (show ¬ (false = true) by decide)] at H; exact H
            clear H
            have H := H1
            clear H1
            by_cases c32 : x5_1 = (l0.length : Int)
            · rw [if_pos c32] at H
              have c32b0 : (x5_1 == (l0.length : Int)) = true := beq_iff_eq.mpr c32
              have c32b1 : (x5_1 != (l0.length : Int)) = false := bne_eq_false_iff_eq.mpr c32
              clear c32
              obtain rfl := Option.some.inj H
              go_wp2
              go_ret
              exact ⟨by first | rfl | (simp [errW_none, errW_some] <;> rfl) | (simp [*, errW_none, errW_some] <;> rfl), by repeat (first | (with_reducible first | exact HB.out | apply below_alloc | apply pw_below_drewN | apply below_drew1) | exact HB.out)⟩
            · rw [if_neg c32] at H
              have c32b0 : (x5_1 == (l0.length : Int)) = false := beq_eq_false_iff_ne.mpr c32
              have c32b1 : (x5_1 != (l0.length : Int)) = true := bne_iff_ne.mpr c32
              obtain rfl := Option.some.inj H
              go_wp2
              go_ret
              exact ⟨by first | rfl | (simp [errW_none, errW_some] <;> rfl) | (simp [*, errW_none, errW_some] <;> rfl), by repeat (first | (with_reducible first | exact HB.out | apply below_alloc | apply pw_below_drewN | apply below_drew1) | exact HB.out)⟩

end Go.Proofs.YtdjffafcmomalaaDoor.PScr
