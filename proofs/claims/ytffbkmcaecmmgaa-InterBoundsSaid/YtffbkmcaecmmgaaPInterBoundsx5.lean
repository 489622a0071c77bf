-- PRINTED BY print.sh 35421559b90ae4d0a3588c463048766b98c2df88dd9212a6774a882060cdf62d: not written by this session
import Derived.Test.YtffbkmcaecmmgaaPInterBoundsx0
import Derived.Test.YtffbkmcaecmmgaaPInterBoundsx1
import Derived.Test.YtffbkmcaecmmgaaPInterBoundsx2
import Derived.Test.YtffbkmcaecmmgaaPInterBoundsx4
namespace Go.Proofs.Ytffbkmcaecmmgaa.PInterBounds
open Go.RowKit Go.Proofs.YtffbkmcaecmmgaaW.PrintWords Go.Proofs.YtffbkmcaecmmgaaW.PrintLast Go.Proofs.YtffbkmcaecmmgaaW.PrintMore
attribute [local go_sem] max2_int min2_int max_two min_two max_three min_three max_four min_four   -- for this text's walks alone
set_option linter.unusedVariables false
set_option linter.unusedSimpArgs false

attribute [local go_sem high] eqA25
/-! ### vesperref16_Encode: function 5 -/
mutual
def vesperref16_Encode.l0 : Nat → List (S36) → Int → Int → Int → Int → Int → Int → Int → Option (Int × Int)
  | 0, _, _, _, _, _, _, _, _ => none
  | k + 1, x4, x5, x141000, x141001, x141002, x141003, x141004, x141005 => if x5 < (x4.length : Int) then (if 0 ≤ x5 then (if ((rd_T36 x4 x5).f0) = x141000 then (if x141001 > 15 then (vesperref16_Encode.j1 k x4 x5 true x141000 x141001 x141002 x141003 x141004 x141005) else (if x141002 > 15 then (vesperref16_Encode.j1 k x4 x5 true x141000 x141001 x141002 x141003 x141004 x141005) else (if x141003 > 15 then (vesperref16_Encode.j1 k x4 x5 true x141000 x141001 x141002 x141003 x141004 x141005) else (vesperref16_Encode.j1 k x4 x5 (decide (x141005 > 4095)) x141000 x141001 x141002 x141003 x141004 x141005)))) else (vesperref16_Encode.l0 k x4 (wrap64 (x5 + 1)) x141000 x141001 x141002 x141003 x141004 x141005)) else (none)) else (some (0, 160))
def vesperref16_Encode.j1 : Nat → List (S36) → Int → Bool → Int → Int → Int → Int → Int → Int → Option (Int × Int)
  | 0, _, _, _, _, _, _, _, _, _ => none
  | k + 1, x4, x5, x41, x141000, x141001, x141002, x141003, x141004, x141005 => if x41 = true then (some (0, 160)) else (if 0 ≤ x5 then (if x5 < (x4.length : Int) then ((vesperref16_Word_word.f k ((rd_T36 x4 x5).f0) ((rd_T36 x4 x5).f1) ((rd_T36 x4 x5).f2) ((rd_T36 x4 x5).f3) x141000 x141001 x141002 x141003 x141004 x141005).bind fun t146 => ((vesperref16_Decode.f k t146).bind fun bt147 => (if (!(bt147.1 == x141000) || (!(bt147.2.1 == x141001) || (!(bt147.2.2.1 == x141002) || (!(bt147.2.2.2.1 == x141003) || (!(bt147.2.2.2.2.1 == x141004) || (!(bt147.2.2.2.2.2.1 == x141005))))))) = true then (some (0, 160)) else (some (t146, 0))))) else (none)) else (none))
end
def vesperref16_Encode.f (k : Nat) (a0_0 : Int) (a0_1 : Int) (a0_2 : Int) (a0_3 : Int) (a0_4 : Int) (a0_5 : Int) : Option (Int × Int) := (vesperref16_Words.f).bind fun t141 => (vesperref16_Encode.l0 k t141 0 a0_0 a0_1 a0_2 a0_3 a0_4 a0_5)
theorem vesperref16_Encode.mono_l : ∀ k, (∀ y0 y1 y2 y3 y4 y5 y6 y7, LeO (vesperref16_Encode.l0 k y0 y1 y2 y3 y4 y5 y6 y7) (vesperref16_Encode.l0 (k + 1) y0 y1 y2 y3 y4 y5 y6 y7)) ∧ (∀ y0 y1 y2 y3 y4 y5 y6 y7 y8, LeO (vesperref16_Encode.j1 k y0 y1 y2 y3 y4 y5 y6 y7 y8) (vesperref16_Encode.j1 (k + 1) y0 y1 y2 y3 y4 y5 y6 y7 y8))
  | 0 => ⟨fun _ _ _ _ _ _ _ _ r h => by simp [vesperref16_Encode.l0] at h, fun _ _ _ _ _ _ _ _ _ r h => by simp [vesperref16_Encode.j1] at h⟩
  | k + 1 => by
    obtain ⟨ih0, ih1⟩ := vesperref16_Encode.mono_l k
    refine ⟨?_, ?_⟩
    · intro y0 y1 y2 y3 y4 y5 y6 y7
      unfold vesperref16_Encode.l0
      repeat' first
      | (with_reducible exact ih0 _ _ _ _ _ _ _ _)
      | (with_reducible exact ih1 _ _ _ _ _ _ _ _ _)
      | (with_reducible exact vesperref16_Decode.mono _ _)
      | (with_reducible exact vesperref16_Word_word.mono _ _ _ _ _ _ _ _ _ _ _)
      | (with_reducible exact LeO.refl _)
      | (with_reducible exact LeO.none _)
      | (with_reducible refine LeO.ite ?_ ?_)
      | (with_reducible refine LeO.bind ?_ (fun _ => ?_))
      | exact ih0 _ _ _ _ _ _ _ _
      | exact ih1 _ _ _ _ _ _ _ _ _
      | exact vesperref16_Decode.mono _ _
      | exact vesperref16_Word_word.mono _ _ _ _ _ _ _ _ _ _ _
      | exact LeO.none _
      | refine LeO.ite ?_ ?_
      | refine LeO.bind ?_ (fun _ => ?_)
    · intro y0 y1 y2 y3 y4 y5 y6 y7 y8
      unfold vesperref16_Encode.j1
      repeat' first
      | (with_reducible exact ih0 _ _ _ _ _ _ _ _)
      | (with_reducible exact ih1 _ _ _ _ _ _ _ _ _)
      | (with_reducible exact vesperref16_Decode.mono _ _)
      | (with_reducible exact vesperref16_Word_word.mono _ _ _ _ _ _ _ _ _ _ _)
      | (with_reducible exact LeO.refl _)
      | (with_reducible exact LeO.none _)
      | (with_reducible refine LeO.ite ?_ ?_)
      | (with_reducible refine LeO.bind ?_ (fun _ => ?_))
      | exact ih0 _ _ _ _ _ _ _ _
      | exact ih1 _ _ _ _ _ _ _ _ _
      | exact vesperref16_Decode.mono _ _
      | exact vesperref16_Word_word.mono _ _ _ _ _ _ _ _ _ _ _
      | exact LeO.none _
      | refine LeO.ite ?_ ?_
      | refine LeO.bind ?_ (fun _ => ?_)
theorem vesperref16_Encode.mono : ∀ a0 a1 a2 a3 a4 a5 k, LeO (vesperref16_Encode.f k a0 a1 a2 a3 a4 a5) (vesperref16_Encode.f (k + 1) a0 a1 a2 a3 a4 a5) := by
  intro a0 a1 a2 a3 a4 a5 k
  obtain ⟨ih0, ih1⟩ := vesperref16_Encode.mono_l k
  unfold vesperref16_Encode.f
  repeat' first
      | (with_reducible exact ih0 _ _ _ _ _ _ _ _)
      | (with_reducible exact ih1 _ _ _ _ _ _ _ _ _)
      | (with_reducible exact vesperref16_Decode.mono _ _)
      | (with_reducible exact vesperref16_Word_word.mono _ _ _ _ _ _ _ _ _ _ _)
      | (with_reducible exact LeO.refl _)
      | (with_reducible exact LeO.none _)
      | (with_reducible refine LeO.ite ?_ ?_)
      | (with_reducible refine LeO.bind ?_ (fun _ => ?_))
      | exact ih0 _ _ _ _ _ _ _ _
      | exact ih1 _ _ _ _ _ _ _ _ _
      | exact vesperref16_Decode.mono _ _
      | exact vesperref16_Word_word.mono _ _ _ _ _ _ _ _ _ _ _
      | exact LeO.none _
      | refine LeO.ite ?_ ?_
      | refine LeO.bind ?_ (fun _ => ?_)
def vesperref16_Encode.T5 : Bool × List (List Nat × List Nat) := (true, [([], []), ([], []), ([0, 1], [0, 1]), ([2], [2]), ([3], [3]), ([], []), ([5], [5]), ([4, 6], [4, 6])])
def vesperref16_Encode.B5 : List Nat := [0, 0, 3, 7, 15, 0, 32, 127]
theorem vesperref16_Encode.tab5 : rtab .any (opsOf Try.f5 5) = vesperref16_Encode.T5 := by kernel_rfl
theorem vesperref16_Encode.bits5 : waitsOk vesperref16_Encode.T5.2 vesperref16_Encode.B5 = true := by kernel_rfl
set_option maxHeartbeats 8000000 in
set_option maxRecDepth 100000 in
theorem vesperref16_Encode.calls (k : Nat) (a0_0 : Int) (a0_1 : Int) (a0_2 : Int) (a0_3 : Int) (a0_4 : Int) (a0_5 : Int) (r1 : Int) (r2 : Int) (w : World) (h : vesperref16_Encode.f k a0_0 a0_1 a0_2 a0_3 a0_4 a0_5 = some (r1, r2)) :
    Calls Try.prog 5 #[.agg #[.int .u8 a0_0, .int .u8 a0_1, .int .u8 a0_2, .int .u8 a0_3, .int .u8 a0_4, .int .u16 a0_5]] w fun e w' => e = .returned (.tuple #[.int .u16 r1, .int .i64 r2]) ∧ Below w.heap.size w w' := by
  have hu25 := Try.underlying25
  have hu36 := Try.underlying36
  have HB := Aside0.mk (Below.refl w.heap.size w)
  have H : ((vesperref16_Words.f).bind fun t141 => (vesperref16_Encode.l0 k t141 0 a0_0 a0_1 a0_2 a0_3 a0_4 a0_5)) = some (r1, r2) := h
  clear h
  replace H := Option.bind_eq_some_iff.mp H
  obtain ⟨t141, A20, H⟩ := H
  replace H : (vesperref16_Encode.l0 k t141 0 a0_0 a0_1 a0_2 a0_3 a0_4 a0_5) = some (r1, r2) := H
  have A2 := Aside0.mk A20
  clear A20
  have H' := Aside0.mk H
  clear H
  go_enter Try.func5, Try.ntmps5
  go_wp2_with (first | ((with_reducible refine gate_dst (N := 1) rfl ?_); refine box_event ?hg (N := 1) ?hd (cs := #[.int .u8 a0_0, .int .u8 a0_1, .int .u8 a0_2, .int .u8 a0_3, .int .u8 a0_4, .int .u16 a0_5]) (t := 25) ?hr ?_; (case hd => rfl); (case hg => rfl); (case hr => first | (go_simp; done) | (go_simp; rfl)); intro gb140 hg w3 hbox hb; have n0_ := Aside0.mk (below_step (by repeat (first | (with_reducible first | exact HB.out | apply below_alloc | apply pw_below_drewN | apply below_drew1) | exact HB.out)) hb); have n1_ := Aside0.mk (hbox); have n2_ := Aside0.mk ((by rw [hg]; exact (below_size (by repeat (first | (with_reducible first | exact HB.out | apply below_alloc | apply pw_below_drewN | apply below_drew1) | exact HB.out))) : w.heap.size ≤ gb140)); have n3_ := Aside0.mk ((by rw [hg]; exact (below_size (by repeat (first | (with_reducible first | exact HB.out | apply below_alloc | apply pw_below_drewN | apply below_drew1) | exact HB.out))) : w.heap.size ≤ gb140)); clear HB; have HB := n0_; have BK140 := n1_; have GW140 := n2_; have GE140 := n3_; clear n0_ n1_ n2_ n3_; clear hb hbox hg) | ((with_reducible refine gate_callee (f := 8) rfl ?_); refine goesL_ (some 9) rfl rfl Try.func8 (by kernel_rfl) rfl #[] rfl (by (try simp only [List.map_toArray, List.map_cons, List.map_nil]); first | done | rfl | (simp only [List.length_drop, List.length_take]; rfl)) ?_; (with_reducible refine (vesperref16_Words.calls  t141 _ A2.out).mono ?_); rintro e w4 ⟨v142, rfl, ho0, hb⟩; refine ⟨_, rfl, ?_⟩; have n0_ := Aside0.mk (Kd.R_lower ho0 (below_size (by repeat (first | (with_reducible first | exact HB.out | apply below_alloc | apply pw_below_drewN | apply below_drew1 | refine below_set ?_ GE140.out) | exact HB.out)))); have n1_ := Aside0.mk (blk_below (g := gb140) (o := .cells #[.int .u8 a0_0, .int .u8 a0_1, .int .u8 a0_2, .int .u8 a0_3, .int .u8 a0_4, .int .u16 a0_5] 25 (0, 0)) (by (with_reducible repeat (first | refine blk_drewN ?_ _ | refine blk_drew ?_ | refine blk_alloc ?_ _)); exact BK140.out) hb); have n2_ := Aside0.mk (below_step (by repeat (first | (with_reducible first | exact HB.out | apply below_alloc | apply pw_below_drewN | apply below_drew1 | refine below_set ?_ GE140.out) | exact HB.out)) hb); clear BK140; clear HB; have HO143 := n0_; have BK140 := n1_; have HB := n2_; clear n0_ n1_ n2_; (try clear hb); (try clear hb2); (try clear hk); (try clear hi); (try clear ho0)))
  go_loopg [5] k (fun kq v5 w' => ∃ (x5_1 : Int), v5 = .int .i64 x5_1 ∧ Aside0 (vesperref16_Encode.l0 kq t141 x5_1 a0_0 a0_1 a0_2 a0_3 a0_4 a0_5 = some (r1, r2)) ∧ Aside0 (kq ≤ k) ∧ Aside0 (Kd.R k36 36 w' w.heap.size (fun _ => True) v142 t141) ∧ Aside0 (w'.heap[gb140]? = some (.cells #[.int .u8 a0_0, .int .u8 a0_1, .int .u8 a0_2, .int .u8 a0_3, .int .u8 a0_4, .int .u16 a0_5] 25 (0, 0))) ∧ Aside0 (Below w.heap.size w w'))
  case atStart => exact ⟨(0), (by first | rfl | (simp; done) | (simp [*]; done)), H', ⟨Nat.le_refl _⟩, ⟨by (with_reducible repeat (first | apply Kd.R_alloc | apply Kd.R_drewN | apply Kd.R_drew)); exact HO143.out⟩, ⟨by (with_reducible repeat (first | refine blk_drewN ?_ _ | refine blk_drew ?_ | refine blk_alloc ?_ _)); exact BK140.out⟩, ⟨by repeat (first | (with_reducible first | exact HB.out | apply below_alloc | apply pw_below_drewN | apply below_drew1 | refine below_set ?_ GE140.out) | exact HB.out)⟩⟩
  case round =>
    clear H'
    try clear p2
    obtain ⟨x5_1, rfl, HA, HK1, HO_4, BK140, HB⟩ := hrel
    cases gk with
    | zero => exact absurd HA.out (by simp [vesperref16_Encode.l0])
    | succ k1 =>
      have H := HA.out
      clear HA
      simp only [vesperref16_Encode.l0] at H
      by_cases c5 : x5_1 < (t141.length : Int)
      · rw [if_pos c5] at H
        have c5b0 : decide (x5_1 < (t141.length : Int)) = true := decide_eq_true c5
        clear c5
        by_cases c6 : 0 ≤ x5_1
        · rw [if_pos c6] at H
          have c6b0 : decide (0 ≤ x5_1) = true := decide_eq_true c6
          clear c6
          by_cases c7 : ((rd_T36 t141 x5_1).f0) = a0_0
          · rw [if_pos c7] at H
            have c7b0 : (((rd_T36 t141 x5_1).f0) == a0_0) = true := beq_iff_eq.mpr c7
            have c7b1 : (((rd_T36 t141 x5_1).f0) != a0_0) = false := bne_eq_false_iff_eq.mpr c7
            clear c7
            have HC8 := Aside0.mk H
            clear H
            obtain ⟨Ao9, co9, eo9⟩ := Kd.R_slice HO_4.out
            subst eo9
            try go_wp2
            have n0_ := Aside0.mk (Kd.R_drew HO_4.out)
            have n1_ := Aside0.mk (blk_drew BK140.out)
            have n2_ := Aside0.mk (below_drew1 HB.out)
            clear HO_4
            clear BK140
            clear HB
            have HO_4 := n0_
            have BK140 := n1_
            have HB := n2_
            clear n0_ n1_ n2_
            have p144 : 0 ≤ (x5_1 : Int) := of_decide_eq_true (by first | (with_reducible assumption) | assumption)
            have q144 : x5_1 < (t141.length : Int) := of_decide_eq_true (by first | (with_reducible assumption) | assumption)
            obtain ⟨ad144, e144, hx144_0, hx144_1, hx144_2, hx144_3⟩ := at_T36 (Kd.R_reads' HO_4.out).2.2 x5_1 p144 q144
            cases e144
            replace p144 := eq_true p144
            replace q144 := eq_true q144
            refine start_ (n := 8) (S := fun w' => w'.cell? ⟨gb140, 0, none⟩ = some (.int .u8 a0_0) ∧ w'.cell? ⟨gb140, 1, none⟩ = some (.int .u8 a0_1) ∧ w'.cell? ⟨gb140, 2, none⟩ = some (.int .u8 a0_2) ∧ w'.cell? ⟨gb140, 3, none⟩ = some (.int .u8 a0_3) ∧ w'.cell? ⟨gb140, 4, none⟩ = some (.int .u8 a0_4) ∧ w'.cell? ⟨gb140, 5, none⟩ = some (.int .u16 a0_5) ∧ w'.cell? (ad144.add ((x5_1).toNat * 4)) = some (.int .u8 ((rd_T36 t141 x5_1).f0)) ∧ w'.cell? ⟨(ad144.add ((x5_1).toNat * 4)).block, (ad144.add ((x5_1).toNat * 4)).off + 1, none⟩ = some (.int .u16 ((rd_T36 t141 x5_1).f1)) ∧ w'.cell? ⟨(ad144.add ((x5_1).toNat * 4)).block, (ad144.add ((x5_1).toNat * 4)).off + 2, none⟩ = some (.string ((rd_T36 t141 x5_1).f2)) ∧ w'.cell? ⟨(ad144.add ((x5_1).toNat * 4)).block, (ad144.add ((x5_1).toNat * 4)).off + 3, none⟩ = some (.string ((rd_T36 t141 x5_1).f3))) (ds := []) #[false, false, false, false, false, false, false, false] (by kernel_rfl) rfl rfl ⟨(blk_cell BK140.out 0).trans rfl, (blk_cell BK140.out 1).trans rfl, (blk_cell BK140.out 2).trans rfl, (blk_cell BK140.out 3).trans rfl, (blk_cell BK140.out 4).trans rfl, (blk_cell BK140.out 5).trans rfl, hx144_0, hx144_1, hx144_2, hx144_3⟩ (fun hHeld => ?_); refine with_tabW vesperref16_Encode.tab5 vesperref16_Encode.bits5 (fun HT_ HW_ => ?_)
            generalize wr.drew = w10 at HO_4 BK140 HB hx144_0 hx144_1 hx144_2 hx144_3 hHeld ⊢
            refine pure_ (i := 0) (N := some 16) (v := ?_) (a' := ?_) #[true, false, false, false, false, false, false, false] rfl rfl (any_of HT_.out (by kernel_rfl)) (fun _ _ _ h => h) (Or.inl ⟨by rfl, ?_⟩) ?_ ?_
            rotate_left
            · intro w'
              go_simp
              with_reducible rfl
            rotate_left
            · simp only [Act.put, List.setIfInBounds_toArray, List.set_cons_zero, List.set_cons_succ, i64_w, i32_w]
              rfl
            refine pure_ (i := 1) (N := some 17) (v := ?_) (a' := ?_) #[true, true, false, false, false, false, false, false] rfl rfl (any_of HT_.out (by kernel_rfl)) (fun _ _ _ h => h) (Or.inl ⟨by rfl, ?_⟩) ?_ ?_
            rotate_left
            · intro w'
              go_simp
              with_reducible rfl
            rotate_left
            · simp only [Act.put, List.setIfInBounds_toArray, List.set_cons_zero, List.set_cons_succ, i64_w, i32_w]
              rfl
            refine pure_ (i := 2) (N := some 18) (v := ?_) (a' := ?_) #[true, true, true, false, false, false, false, false] rfl rfl (any_of HT_.out (by kernel_rfl)) (fun _ _ _ h => h) (Or.inl ⟨by rfl, ?_⟩) ?_ ?_
            rotate_left
            · intro w'
              go_simp
              with_reducible rfl
            rotate_left
            · simp only [Act.put, List.setIfInBounds_toArray, List.set_cons_zero, List.set_cons_succ, i64_w, i32_w]
              rfl
            refine pure_ (i := 3) (N := some 19) (v := ?_) (a' := ?_) #[true, true, true, true, false, false, false, false] rfl rfl (any_of HT_.out (by kernel_rfl)) (fun _ _ _ h => h) (Or.inl ⟨by rfl, ?_⟩) ?_ ?_
            rotate_left
            · intro w'
              go_simp
              with_reducible rfl
            rotate_left
            · simp only [Act.put, List.setIfInBounds_toArray, List.set_cons_zero, List.set_cons_succ, i64_w, i32_w]
              rfl
            refine pure_ (i := 5) (N := some 21) (v := ?_) (a' := ?_) #[true, true, true, true, false, true, false, false] rfl rfl (any_of HT_.out (by kernel_rfl)) (fun _ _ _ h => h) (Or.inl ⟨by rfl, ?_⟩) ?_ ?_
            rotate_left
            · intro w'
              go_simp
              with_reducible rfl
            rotate_left
            · simp only [Act.put, List.setIfInBounds_toArray, List.set_cons_zero, List.set_cons_succ, i64_w, i32_w]
              rfl
            refine take_ (i := 4) (N := some 20) (v := ?_) (a' := ?_) #[true, true, true, true, true, true, false, false] rfl rfl (take_ofW HT_.out HW_.out (by kernel_rfl)) (fun _ _ _ h => h) (Or.inl ⟨by rfl, ?_⟩) hHeld ?_ ?_
            rotate_left
            · rintro w' ⟨s0, s1, s2, s3, s4, s5, s6, s7, s8, s9⟩
              go_simp
              with_reducible rfl
            rotate_left
            · simp only [Act.put, List.setIfInBounds_toArray, List.set_cons_zero, List.set_cons_succ, i64_w, i32_w]
              rfl
            refine take_ (i := 6) (N := some 22) (v := ?_) (a' := ?_) #[true, true, true, true, true, true, true, false] rfl rfl (take_ofW HT_.out HW_.out (by kernel_rfl)) (fun _ _ _ h => h) (Or.inl ⟨by rfl, ?_⟩) hHeld ?_ ?_
            rotate_left
            · rintro w' ⟨s0, s1, s2, s3, s4, s5, s6, s7, s8, s9⟩
              go_simp
              with_reducible rfl
            rotate_left
            · simp only [Act.put, List.setIfInBounds_toArray, List.set_cons_zero, List.set_cons_succ, i64_w, i32_w]
              rfl
            refine pure_ (i := 7) (N := some 23) (v := ?_) (a' := ?_) #[true, true, true, true, true, true, true, true] rfl rfl (any_of HT_.out (by kernel_rfl)) (fun _ _ _ h => h) (Or.inl ⟨by rfl, ?_⟩) ?_ ?_
            rotate_left
            · intro w'
              go_simp
              with_reducible rfl
            rotate_left
            · simp only [Act.put, List.setIfInBounds_toArray, List.set_cons_zero, List.set_cons_succ, i64_w, i32_w]
              rfl
            refine done_ (done_of HT_.out (by kernel_rfl)) ?_
            go_upto_region 6 with (fail)
            go_cut [41] (fun v41 wc => ∃ (kq : Nat) (x41_7 : Bool), v41 = .bool x41_7 ∧ Aside0 (vesperref16_Encode.j1 kq t141 x5_1 x41_7 a0_0 a0_1 a0_2 a0_3 a0_4 a0_5 = some (r1, r2)) ∧ Aside0 (kq ≤ k1) ∧ Aside0 (Kd.R k36 36 wc w.heap.size (fun _ => True) (.slice (some ad144) t141.length co9) t141) ∧ Aside0 (wc.heap[gb140]? = some (.cells #[.int .u8 a0_0, .int .u8 a0_1, .int .u8 a0_2, .int .u8 a0_3, .int .u8 a0_4, .int .u16 a0_5] 25 (0, 0))) ∧ Aside0 (Below w.heap.size w wc))
            case first =>
              have H := HC8.out
              clear HC8
              by_cases c11 : a0_1 > 15
              · rw [if_pos c11] at H
                have c11b0 : decide (15 < a0_1) = true := decide_eq_true c11
                clear c11
                (first | rw [c11b0] | (simp only [i64_w, i32_w]; rw [c11b0]) | skip)
                have H' := Aside0.mk H
                clear H
                have hcz12_0 : w10.cell? ⟨gb140, 0, none⟩ = some (.int .u8 a0_0) := (blk_cell BK140.out 0).trans rfl
                have hcz12_1 : w10.cell? ⟨gb140, 1, none⟩ = some (.int .u8 a0_1) := (blk_cell BK140.out 1).trans rfl
                have hcz12_2 : w10.cell? ⟨gb140, 2, none⟩ = some (.int .u8 a0_2) := (blk_cell BK140.out 2).trans rfl
                have hcz12_3 : w10.cell? ⟨gb140, 3, none⟩ = some (.int .u8 a0_3) := (blk_cell BK140.out 3).trans rfl
                have hcz12_4 : w10.cell? ⟨gb140, 4, none⟩ = some (.int .u8 a0_4) := (blk_cell BK140.out 4).trans rfl
                have hcz12_5 : w10.cell? ⟨gb140, 5, none⟩ = some (.int .u16 a0_5) := (blk_cell BK140.out 5).trans rfl
                have hfz12_0 := blk_frozen BK140.out 0
                have hfz12_1 := blk_frozen BK140.out 1
                have hfz12_2 := blk_frozen BK140.out 2
                have hfz12_3 := blk_frozen BK140.out 3
                have hfz12_4 := blk_frozen BK140.out 4
                have hfz12_5 := blk_frozen BK140.out 5
                go_wp2
                go_meet
                case rel => exact ⟨_, (true), (by first | rfl | (simp; done) | (simp [*]; done)), H', ⟨by have := HK1.out; first | omega | exact Nat.le_refl _⟩, ⟨by (with_reducible repeat (first | apply Kd.R_alloc | apply Kd.R_drewN | apply Kd.R_drew)); exact HO_4.out⟩, ⟨by (with_reducible repeat (first | refine blk_drewN ?_ _ | refine blk_drew ?_ | refine blk_alloc ?_ _)); exact BK140.out⟩, ⟨by repeat (first | (with_reducible first | exact HB.out | apply below_alloc | apply pw_below_drewN | apply below_drew1 | refine below_set ?_ GE140.out) | exact HB.out)⟩⟩
              · rw [if_neg c11] at H
                have c11b0 : decide (15 < a0_1) = false := decide_eq_false c11
                clear c11
                (first | rw [c11b0] | (simp only [i64_w, i32_w]; rw [c11b0]) | skip)
                by_cases c13 : a0_2 > 15
                · rw [if_pos c13] at H
                  have c13b0 : decide (15 < a0_2) = true := decide_eq_true c13
                  clear c13
                  have H' := Aside0.mk H
                  clear H
                  have hcz14_0 : w10.cell? ⟨gb140, 0, none⟩ = some (.int .u8 a0_0) := (blk_cell BK140.out 0).trans rfl
                  have hcz14_1 : w10.cell? ⟨gb140, 1, none⟩ = some (.int .u8 a0_1) := (blk_cell BK140.out 1).trans rfl
                  have hcz14_2 : w10.cell? ⟨gb140, 2, none⟩ = some (.int .u8 a0_2) := (blk_cell BK140.out 2).trans rfl
                  have hcz14_3 : w10.cell? ⟨gb140, 3, none⟩ = some (.int .u8 a0_3) := (blk_cell BK140.out 3).trans rfl
                  have hcz14_4 : w10.cell? ⟨gb140, 4, none⟩ = some (.int .u8 a0_4) := (blk_cell BK140.out 4).trans rfl
                  have hcz14_5 : w10.cell? ⟨gb140, 5, none⟩ = some (.int .u16 a0_5) := (blk_cell BK140.out 5).trans rfl
                  have hfz14_0 := blk_frozen BK140.out 0
                  have hfz14_1 := blk_frozen BK140.out 1
                  have hfz14_2 := blk_frozen BK140.out 2
                  have hfz14_3 := blk_frozen BK140.out 3
                  have hfz14_4 := blk_frozen BK140.out 4
                  have hfz14_5 := blk_frozen BK140.out 5
                  go_wp2
                  go_meet
                  case rel => exact ⟨_, (true), (by first | rfl | (simp; done) | (simp [*]; done)), H', ⟨by have := HK1.out; first | omega | exact Nat.le_refl _⟩, ⟨by (with_reducible repeat (first | apply Kd.R_alloc | apply Kd.R_drewN | apply Kd.R_drew)); exact HO_4.out⟩, ⟨by (with_reducible repeat (first | refine blk_drewN ?_ _ | refine blk_drew ?_ | refine blk_alloc ?_ _)); exact BK140.out⟩, ⟨by repeat (first | (with_reducible first | exact HB.out | apply below_alloc | apply pw_below_drewN | apply below_drew1 | refine below_set ?_ GE140.out) | exact HB.out)⟩⟩
                · rw [if_neg c13] at H
                  have c13b0 : decide (15 < a0_2) = false := decide_eq_false c13
                  clear c13
                  by_cases c15 : a0_3 > 15
                  · rw [if_pos c15] at H
                    have c15b0 : decide (15 < a0_3) = true := decide_eq_true c15
                    clear c15
                    have H' := Aside0.mk H
                    clear H
                    have hcz16_0 : w10.cell? ⟨gb140, 0, none⟩ = some (.int .u8 a0_0) := (blk_cell BK140.out 0).trans rfl
                    have hcz16_1 : w10.cell? ⟨gb140, 1, none⟩ = some (.int .u8 a0_1) := (blk_cell BK140.out 1).trans rfl
                    have hcz16_2 : w10.cell? ⟨gb140, 2, none⟩ = some (.int .u8 a0_2) := (blk_cell BK140.out 2).trans rfl
                    have hcz16_3 : w10.cell? ⟨gb140, 3, none⟩ = some (.int .u8 a0_3) := (blk_cell BK140.out 3).trans rfl
                    have hcz16_4 : w10.cell? ⟨gb140, 4, none⟩ = some (.int .u8 a0_4) := (blk_cell BK140.out 4).trans rfl
                    have hcz16_5 : w10.cell? ⟨gb140, 5, none⟩ = some (.int .u16 a0_5) := (blk_cell BK140.out 5).trans rfl
                    have hfz16_0 := blk_frozen BK140.out 0
                    have hfz16_1 := blk_frozen BK140.out 1
                    have hfz16_2 := blk_frozen BK140.out 2
                    have hfz16_3 := blk_frozen BK140.out 3
                    have hfz16_4 := blk_frozen BK140.out 4
                    have hfz16_5 := blk_frozen BK140.out 5
                    go_wp2
                    go_meet
                    case rel => exact ⟨_, (true), (by first | rfl | (simp; done) | (simp [*]; done)), H', ⟨by have := HK1.out; first | omega | exact Nat.le_refl _⟩, ⟨by (with_reducible repeat (first | apply Kd.R_alloc | apply Kd.R_drewN | apply Kd.R_drew)); exact HO_4.out⟩, ⟨by (with_reducible repeat (first | refine blk_drewN ?_ _ | refine blk_drew ?_ | refine blk_alloc ?_ _)); exact BK140.out⟩, ⟨by repeat (first | (with_reducible first | exact HB.out | apply below_alloc | apply pw_below_drewN | apply below_drew1 | refine below_set ?_ GE140.out) | exact HB.out)⟩⟩
                  · rw [if_neg c15] at H
                    have c15b0 : decide (15 < a0_3) = false := decide_eq_false c15
                    clear c15
                    have H' := Aside0.mk H
                    clear H
                    have hcz17_0 : w10.cell? ⟨gb140, 0, none⟩ = some (.int .u8 a0_0) := (blk_cell BK140.out 0).trans rfl
                    have hcz17_1 : w10.cell? ⟨gb140, 1, none⟩ = some (.int .u8 a0_1) := (blk_cell BK140.out 1).trans rfl
                    have hcz17_2 : w10.cell? ⟨gb140, 2, none⟩ = some (.int .u8 a0_2) := (blk_cell BK140.out 2).trans rfl
                    have hcz17_3 : w10.cell? ⟨gb140, 3, none⟩ = some (.int .u8 a0_3) := (blk_cell BK140.out 3).trans rfl
                    have hcz17_4 : w10.cell? ⟨gb140, 4, none⟩ = some (.int .u8 a0_4) := (blk_cell BK140.out 4).trans rfl
                    have hcz17_5 : w10.cell? ⟨gb140, 5, none⟩ = some (.int .u16 a0_5) := (blk_cell BK140.out 5).trans rfl
                    have hfz17_0 := blk_frozen BK140.out 0
                    have hfz17_1 := blk_frozen BK140.out 1
                    have hfz17_2 := blk_frozen BK140.out 2
                    have hfz17_3 := blk_frozen BK140.out 3
                    have hfz17_4 := blk_frozen BK140.out 4
                    have hfz17_5 := blk_frozen BK140.out 5
                    go_wp2
                    go_meet
                    case rel => exact ⟨_, (decide (a0_5 > 4095)), (by first | rfl | (simp; done) | (simp [*]; done)), H', ⟨by have := HK1.out; first | omega | exact Nat.le_refl _⟩, ⟨by (with_reducible repeat (first | apply Kd.R_alloc | apply Kd.R_drewN | apply Kd.R_drew)); exact HO_4.out⟩, ⟨by (with_reducible repeat (first | refine blk_drewN ?_ _ | refine blk_drew ?_ | refine blk_alloc ?_ _)); exact BK140.out⟩, ⟨by repeat (first | (with_reducible first | exact HB.out | apply below_alloc | apply pw_below_drewN | apply below_drew1 | refine below_set ?_ GE140.out) | exact HB.out)⟩⟩
            case rest =>
              clear HC8
              try clear c1
              try clear p1
              try clear q1
              try clear hx1
              try clear p2
              try clear c5
              try clear c5b0
              try clear c6
              try clear c6b0
              try clear c7
              try clear c7b0
              try clear c7b1
              try clear c8
              try clear c11
              try clear c11b0
              try clear c13
              try clear c13b0
              try clear p14
              try clear q14
              try clear hx14
              try clear c15
              try clear c15b0
              try clear hcz12_0
              try clear hcz12_1
              try clear hcz12_2
              try clear hcz12_3
              try clear hcz12_4
              try clear hcz12_5
              try clear hcz14_0
              try clear hcz14_1
              try clear hcz14_2
              try clear hcz14_3
              try clear hcz14_4
              try clear hcz14_5
              try clear hcz16_0
              try clear hcz16_1
              try clear hcz16_2
              try clear hcz16_3
              try clear hcz16_4
              try clear hcz16_5
              try clear hcz17_0
              try clear hcz17_1
              try clear hcz17_2
              try clear hcz17_3
              try clear hcz17_4
              try clear hcz17_5
              try clear hfz12_0
              try clear hfz12_1
              try clear hfz12_2
              try clear hfz12_3
              try clear hfz12_4
              try clear hfz12_5
              try clear hfz14_0
              try clear hfz14_1
              try clear hfz14_2
              try clear hfz14_3
              try clear hfz14_4
              try clear hfz14_5
              try clear hfz16_0
              try clear hfz16_1
              try clear hfz16_2
              try clear hfz16_3
              try clear hfz16_4
              try clear hfz16_5
              try clear hfz17_0
              try clear hfz17_1
              try clear hfz17_2
              try clear hfz17_3
              try clear hfz17_4
              try clear hfz17_5
              try clear hx144_0
              try clear hx144_1
              try clear hx144_2
              try clear hx144_3
              try clear p144
              try clear p2
              try clear q144
              obtain ⟨kq, x41_7, rfl, HA, HJ7, HO_4, BK140, HB⟩ := hcut
              cases kq with
              | zero => exact absurd HA.out (by simp [vesperref16_Encode.j1])
              | succ kj7 =>
                have H := HA.out
                clear HA
                simp only [vesperref16_Encode.j1] at H
                by_cases c18 : x41_7 = true
                · subst c18
                  have H1 : (some (0, 160)) = some (r1, r2) := by rw [if_pos rfl] at H; exact H
                  clear H
                  have H := H1
                  clear H1
                  simp only [Option.some.injEq, Prod.mk.injEq] at H
                  obtain ⟨rfl, rfl⟩ := H
                  go_wp2
                  go_ret2
                  exact ⟨by first | rfl | (simp [errW_none, errW_some] <;> rfl) | (simp [*, errW_none, errW_some] <;> rfl), by repeat (first | (with_reducible first | exact HB.out | apply below_alloc | apply pw_below_drewN | apply below_drew1 | refine below_set ?_ GE140.out) | exact HB.out)⟩
                · replace c18 := Bool.eq_false_iff.mpr c18
                  subst c18
                  have H1 : (if 0 ≤ x5_1 then (if x5_1 < (t141.length : Int) then ((vesperref16_Word_word.f kj7 ((rd_T36 t141 x5_1).f0) ((rd_T36 t141 x5_1).f1) ((rd_T36 t141 x5_1).f2) ((rd_T36 t141 x5_1).f3) a0_0 a0_1 a0_2 a0_3 a0_4 a0_5).bind fun t146 => ((vesperref16_Decode.f kj7 t146).bind fun bt147 => (if (!(bt147.1 == a0_0) || (!(bt147.2.1 == a0_1) || (!(bt147.2.2.1 == a0_2) || (!(bt147.2.2.2.1 == a0_3) || (!(bt147.2.2.2.2.1 == a0_4) || (!(bt147.2.2.2.2.2.1 == a0_5))))))) = true then (some (0, 160)) else (some (t146, 0))))) else (none)) else (none)) = some (r1, r2) := by rw [if_neg (show ¬ (false = true) by decide)] at H; exact H
                  clear H
                  have H := H1
                  clear H1
                  by_cases c19 : 0 ≤ x5_1
                  · rw [if_pos c19] at H
                    have c19b0 : decide (0 ≤ x5_1) = true := decide_eq_true c19
                    clear c19
                    by_cases c20 : x5_1 < (t141.length : Int)
                    · rw [if_pos c20] at H
                      have c20b0 : decide (x5_1 < (t141.length : Int)) = true := decide_eq_true c20
                      clear c20
                      replace H := Option.bind_eq_some_iff.mp H
                      obtain ⟨t146, A210, H⟩ := H
                      replace H : ((vesperref16_Decode.f kj7 t146).bind fun bt147 => (if (!(bt147.1 == a0_0) || (!(bt147.2.1 == a0_1) || (!(bt147.2.2.1 == a0_2) || (!(bt147.2.2.2.1 == a0_3) || (!(bt147.2.2.2.2.1 == a0_4) || (!(bt147.2.2.2.2.2.1 == a0_5))))))) = true then (some (0, 160)) else (some (t146, 0)))) = some (r1, r2) := H
                      have A21 := Aside0.mk A210
                      clear A210
                      replace H := Option.bind_eq_some_iff.mp H
                      obtain ⟨⟨t147, t148, t149, t150, t151, t152, t153⟩, A220, H⟩ := H
                      replace H : (if (!(t147 == a0_0) || (!(t148 == a0_1) || (!(t149 == a0_2) || (!(t150 == a0_3) || (!(t151 == a0_4) || (!(t152 == a0_5))))))) = true then (some (0, 160)) else (some (t146, 0))) = some (r1, r2) := H
                      have A22 := Aside0.mk A220
                      clear A220
                      by_cases c23 : (!(t147 == a0_0) || (!(t148 == a0_1) || (!(t149 == a0_2) || (!(t150 == a0_3) || (!(t151 == a0_4) || (!(t152 == a0_5))))))) = true
                      · rw [if_pos c23] at H
                        have c23b0 : (!(t147 == a0_0) || (!(t148 == a0_1) || (!(t149 == a0_2) || (!(t150 == a0_3) || (!(t151 == a0_4) || (!(t152 == a0_5))))))) = true := c23
                        clear c23
                        simp only [Option.some.injEq, Prod.mk.injEq] at H
                        obtain ⟨rfl, rfl⟩ := H
                        try go_wp2
                        have n0_ := Aside0.mk (Kd.R_drew HO_4.out)
                        have n1_ := Aside0.mk (blk_drew BK140.out)
                        have n2_ := Aside0.mk (below_drew1 HB.out)
                        clear HO_4
                        clear BK140
                        clear HB
                        have HO_4 := n0_
                        have BK140 := n1_
                        have HB := n2_
                        clear n0_ n1_ n2_
                        have p145 : 0 ≤ (x5_1 : Int) := of_decide_eq_true (by first | (with_reducible assumption) | assumption)
                        have q145 : x5_1 < (t141.length : Int) := of_decide_eq_true (by first | (with_reducible assumption) | assumption)
                        obtain ⟨ad145, e145, hx145_0, hx145_1, hx145_2, hx145_3⟩ := at_T36 (Kd.R_reads' HO_4.out).2.2 x5_1 p145 q145
                        obtain rfl : ad144 = ad145 := (by injection e145)
                        replace p145 := eq_true p145
                        replace q145 := eq_true q145
                        refine start_ (n := 7) (S := fun w' => w'.cell? ⟨gb140, 0, none⟩ = some (.int .u8 a0_0) ∧ w'.cell? ⟨gb140, 1, none⟩ = some (.int .u8 a0_1) ∧ w'.cell? ⟨gb140, 2, none⟩ = some (.int .u8 a0_2) ∧ w'.cell? ⟨gb140, 3, none⟩ = some (.int .u8 a0_3) ∧ w'.cell? ⟨gb140, 4, none⟩ = some (.int .u8 a0_4) ∧ w'.cell? ⟨gb140, 5, none⟩ = some (.int .u16 a0_5) ∧ w'.cell? (ad144.add ((x5_1).toNat * 4)) = some (.int .u8 ((rd_T36 t141 x5_1).f0)) ∧ w'.cell? ⟨(ad144.add ((x5_1).toNat * 4)).block, (ad144.add ((x5_1).toNat * 4)).off + 1, none⟩ = some (.int .u16 ((rd_T36 t141 x5_1).f1)) ∧ w'.cell? ⟨(ad144.add ((x5_1).toNat * 4)).block, (ad144.add ((x5_1).toNat * 4)).off + 2, none⟩ = some (.string ((rd_T36 t141 x5_1).f2)) ∧ w'.cell? ⟨(ad144.add ((x5_1).toNat * 4)).block, (ad144.add ((x5_1).toNat * 4)).off + 3, none⟩ = some (.string ((rd_T36 t141 x5_1).f3))) (ds := []) #[false, false, false, false, false, false, false] (by kernel_rfl) rfl rfl ⟨(blk_cell BK140.out 0).trans rfl, (blk_cell BK140.out 1).trans rfl, (blk_cell BK140.out 2).trans rfl, (blk_cell BK140.out 3).trans rfl, (blk_cell BK140.out 4).trans rfl, (blk_cell BK140.out 5).trans rfl, hx145_0, hx145_1, hx145_2, hx145_3⟩ (fun hHeld => ?_)
                        generalize wc.drew = w24 at HO_4 BK140 HB hx145_0 hx145_1 hx145_2 hx145_3 hHeld ⊢
                        refine pure_ (i := 0) (N := some 42) (v := ?_) (a' := ?_) #[true, false, false, false, false, false, false] rfl rfl (by kernel_rfl) (fun _ _ _ h => h) (Or.inl ⟨by rfl, ?_⟩) ?_ ?_
                        rotate_left
                        · intro w'
                          go_simp
                          with_reducible rfl
                        rotate_left
                        · simp only [Act.put, List.setIfInBounds_toArray, List.set_cons_zero, List.set_cons_succ, i64_w, i32_w]
                          rfl
                        refine pure_ (i := 1) (N := some 43) (v := ?_) (a' := ?_) #[true, true, false, false, false, false, false] rfl rfl (by kernel_rfl) (fun _ _ _ h => h) (Or.inl ⟨by rfl, ?_⟩) ?_ ?_
                        rotate_left
                        · intro w'
                          go_simp
                          with_reducible rfl
                        rotate_left
                        · simp only [Act.put, List.setIfInBounds_toArray, List.set_cons_zero, List.set_cons_succ, i64_w, i32_w]
                          rfl
                        refine pure_ (i := 2) (N := some 44) (v := ?_) (a' := ?_) #[true, true, true, false, false, false, false] rfl rfl (by kernel_rfl) (fun _ _ _ h => h) (Or.inl ⟨by rfl, ?_⟩) ?_ ?_
                        rotate_left
                        · intro w'
                          go_simp
                          with_reducible rfl
                        rotate_left
                        · simp only [Act.put, List.setIfInBounds_toArray, List.set_cons_zero, List.set_cons_succ, i64_w, i32_w]
                          rfl
                        refine take_ (i := 3) (N := some 45) (v := ?_) (a' := ?_) #[true, true, true, true, false, false, false] rfl rfl (by kernel_rfl) (fun _ _ _ h => h) (Or.inl ⟨by rfl, ?_⟩) hHeld ?_ ?_
                        rotate_left
                        · rintro w' ⟨s0, s1, s2, s3, s4, s5, s6, s7, s8, s9⟩
                          go_simp
                          with_reducible rfl
                        rotate_left
                        · simp only [Act.put, List.setIfInBounds_toArray, List.set_cons_zero, List.set_cons_succ, i64_w, i32_w]
                          rfl
                        refine take_ (i := 4) (N := some 46) (v := ?_) (a' := ?_) #[true, true, true, true, true, false, false] rfl rfl (by kernel_rfl) (fun _ _ _ h => h) (Or.inl ⟨by rfl, ?_⟩) hHeld ?_ ?_
                        rotate_left
                        · rintro w' ⟨s0, s1, s2, s3, s4, s5, s6, s7, s8, s9⟩
                          go_simp
                          with_reducible rfl
                        rotate_left
                        · simp only [Act.put, List.setIfInBounds_toArray, List.set_cons_zero, List.set_cons_succ, i64_w, i32_w]
                          rfl
                        refine one_ (i := 5) (N := some 47) #[true, true, true, true, true, true, false] rfl rfl (by kernel_rfl) (by decide) (fun K hK => ?_)
                        refine goes_ Try.func9 (by kernel_rfl) rfl #[.agg #[.int .u8 ((rd_T36 t141 x5_1).f0), .int .u16 ((rd_T36 t141 x5_1).f1), .string ((rd_T36 t141 x5_1).f2), .string ((rd_T36 t141 x5_1).f3)], .agg #[.int .u8 a0_0, .int .u8 a0_1, .int .u8 a0_2, .int .u8 a0_3, .int .u8 a0_4, .int .u16 a0_5]] (by rfl) rfl rfl (by (try simp only [List.map_toArray, List.map_cons, List.map_nil]); first | done | rfl | (simp only [List.length_drop, List.length_take]; rfl)) ?_
                        with_reducible refine (vesperref16_Word_word.calls kj7 ((rd_T36 t141 x5_1).f0) ((rd_T36 t141 x5_1).f1) ((rd_T36 t141 x5_1).f2) ((rd_T36 t141 x5_1).f3) a0_0 a0_1 a0_2 a0_3 a0_4 a0_5 t146 _ A21.out).mono ?_
                        rintro e w25 ⟨rfl, hb⟩
                        have HS6_ := (hb.cell (World.block_lt_of_cell? _ _ (hHeld.2.2.2.2.2.2.1))).trans (hHeld.2.2.2.2.2.2.1)
                        have HS7_ := (hb.cell (World.block_lt_of_cell? _ _ (hHeld.2.2.2.2.2.2.2.1))).trans (hHeld.2.2.2.2.2.2.2.1)
                        have HS8_ := (hb.cell (World.block_lt_of_cell? _ _ (hHeld.2.2.2.2.2.2.2.2.1))).trans (hHeld.2.2.2.2.2.2.2.2.1)
                        have HS9_ := (hb.cell (World.block_lt_of_cell? _ _ (hHeld.2.2.2.2.2.2.2.2.2))).trans (hHeld.2.2.2.2.2.2.2.2.2)
                        refine ⟨_, rfl, ?_⟩
                        have n0_ := Aside0.mk (Kd.R_below (by (with_reducible repeat (first | apply Kd.R_alloc | apply Kd.R_drewN | apply Kd.R_drew)); exact HO_4.out) hb)
                        have n1_ := Aside0.mk (blk_below (g := gb140) (o := .cells #[.int .u8 a0_0, .int .u8 a0_1, .int .u8 a0_2, .int .u8 a0_3, .int .u8 a0_4, .int .u16 a0_5] 25 (0, 0)) (by (with_reducible repeat (first | refine blk_drewN ?_ _ | refine blk_drew ?_ | refine blk_alloc ?_ _)); exact BK140.out) hb)
                        have n2_ := Aside0.mk (below_step (by repeat (first | (with_reducible first | exact HB.out | apply below_alloc | apply pw_below_drewN | apply below_drew1 | refine below_set ?_ GE140.out) | exact HB.out)) hb)
                        clear HO_4
                        clear BK140
                        clear HB
                        have HO_4 := n0_
                        have BK140 := n1_
                        have HB := n2_
                        clear n0_ n1_ n2_
                        (try clear hb)
                        (try clear hb2)
                        (try clear hk)
                        (try clear hi)
                        refine hK.out _ _ ⟨(blk_cell BK140.out 0).trans rfl, (blk_cell BK140.out 1).trans rfl, (blk_cell BK140.out 2).trans rfl, (blk_cell BK140.out 3).trans rfl, (blk_cell BK140.out 4).trans rfl, (blk_cell BK140.out 5).trans rfl, HS6_, HS7_, HS8_, HS9_⟩ (fun hHeld => ?_)
                        clear hK K
                        refine norm_ (a' := ?_) ?_ ?_
                        rotate_left
                        · show Act.put _ (some 47) _ = _
                          simp only [Act.put, List.setIfInBounds_toArray, List.set_cons_zero, List.set_cons_succ, i64_w, i32_w]
                          rfl
                        refine pure_ (i := 6) (N := some 6) (v := ?_) (a' := ?_) #[true, true, true, true, true, true, true] rfl rfl (by kernel_rfl) (fun _ _ _ h => h) (Or.inl ⟨by rfl, ?_⟩) ?_ ?_
                        rotate_left
                        · intro w'
                          go_simp
                          with_reducible rfl
                        rotate_left
                        · simp only [Act.put, List.setIfInBounds_toArray, List.set_cons_zero, List.set_cons_succ, i64_w, i32_w]
                          rfl
                        refine done_ (by kernel_rfl) ?_
                        try go_wp2_with (first | ((with_reducible refine gate_callee (f := 10) rfl ?_); refine goesL_ (some 50) rfl rfl Try.func10 (by kernel_rfl) rfl #[.int .u16 t146] rfl (by (try simp only [List.map_toArray, List.map_cons, List.map_nil]); first | done | rfl | (simp only [List.length_drop, List.length_take]; rfl)) ?_; (with_reducible refine (vesperref16_Decode.calls kj7 t146 t147 t148 t149 t150 t151 t152 t153 _ A22.out).mono ?_); rintro e w26 ⟨rfl, hb⟩; refine ⟨_, rfl, ?_⟩; have n0_ := Aside0.mk (Kd.R_below (by (with_reducible repeat (first | apply Kd.R_alloc | apply Kd.R_drewN | apply Kd.R_drew)); exact HO_4.out) hb); have n1_ := Aside0.mk (blk_below (g := gb140) (o := .cells #[.int .u8 a0_0, .int .u8 a0_1, .int .u8 a0_2, .int .u8 a0_3, .int .u8 a0_4, .int .u16 a0_5] 25 (0, 0)) (by (with_reducible repeat (first | refine blk_drewN ?_ _ | refine blk_drew ?_ | refine blk_alloc ?_ _)); exact BK140.out) hb); have n2_ := Aside0.mk (below_step (by repeat (first | (with_reducible first | exact HB.out | apply below_alloc | apply pw_below_drewN | apply below_drew1 | refine below_set ?_ GE140.out) | exact HB.out)) hb); clear HO_4; clear BK140; clear HB; have HO_4 := n0_; have BK140 := n1_; have HB := n2_; clear n0_ n1_ n2_; (try clear hb); (try clear hb2); (try clear hk); (try clear hi)) | ((with_reducible refine gate_dst (N := 7) rfl ?_); refine box_event ?hg (N := 7) ?hd (cs := #[.int .u8 0, .int .u8 0, .int .u8 0, .int .u8 0, .int .u8 0, .int .u16 0]) (t := 25) ?hr ?_; (case hd => rfl); (case hg => rfl); (case hr => first | (go_simp; done) | (go_simp; rfl)); intro gb154 hg w27 hbox hb; have n0_ := Aside0.mk (Kd.R_below (by (with_reducible repeat (first | apply Kd.R_alloc | apply Kd.R_drewN | apply Kd.R_drew)); exact HO_4.out) hb); have n1_ := Aside0.mk (blk_below (g := gb140) (o := .cells #[.int .u8 a0_0, .int .u8 a0_1, .int .u8 a0_2, .int .u8 a0_3, .int .u8 a0_4, .int .u16 a0_5] 25 (0, 0)) (by (with_reducible repeat (first | refine blk_drewN ?_ _ | refine blk_drew ?_ | refine blk_alloc ?_ _)); exact BK140.out) hb); have n2_ := Aside0.mk (below_step (by repeat (first | (with_reducible first | exact HB.out | apply below_alloc | apply pw_below_drewN | apply below_drew1 | refine below_set ?_ GE140.out) | exact HB.out)) hb); have n3_ := Aside0.mk (hbox); have n4_ := Aside0.mk ((by rw [hg]; exact (below_size (by repeat (first | (with_reducible first | exact HB.out | apply below_alloc | apply pw_below_drewN | apply below_drew1 | refine below_set ?_ GE140.out) | exact HB.out))) : w.heap.size ≤ gb154)); have n5_ := Aside0.mk ((by rw [hg]; exact (below_size (by repeat (first | (with_reducible first | exact HB.out | apply below_alloc | apply pw_below_drewN | apply below_drew1 | refine below_set ?_ GE140.out) | exact HB.out))) : w.heap.size ≤ gb154)); have n6_ := Aside0.mk ((by rw [hg]; exact Nat.ne_of_lt (blk_lt (g := gb140) (o := .cells #[.int .u8 a0_0, .int .u8 a0_1, .int .u8 a0_2, .int .u8 a0_3, .int .u8 a0_4, .int .u16 a0_5] 25 (0, 0)) (by (with_reducible repeat (first | refine blk_drewN ?_ _ | refine blk_drew ?_ | refine blk_alloc ?_ _)); exact BK140.out)) : gb140 ≠ gb154)); have n7_ := Aside0.mk ((by rw [hg]; exact Nat.ne_of_gt (blk_lt (g := gb140) (o := .cells #[.int .u8 a0_0, .int .u8 a0_1, .int .u8 a0_2, .int .u8 a0_3, .int .u8 a0_4, .int .u16 a0_5] 25 (0, 0)) (by (with_reducible repeat (first | refine blk_drewN ?_ _ | refine blk_drew ?_ | refine blk_alloc ?_ _)); exact BK140.out)) : gb154 ≠ gb140)); clear HO_4; clear BK140; clear HB; have HO_4 := n0_; have BK140 := n1_; have HB := n2_; have BK154 := n3_; have GW154 := n4_; have GE154 := n5_; have NB140_154 := n6_; have NB154_140 := n7_; clear n0_ n1_ n2_ n3_ n4_ n5_ n6_ n7_; clear hb hbox hg; have hnb28 := NB154_140.out; have hnc28 := NB140_154.out; have hcz29_0 : w27.cell? ⟨gb154, 0, none⟩ = some (.int .u8 0) := (blk_cell BK154.out 0).trans rfl; have hcz29_1 : w27.cell? ⟨gb154, 1, none⟩ = some (.int .u8 0) := (blk_cell BK154.out 1).trans rfl; have hcz29_2 : w27.cell? ⟨gb154, 2, none⟩ = some (.int .u8 0) := (blk_cell BK154.out 2).trans rfl; have hcz29_3 : w27.cell? ⟨gb154, 3, none⟩ = some (.int .u8 0) := (blk_cell BK154.out 3).trans rfl; have hcz29_4 : w27.cell? ⟨gb154, 4, none⟩ = some (.int .u8 0) := (blk_cell BK154.out 4).trans rfl; have hcz29_5 : w27.cell? ⟨gb154, 5, none⟩ = some (.int .u16 0) := (blk_cell BK154.out 5).trans rfl; have hfz29_0 := blk_frozen BK154.out 0; have hfz29_1 := blk_frozen BK154.out 1; have hfz29_2 := blk_frozen BK154.out 2; have hfz29_3 := blk_frozen BK154.out 3; have hfz29_4 := blk_frozen BK154.out 4; have hfz29_5 := blk_frozen BK154.out 5; have hcz30_0 : w27.cell? ⟨gb140, 0, none⟩ = some (.int .u8 a0_0) := (blk_cell BK140.out 0).trans rfl; have hcz30_1 : w27.cell? ⟨gb140, 1, none⟩ = some (.int .u8 a0_1) := (blk_cell BK140.out 1).trans rfl; have hcz30_2 : w27.cell? ⟨gb140, 2, none⟩ = some (.int .u8 a0_2) := (blk_cell BK140.out 2).trans rfl; have hcz30_3 : w27.cell? ⟨gb140, 3, none⟩ = some (.int .u8 a0_3) := (blk_cell BK140.out 3).trans rfl; have hcz30_4 : w27.cell? ⟨gb140, 4, none⟩ = some (.int .u8 a0_4) := (blk_cell BK140.out 4).trans rfl; have hcz30_5 : w27.cell? ⟨gb140, 5, none⟩ = some (.int .u16 a0_5) := (blk_cell BK140.out 5).trans rfl; have hfz30_0 := blk_frozen BK140.out 0; have hfz30_1 := blk_frozen BK140.out 1; have hfz30_2 := blk_frozen BK140.out 2; have hfz30_3 := blk_frozen BK140.out 3; have hfz30_4 := blk_frozen BK140.out 4; have hfz30_5 := blk_frozen BK140.out 5))
                        go_ret2
                        exact ⟨by first | rfl | (simp [errW_none, errW_some] <;> rfl) | (simp [*, errW_none, errW_some] <;> rfl), by repeat (first | (with_reducible first | exact HB.out | apply below_alloc | apply pw_below_drewN | apply below_drew1 | refine below_set ?_ GE140.out | refine below_set ?_ GE154.out) | exact HB.out)⟩
                      · rw [if_neg c23] at H
                        have c23b0 : (!(t147 == a0_0) || (!(t148 == a0_1) || (!(t149 == a0_2) || (!(t150 == a0_3) || (!(t151 == a0_4) || (!(t152 == a0_5))))))) = false := by simpa using c23
                        clear c23
                        simp only [Option.some.injEq, Prod.mk.injEq] at H
                        obtain ⟨rfl, rfl⟩ := H
                        try go_wp2
                        have n0_ := Aside0.mk (Kd.R_drew HO_4.out)
                        have n1_ := Aside0.mk (blk_drew BK140.out)
                        have n2_ := Aside0.mk (below_drew1 HB.out)
                        clear HO_4
                        clear BK140
                        clear HB
                        have HO_4 := n0_
                        have BK140 := n1_
                        have HB := n2_
                        clear n0_ n1_ n2_
                        have p145 : 0 ≤ (x5_1 : Int) := of_decide_eq_true (by first | (with_reducible assumption) | assumption)
                        have q145 : x5_1 < (t141.length : Int) := of_decide_eq_true (by first | (with_reducible assumption) | assumption)
                        obtain ⟨ad145, e145, hx145_0, hx145_1, hx145_2, hx145_3⟩ := at_T36 (Kd.R_reads' HO_4.out).2.2 x5_1 p145 q145
                        obtain rfl : ad144 = ad145 := (by injection e145)
                        replace p145 := eq_true p145
                        replace q145 := eq_true q145
                        refine start_ (n := 7) (S := fun w' => w'.cell? ⟨gb140, 0, none⟩ = some (.int .u8 a0_0) ∧ w'.cell? ⟨gb140, 1, none⟩ = some (.int .u8 a0_1) ∧ w'.cell? ⟨gb140, 2, none⟩ = some (.int .u8 a0_2) ∧ w'.cell? ⟨gb140, 3, none⟩ = some (.int .u8 a0_3) ∧ w'.cell? ⟨gb140, 4, none⟩ = some (.int .u8 a0_4) ∧ w'.cell? ⟨gb140, 5, none⟩ = some (.int .u16 a0_5) ∧ w'.cell? (ad144.add ((x5_1).toNat * 4)) = some (.int .u8 ((rd_T36 t141 x5_1).f0)) ∧ w'.cell? ⟨(ad144.add ((x5_1).toNat * 4)).block, (ad144.add ((x5_1).toNat * 4)).off + 1, none⟩ = some (.int .u16 ((rd_T36 t141 x5_1).f1)) ∧ w'.cell? ⟨(ad144.add ((x5_1).toNat * 4)).block, (ad144.add ((x5_1).toNat * 4)).off + 2, none⟩ = some (.string ((rd_T36 t141 x5_1).f2)) ∧ w'.cell? ⟨(ad144.add ((x5_1).toNat * 4)).block, (ad144.add ((x5_1).toNat * 4)).off + 3, none⟩ = some (.string ((rd_T36 t141 x5_1).f3))) (ds := []) #[false, false, false, false, false, false, false] (by kernel_rfl) rfl rfl ⟨(blk_cell BK140.out 0).trans rfl, (blk_cell BK140.out 1).trans rfl, (blk_cell BK140.out 2).trans rfl, (blk_cell BK140.out 3).trans rfl, (blk_cell BK140.out 4).trans rfl, (blk_cell BK140.out 5).trans rfl, hx145_0, hx145_1, hx145_2, hx145_3⟩ (fun hHeld => ?_)
                        generalize wc.drew = w31 at HO_4 BK140 HB hx145_0 hx145_1 hx145_2 hx145_3 hHeld ⊢
                        refine pure_ (i := 0) (N := some 42) (v := ?_) (a' := ?_) #[true, false, false, false, false, false, false] rfl rfl (by kernel_rfl) (fun _ _ _ h => h) (Or.inl ⟨by rfl, ?_⟩) ?_ ?_
                        rotate_left
                        · intro w'
                          go_simp
                          with_reducible rfl
                        rotate_left
                        · simp only [Act.put, List.setIfInBounds_toArray, List.set_cons_zero, List.set_cons_succ, i64_w, i32_w]
                          rfl
                        refine pure_ (i := 1) (N := some 43) (v := ?_) (a' := ?_) #[true, true, false, false, false, false, false] rfl rfl (by kernel_rfl) (fun _ _ _ h => h) (Or.inl ⟨by rfl, ?_⟩) ?_ ?_
                        rotate_left
                        · intro w'
                          go_simp
                          with_reducible rfl
                        rotate_left
                        · simp only [Act.put, List.setIfInBounds_toArray, List.set_cons_zero, List.set_cons_succ, i64_w, i32_w]
                          rfl
                        refine pure_ (i := 2) (N := some 44) (v := ?_) (a' := ?_) #[true, true, true, false, false, false, false] rfl rfl (by kernel_rfl) (fun _ _ _ h => h) (Or.inl ⟨by rfl, ?_⟩) ?_ ?_
                        rotate_left
                        · intro w'
                          go_simp
                          with_reducible rfl
                        rotate_left
                        · simp only [Act.put, List.setIfInBounds_toArray, List.set_cons_zero, List.set_cons_succ, i64_w, i32_w]
                          rfl
                        refine take_ (i := 3) (N := some 45) (v := ?_) (a' := ?_) #[true, true, true, true, false, false, false] rfl rfl (by kernel_rfl) (fun _ _ _ h => h) (Or.inl ⟨by rfl, ?_⟩) hHeld ?_ ?_
                        rotate_left
                        · rintro w' ⟨s0, s1, s2, s3, s4, s5, s6, s7, s8, s9⟩
                          go_simp
                          with_reducible rfl
                        rotate_left
                        · simp only [Act.put, List.setIfInBounds_toArray, List.set_cons_zero, List.set_cons_succ, i64_w, i32_w]
                          rfl
                        refine take_ (i := 4) (N := some 46) (v := ?_) (a' := ?_) #[true, true, true, true, true, false, false] rfl rfl (by kernel_rfl) (fun _ _ _ h => h) (Or.inl ⟨by rfl, ?_⟩) hHeld ?_ ?_
                        rotate_left
                        · rintro w' ⟨s0, s1, s2, s3, s4, s5, s6, s7, s8, s9⟩
                          go_simp
                          with_reducible rfl
                        rotate_left
                        · simp only [Act.put, List.setIfInBounds_toArray, List.set_cons_zero, List.set_cons_succ, i64_w, i32_w]
                          rfl
                        refine one_ (i := 5) (N := some 47) #[true, true, true, true, true, true, false] rfl rfl (by kernel_rfl) (by decide) (fun K hK => ?_)
                        refine goes_ Try.func9 (by kernel_rfl) rfl #[.agg #[.int .u8 ((rd_T36 t141 x5_1).f0), .int .u16 ((rd_T36 t141 x5_1).f1), .string ((rd_T36 t141 x5_1).f2), .string ((rd_T36 t141 x5_1).f3)], .agg #[.int .u8 a0_0, .int .u8 a0_1, .int .u8 a0_2, .int .u8 a0_3, .int .u8 a0_4, .int .u16 a0_5]] (by rfl) rfl rfl (by (try simp only [List.map_toArray, List.map_cons, List.map_nil]); first | done | rfl | (simp only [List.length_drop, List.length_take]; rfl)) ?_
                        with_reducible refine (vesperref16_Word_word.calls kj7 ((rd_T36 t141 x5_1).f0) ((rd_T36 t141 x5_1).f1) ((rd_T36 t141 x5_1).f2) ((rd_T36 t141 x5_1).f3) a0_0 a0_1 a0_2 a0_3 a0_4 a0_5 t146 _ A21.out).mono ?_
                        rintro e w32 ⟨rfl, hb⟩
                        have HS6_ := (hb.cell (World.block_lt_of_cell? _ _ (hHeld.2.2.2.2.2.2.1))).trans (hHeld.2.2.2.2.2.2.1)
                        have HS7_ := (hb.cell (World.block_lt_of_cell? _ _ (hHeld.2.2.2.2.2.2.2.1))).trans (hHeld.2.2.2.2.2.2.2.1)
                        have HS8_ := (hb.cell (World.block_lt_of_cell? _ _ (hHeld.2.2.2.2.2.2.2.2.1))).trans (hHeld.2.2.2.2.2.2.2.2.1)
                        have HS9_ := (hb.cell (World.block_lt_of_cell? _ _ (hHeld.2.2.2.2.2.2.2.2.2))).trans (hHeld.2.2.2.2.2.2.2.2.2)
                        refine ⟨_, rfl, ?_⟩
                        have n0_ := Aside0.mk (Kd.R_below (by (with_reducible repeat (first | apply Kd.R_alloc | apply Kd.R_drewN | apply Kd.R_drew)); exact HO_4.out) hb)
                        have n1_ := Aside0.mk (blk_below (g := gb140) (o := .cells #[.int .u8 a0_0, .int .u8 a0_1, .int .u8 a0_2, .int .u8 a0_3, .int .u8 a0_4, .int .u16 a0_5] 25 (0, 0)) (by (with_reducible repeat (first | refine blk_drewN ?_ _ | refine blk_drew ?_ | refine blk_alloc ?_ _)); exact BK140.out) hb)
                        have n2_ := Aside0.mk (below_step (by repeat (first | (with_reducible first | exact HB.out | apply below_alloc | apply pw_below_drewN | apply below_drew1 | refine below_set ?_ GE140.out) | exact HB.out)) hb)
                        clear HO_4
                        clear BK140
                        clear HB
                        have HO_4 := n0_
                        have BK140 := n1_
                        have HB := n2_
                        clear n0_ n1_ n2_
                        (try clear hb)
                        (try clear hb2)
                        (try clear hk)
                        (try clear hi)
                        refine hK.out _ _ ⟨(blk_cell BK140.out 0).trans rfl, (blk_cell BK140.out 1).trans rfl, (blk_cell BK140.out 2).trans rfl, (blk_cell BK140.out 3).trans rfl, (blk_cell BK140.out 4).trans rfl, (blk_cell BK140.out 5).trans rfl, HS6_, HS7_, HS8_, HS9_⟩ (fun hHeld => ?_)
                        clear hK K
                        refine norm_ (a' := ?_) ?_ ?_
                        rotate_left
                        · show Act.put _ (some 47) _ = _
                          simp only [Act.put, List.setIfInBounds_toArray, List.set_cons_zero, List.set_cons_succ, i64_w, i32_w]
                          rfl
                        refine pure_ (i := 6) (N := some 6) (v := ?_) (a' := ?_) #[true, true, true, true, true, true, true] rfl rfl (by kernel_rfl) (fun _ _ _ h => h) (Or.inl ⟨by rfl, ?_⟩) ?_ ?_
                        rotate_left
                        · intro w'
                          go_simp
                          with_reducible rfl
                        rotate_left
                        · simp only [Act.put, List.setIfInBounds_toArray, List.set_cons_zero, List.set_cons_succ, i64_w, i32_w]
                          rfl
                        refine done_ (by kernel_rfl) ?_
                        try go_wp2_with (first | ((with_reducible refine gate_callee (f := 10) rfl ?_); refine goesL_ (some 50) rfl rfl Try.func10 (by kernel_rfl) rfl #[.int .u16 t146] rfl (by (try simp only [List.map_toArray, List.map_cons, List.map_nil]); first | done | rfl | (simp only [List.length_drop, List.length_take]; rfl)) ?_; (with_reducible refine (vesperref16_Decode.calls kj7 t146 t147 t148 t149 t150 t151 t152 t153 _ A22.out).mono ?_); rintro e w33 ⟨rfl, hb⟩; refine ⟨_, rfl, ?_⟩; have n0_ := Aside0.mk (Kd.R_below (by (with_reducible repeat (first | apply Kd.R_alloc | apply Kd.R_drewN | apply Kd.R_drew)); exact HO_4.out) hb); have n1_ := Aside0.mk (blk_below (g := gb140) (o := .cells #[.int .u8 a0_0, .int .u8 a0_1, .int .u8 a0_2, .int .u8 a0_3, .int .u8 a0_4, .int .u16 a0_5] 25 (0, 0)) (by (with_reducible repeat (first | refine blk_drewN ?_ _ | refine blk_drew ?_ | refine blk_alloc ?_ _)); exact BK140.out) hb); have n2_ := Aside0.mk (below_step (by repeat (first | (with_reducible first | exact HB.out | apply below_alloc | apply pw_below_drewN | apply below_drew1 | refine below_set ?_ GE140.out) | exact HB.out)) hb); clear HO_4; clear BK140; clear HB; have HO_4 := n0_; have BK140 := n1_; have HB := n2_; clear n0_ n1_ n2_; (try clear hb); (try clear hb2); (try clear hk); (try clear hi)) | ((with_reducible refine gate_dst (N := 7) rfl ?_); refine box_event ?hg (N := 7) ?hd (cs := #[.int .u8 0, .int .u8 0, .int .u8 0, .int .u8 0, .int .u8 0, .int .u16 0]) (t := 25) ?hr ?_; (case hd => rfl); (case hg => rfl); (case hr => first | (go_simp; done) | (go_simp; rfl)); intro gb154 hg w34 hbox hb; have n0_ := Aside0.mk (Kd.R_below (by (with_reducible repeat (first | apply Kd.R_alloc | apply Kd.R_drewN | apply Kd.R_drew)); exact HO_4.out) hb); have n1_ := Aside0.mk (blk_below (g := gb140) (o := .cells #[.int .u8 a0_0, .int .u8 a0_1, .int .u8 a0_2, .int .u8 a0_3, .int .u8 a0_4, .int .u16 a0_5] 25 (0, 0)) (by (with_reducible repeat (first | refine blk_drewN ?_ _ | refine blk_drew ?_ | refine blk_alloc ?_ _)); exact BK140.out) hb); have n2_ := Aside0.mk (below_step (by repeat (first | (with_reducible first | exact HB.out | apply below_alloc | apply pw_below_drewN | apply below_drew1 | refine below_set ?_ GE140.out) | exact HB.out)) hb); have n3_ := Aside0.mk (hbox); have n4_ := Aside0.mk ((by rw [hg]; exact (below_size (by repeat (first | (with_reducible first | exact HB.out | apply below_alloc | apply pw_below_drewN | apply below_drew1 | refine below_set ?_ GE140.out) | exact HB.out))) : w.heap.size ≤ gb154)); have n5_ := Aside0.mk ((by rw [hg]; exact (below_size (by repeat (first | (with_reducible first | exact HB.out | apply below_alloc | apply pw_below_drewN | apply below_drew1 | refine below_set ?_ GE140.out) | exact HB.out))) : w.heap.size ≤ gb154)); have n6_ := Aside0.mk ((by rw [hg]; exact Nat.ne_of_lt (blk_lt (g := gb140) (o := .cells #[.int .u8 a0_0, .int .u8 a0_1, .int .u8 a0_2, .int .u8 a0_3, .int .u8 a0_4, .int .u16 a0_5] 25 (0, 0)) (by (with_reducible repeat (first | refine blk_drewN ?_ _ | refine blk_drew ?_ | refine blk_alloc ?_ _)); exact BK140.out)) : gb140 ≠ gb154)); have n7_ := Aside0.mk ((by rw [hg]; exact Nat.ne_of_gt (blk_lt (g := gb140) (o := .cells #[.int .u8 a0_0, .int .u8 a0_1, .int .u8 a0_2, .int .u8 a0_3, .int .u8 a0_4, .int .u16 a0_5] 25 (0, 0)) (by (with_reducible repeat (first | refine blk_drewN ?_ _ | refine blk_drew ?_ | refine blk_alloc ?_ _)); exact BK140.out)) : gb154 ≠ gb140)); clear HO_4; clear BK140; clear HB; have HO_4 := n0_; have BK140 := n1_; have HB := n2_; have BK154 := n3_; have GW154 := n4_; have GE154 := n5_; have NB140_154 := n6_; have NB154_140 := n7_; clear n0_ n1_ n2_ n3_ n4_ n5_ n6_ n7_; clear hb hbox hg; have hnb35 := NB154_140.out; have hnc35 := NB140_154.out; have hcz36_0 : w34.cell? ⟨gb154, 0, none⟩ = some (.int .u8 0) := (blk_cell BK154.out 0).trans rfl; have hcz36_1 : w34.cell? ⟨gb154, 1, none⟩ = some (.int .u8 0) := (blk_cell BK154.out 1).trans rfl; have hcz36_2 : w34.cell? ⟨gb154, 2, none⟩ = some (.int .u8 0) := (blk_cell BK154.out 2).trans rfl; have hcz36_3 : w34.cell? ⟨gb154, 3, none⟩ = some (.int .u8 0) := (blk_cell BK154.out 3).trans rfl; have hcz36_4 : w34.cell? ⟨gb154, 4, none⟩ = some (.int .u8 0) := (blk_cell BK154.out 4).trans rfl; have hcz36_5 : w34.cell? ⟨gb154, 5, none⟩ = some (.int .u16 0) := (blk_cell BK154.out 5).trans rfl; have hfz36_0 := blk_frozen BK154.out 0; have hfz36_1 := blk_frozen BK154.out 1; have hfz36_2 := blk_frozen BK154.out 2; have hfz36_3 := blk_frozen BK154.out 3; have hfz36_4 := blk_frozen BK154.out 4; have hfz36_5 := blk_frozen BK154.out 5; have hcz37_0 : w34.cell? ⟨gb140, 0, none⟩ = some (.int .u8 a0_0) := (blk_cell BK140.out 0).trans rfl; have hcz37_1 : w34.cell? ⟨gb140, 1, none⟩ = some (.int .u8 a0_1) := (blk_cell BK140.out 1).trans rfl; have hcz37_2 : w34.cell? ⟨gb140, 2, none⟩ = some (.int .u8 a0_2) := (blk_cell BK140.out 2).trans rfl; have hcz37_3 : w34.cell? ⟨gb140, 3, none⟩ = some (.int .u8 a0_3) := (blk_cell BK140.out 3).trans rfl; have hcz37_4 : w34.cell? ⟨gb140, 4, none⟩ = some (.int .u8 a0_4) := (blk_cell BK140.out 4).trans rfl; have hcz37_5 : w34.cell? ⟨gb140, 5, none⟩ = some (.int .u16 a0_5) := (blk_cell BK140.out 5).trans rfl; have hfz37_0 := blk_frozen BK140.out 0; have hfz37_1 := blk_frozen BK140.out 1; have hfz37_2 := blk_frozen BK140.out 2; have hfz37_3 := blk_frozen BK140.out 3; have hfz37_4 := blk_frozen BK140.out 4; have hfz37_5 := blk_frozen BK140.out 5))
                        go_ret2
                        exact ⟨by first | rfl | (simp [errW_none, errW_some] <;> rfl) | (simp [*, errW_none, errW_some] <;> rfl), by repeat (first | (with_reducible first | exact HB.out | apply below_alloc | apply pw_below_drewN | apply below_drew1 | refine below_set ?_ GE140.out | refine below_set ?_ GE154.out) | exact HB.out)⟩
                    · rw [if_neg c20] at H
                      exact absurd H (by simp)
                  · rw [if_neg c19] at H
                    exact absurd H (by simp)
          · rw [if_neg c7] at H
            have c7b0 : (((rd_T36 t141 x5_1).f0) == a0_0) = false := beq_eq_false_iff_ne.mpr c7
            have c7b1 : (((rd_T36 t141 x5_1).f0) != a0_0) = true := bne_iff_ne.mpr c7
            have H' := Aside0.mk H
            clear H
            obtain ⟨Ao38, co38, eo38⟩ := Kd.R_slice HO_4.out
            subst eo38
            try go_wp2
            have n0_ := Aside0.mk (Kd.R_drew HO_4.out)
            have n1_ := Aside0.mk (blk_drew BK140.out)
            have n2_ := Aside0.mk (below_drew1 HB.out)
            clear HO_4
            clear BK140
            clear HB
            have HO_4 := n0_
            have BK140 := n1_
            have HB := n2_
            clear n0_ n1_ n2_
            have p144 : 0 ≤ (x5_1 : Int) := of_decide_eq_true (by first | (with_reducible assumption) | assumption)
            have q144 : x5_1 < (t141.length : Int) := of_decide_eq_true (by first | (with_reducible assumption) | assumption)
            obtain ⟨ad144, e144, hx144_0, hx144_1, hx144_2, hx144_3⟩ := at_T36 (Kd.R_reads' HO_4.out).2.2 x5_1 p144 q144
            cases e144
            replace p144 := eq_true p144
            replace q144 := eq_true q144
            refine start_ (n := 8) (S := fun w' => w'.cell? ⟨gb140, 0, none⟩ = some (.int .u8 a0_0) ∧ w'.cell? ⟨gb140, 1, none⟩ = some (.int .u8 a0_1) ∧ w'.cell? ⟨gb140, 2, none⟩ = some (.int .u8 a0_2) ∧ w'.cell? ⟨gb140, 3, none⟩ = some (.int .u8 a0_3) ∧ w'.cell? ⟨gb140, 4, none⟩ = some (.int .u8 a0_4) ∧ w'.cell? ⟨gb140, 5, none⟩ = some (.int .u16 a0_5) ∧ w'.cell? (ad144.add ((x5_1).toNat * 4)) = some (.int .u8 ((rd_T36 t141 x5_1).f0)) ∧ w'.cell? ⟨(ad144.add ((x5_1).toNat * 4)).block, (ad144.add ((x5_1).toNat * 4)).off + 1, none⟩ = some (.int .u16 ((rd_T36 t141 x5_1).f1)) ∧ w'.cell? ⟨(ad144.add ((x5_1).toNat * 4)).block, (ad144.add ((x5_1).toNat * 4)).off + 2, none⟩ = some (.string ((rd_T36 t141 x5_1).f2)) ∧ w'.cell? ⟨(ad144.add ((x5_1).toNat * 4)).block, (ad144.add ((x5_1).toNat * 4)).off + 3, none⟩ = some (.string ((rd_T36 t141 x5_1).f3))) (ds := []) #[false, false, false, false, false, false, false, false] (by kernel_rfl) rfl rfl ⟨(blk_cell BK140.out 0).trans rfl, (blk_cell BK140.out 1).trans rfl, (blk_cell BK140.out 2).trans rfl, (blk_cell BK140.out 3).trans rfl, (blk_cell BK140.out 4).trans rfl, (blk_cell BK140.out 5).trans rfl, hx144_0, hx144_1, hx144_2, hx144_3⟩ (fun hHeld => ?_); refine with_tabW vesperref16_Encode.tab5 vesperref16_Encode.bits5 (fun HT_ HW_ => ?_)
            generalize wr.drew = w39 at HO_4 BK140 HB hx144_0 hx144_1 hx144_2 hx144_3 hHeld ⊢
            refine pure_ (i := 0) (N := some 16) (v := ?_) (a' := ?_) #[true, false, false, false, false, false, false, false] rfl rfl (any_of HT_.out (by kernel_rfl)) (fun _ _ _ h => h) (Or.inl ⟨by rfl, ?_⟩) ?_ ?_
            rotate_left
            · intro w'
              go_simp
              with_reducible rfl
            rotate_left
            · simp only [Act.put, List.setIfInBounds_toArray, List.set_cons_zero, List.set_cons_succ, i64_w, i32_w]
              rfl
            refine pure_ (i := 1) (N := some 17) (v := ?_) (a' := ?_) #[true, true, false, false, false, false, false, false] rfl rfl (any_of HT_.out (by kernel_rfl)) (fun _ _ _ h => h) (Or.inl ⟨by rfl, ?_⟩) ?_ ?_
            rotate_left
            · intro w'
              go_simp
              with_reducible rfl
            rotate_left
            · simp only [Act.put, List.setIfInBounds_toArray, List.set_cons_zero, List.set_cons_succ, i64_w, i32_w]
              rfl
            refine pure_ (i := 2) (N := some 18) (v := ?_) (a' := ?_) #[true, true, true, false, false, false, false, false] rfl rfl (any_of HT_.out (by kernel_rfl)) (fun _ _ _ h => h) (Or.inl ⟨by rfl, ?_⟩) ?_ ?_
            rotate_left
            · intro w'
              go_simp
              with_reducible rfl
            rotate_left
            · simp only [Act.put, List.setIfInBounds_toArray, List.set_cons_zero, List.set_cons_succ, i64_w, i32_w]
              rfl
            refine pure_ (i := 3) (N := some 19) (v := ?_) (a' := ?_) #[true, true, true, true, false, false, false, false] rfl rfl (any_of HT_.out (by kernel_rfl)) (fun _ _ _ h => h) (Or.inl ⟨by rfl, ?_⟩) ?_ ?_
            rotate_left
            · intro w'
              go_simp
              with_reducible rfl
            rotate_left
            · simp only [Act.put, List.setIfInBounds_toArray, List.set_cons_zero, List.set_cons_succ, i64_w, i32_w]
              rfl
            refine pure_ (i := 5) (N := some 21) (v := ?_) (a' := ?_) #[true, true, true, true, false, true, false, false] rfl rfl (any_of HT_.out (by kernel_rfl)) (fun _ _ _ h => h) (Or.inl ⟨by rfl, ?_⟩) ?_ ?_
            rotate_left
            · intro w'
              go_simp
              with_reducible rfl
            rotate_left
            · simp only [Act.put, List.setIfInBounds_toArray, List.set_cons_zero, List.set_cons_succ, i64_w, i32_w]
              rfl
            refine take_ (i := 4) (N := some 20) (v := ?_) (a' := ?_) #[true, true, true, true, true, true, false, false] rfl rfl (take_ofW HT_.out HW_.out (by kernel_rfl)) (fun _ _ _ h => h) (Or.inl ⟨by rfl, ?_⟩) hHeld ?_ ?_
            rotate_left
            · rintro w' ⟨s0, s1, s2, s3, s4, s5, s6, s7, s8, s9⟩
              go_simp
              with_reducible rfl
            rotate_left
            · simp only [Act.put, List.setIfInBounds_toArray, List.set_cons_zero, List.set_cons_succ, i64_w, i32_w]
              rfl
            refine take_ (i := 6) (N := some 22) (v := ?_) (a' := ?_) #[true, true, true, true, true, true, true, false] rfl rfl (take_ofW HT_.out HW_.out (by kernel_rfl)) (fun _ _ _ h => h) (Or.inl ⟨by rfl, ?_⟩) hHeld ?_ ?_
            rotate_left
            · rintro w' ⟨s0, s1, s2, s3, s4, s5, s6, s7, s8, s9⟩
              go_simp
              with_reducible rfl
            rotate_left
            · simp only [Act.put, List.setIfInBounds_toArray, List.set_cons_zero, List.set_cons_succ, i64_w, i32_w]
              rfl
            refine pure_ (i := 7) (N := some 23) (v := ?_) (a' := ?_) #[true, true, true, true, true, true, true, true] rfl rfl (any_of HT_.out (by kernel_rfl)) (fun _ _ _ h => h) (Or.inl ⟨by rfl, ?_⟩) ?_ ?_
            rotate_left
            · intro w'
              go_simp
              with_reducible rfl
            rotate_left
            · simp only [Act.put, List.setIfInBounds_toArray, List.set_cons_zero, List.set_cons_succ, i64_w, i32_w]
              rfl
            refine done_ (done_of HT_.out (by kernel_rfl)) ?_
            try go_wp2
            go_roundg k1
            case measure => have := HK1.out; omega
            case rel => exact ⟨(wrap64 (x5_1 + 1)), (by first | rfl | (simp; done) | (simp [*]; done)), H', ⟨by have := HK1.out; omega⟩, ⟨by (with_reducible repeat (first | apply Kd.R_alloc | apply Kd.R_drewN | apply Kd.R_drew)); exact HO_4.out⟩, ⟨by (with_reducible repeat (first | refine blk_drewN ?_ _ | refine blk_drew ?_ | refine blk_alloc ?_ _)); exact BK140.out⟩, ⟨by repeat (first | (with_reducible first | exact HB.out | apply below_alloc | apply pw_below_drewN | apply below_drew1 | refine below_set ?_ GE140.out) | exact HB.out)⟩⟩
        · rw [if_neg c6] at H
          exact absurd H (by simp)
      · rw [if_neg c5] at H
        have c5b0 : decide (x5_1 < (t141.length : Int)) = false := decide_eq_false c5
        clear c5
        simp only [Option.some.injEq, Prod.mk.injEq] at H
        obtain ⟨rfl, rfl⟩ := H
        obtain ⟨Ao40, co40, eo40⟩ := Kd.R_slice HO_4.out
        subst eo40
        go_wp2
        go_ret2
        exact ⟨by first | rfl | (simp [errW_none, errW_some] <;> rfl) | (simp [*, errW_none, errW_some] <;> rfl), by repeat (first | (with_reducible first | exact HB.out | apply below_alloc | apply pw_below_drewN | apply below_drew1 | refine below_set ?_ GE140.out) | exact HB.out)⟩

-- NOT PRINTED: function 3 (vesperlaw20_InterBounds)

end Go.Proofs.Ytffbkmcaecmmgaa.PInterBounds
