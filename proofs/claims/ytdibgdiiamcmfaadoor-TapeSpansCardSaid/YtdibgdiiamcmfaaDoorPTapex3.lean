/- Written by a program of this session (gprint.py, over the kit's printer): functions of the seat YtdibgdiiamcmfaaDoor and their contracts. No condition but each contract's own. -/
import Derived.Test.YtdibgdiiamcmfaaDoorTapeWriteC
import Derived.Test.YtdibgdiiamcmfaaDoorTapeReadC
import Derived.Test.YtdibgdiiamcmfaaDoorPTapex0
import Derived.Test.YtdibgdiiamcmfaaDoorPTapex1
namespace Go.Proofs.YtdibgdiiamcmfaaDoor.PTape
open Go.RowKit Go.Proofs.YtdibgdiiamcmfaaDoorW.PrintWords Go.Proofs.YtdibgdiiamcmfaaDoorW.PrintLast Go.Proofs.YtdibgdiiamcmfaaDoorW.PrintMore
open Go.Proofs.YtdibgdiiamcmfaaDoor.Reader (GOk)
attribute [local go_sem] max2_int min2_int max_two min_two max_three min_three max_four min_four   -- for this text's walks alone
set_option linter.unusedVariables false
set_option linter.unusedSimpArgs false

attribute [local go_sem high] eqA37
/-! ### tape_wave: function 24 -/
def tape_wave.f (a0 : Bool) : Option (Int × Int) := if a0 = true then (some (140, 140)) else (some (56, 56))
set_option maxHeartbeats 8000000 in
set_option maxRecDepth 100000 in
theorem tape_wave.calls (a0 : Bool) (r1 : Int) (r2 : Int) (w : World) (h : tape_wave.f a0 = some (r1, r2)) :
    Calls Tryd.prog 24 #[.bool a0] w fun e w' => e = .returned (.agg #[.int .i64 r1, .int .i64 r2]) ∧ Below w.heap.size w w' := by
  have hu37 := Tryd.underlying37
  have HB := Aside0.mk (Below.refl w.heap.size w)
  have H : (if a0 = true then (some (140, 140)) else (some (56, 56))) = some (r1, r2) := h
  clear h
  by_cases c2 : a0 = true
  · subst c2
    have H1 : (some (140, 140)) = some (r1, r2) := by rw [if_pos rfl] at H; exact H
    clear H
    have H := H1
    clear H1
    simp only [Option.some.injEq, Prod.mk.injEq] at H
    obtain ⟨rfl, rfl⟩ := H
    go_enter Tryd.func24, Tryd.ntmps24
    go_wp2_with (first | ((with_reducible refine gate_dst (N := 2) rfl ?_); refine box_event ?hg (N := 2) ?hd (cs := #[.int .i64 0, .int .i64 0]) (t := 37) ?hr ?_; (case hd => rfl); (case hg => rfl); (case hr => first | (go_simp; done) | (go_simp; rfl)); intro gb101 hg w3 hbox hb; have n0_ := Aside0.mk (below_step (by repeat (first | (with_reducible first | exact HB.out | apply below_alloc | apply pw_below_drewN | apply below_drew1) | exact HB.out)) hb); have n1_ := Aside0.mk (hbox); have n2_ := Aside0.mk ((by rw [hg]; exact (below_size (by repeat (first | (with_reducible first | exact HB.out | apply below_alloc | apply pw_below_drewN | apply below_drew1) | exact HB.out))) : w.heap.size ≤ gb101)); have n3_ := Aside0.mk ((by rw [hg]; exact (below_size (by repeat (first | (with_reducible first | exact HB.out | apply below_alloc | apply pw_below_drewN | apply below_drew1) | exact HB.out))) : w.heap.size ≤ gb101)); clear HB; have HB := n0_; have BK101 := n1_; have GW101 := n2_; have GE101 := n3_; clear n0_ n1_ n2_ n3_; clear hb hbox hg; have hcz4_0 : w3.cell? ⟨gb101, 0, none⟩ = some (.int .i64 0) := (blk_cell BK101.out 0).trans rfl; have hcz4_1 : w3.cell? ⟨gb101, 1, none⟩ = some (.int .i64 0) := (blk_cell BK101.out 1).trans rfl; have hfz4_0 := blk_frozen BK101.out 0; have hfz4_1 := blk_frozen BK101.out 1))
    refine bodyPost_ret (results_cell_row rfl _ _ gb101 37 #[.int .i64 140, .int .i64 140] (0, 0) _ rfl (by (with_reducible repeat (first | refine blk_drewN ?_ _ | refine blk_drew ?_ | refine blk_alloc ?_ _)); refine blk_put (cs := #[.int .i64 140, .int .i64 0]) ?_ 1 _ rfl; (with_reducible repeat (first | refine blk_drewN ?_ _ | refine blk_drew ?_ | refine blk_alloc ?_ _)); refine blk_put (cs := #[.int .i64 0, .int .i64 0]) ?_ 0 _ rfl; (with_reducible repeat (first | refine blk_drewN ?_ _ | refine blk_drew ?_ | refine blk_alloc ?_ _)); exact BK101.out) Tryd.underlying37 rfl (by kernel_rfl)) rfl ?_
    exact ⟨by first | rfl | (simp [errW_none, errW_some] <;> rfl) | (simp [*, errW_none, errW_some] <;> rfl), by repeat (first | (with_reducible first | exact HB.out | apply below_alloc | apply pw_below_drewN | apply below_drew1 | refine below_set ?_ GE101.out) | exact HB.out)⟩
  · replace c2 := Bool.eq_false_iff.mpr c2
    subst c2
    have H1 : (some (56, 56)) = some (r1, r2) := by rw [if_neg (show ¬ (false = true) by decide)] at H; exact H
    clear H
    have H := H1
    clear H1
    simp only [Option.some.injEq, Prod.mk.injEq] at H
    obtain ⟨rfl, rfl⟩ := H
    go_enter Tryd.func24, Tryd.ntmps24
    go_wp2_with (first | ((with_reducible refine gate_dst (N := 2) rfl ?_); refine box_event ?hg (N := 2) ?hd (cs := #[.int .i64 0, .int .i64 0]) (t := 37) ?hr ?_; (case hd => rfl); (case hg => rfl); (case hr => first | (go_simp; done) | (go_simp; rfl)); intro gb101 hg w5 hbox hb; have n0_ := Aside0.mk (below_step (by repeat (first | (with_reducible first | exact HB.out | apply below_alloc | apply pw_below_drewN | apply below_drew1) | exact HB.out)) hb); have n1_ := Aside0.mk (hbox); have n2_ := Aside0.mk ((by rw [hg]; exact (below_size (by repeat (first | (with_reducible first | exact HB.out | apply below_alloc | apply pw_below_drewN | apply below_drew1) | exact HB.out))) : w.heap.size ≤ gb101)); have n3_ := Aside0.mk ((by rw [hg]; exact (below_size (by repeat (first | (with_reducible first | exact HB.out | apply below_alloc | apply pw_below_drewN | apply below_drew1) | exact HB.out))) : w.heap.size ≤ gb101)); clear HB; have HB := n0_; have BK101 := n1_; have GW101 := n2_; have GE101 := n3_; clear n0_ n1_ n2_ n3_; clear hb hbox hg; have hcz6_0 : w5.cell? ⟨gb101, 0, none⟩ = some (.int .i64 0) := (blk_cell BK101.out 0).trans rfl; have hcz6_1 : w5.cell? ⟨gb101, 1, none⟩ = some (.int .i64 0) := (blk_cell BK101.out 1).trans rfl; have hfz6_0 := blk_frozen BK101.out 0; have hfz6_1 := blk_frozen BK101.out 1))
    refine bodyPost_ret (results_cell_row rfl _ _ gb101 37 #[.int .i64 56, .int .i64 56] (0, 0) _ rfl (by (with_reducible repeat (first | refine blk_drewN ?_ _ | refine blk_drew ?_ | refine blk_alloc ?_ _)); refine blk_put (cs := #[.int .i64 56, .int .i64 0]) ?_ 1 _ rfl; (with_reducible repeat (first | refine blk_drewN ?_ _ | refine blk_drew ?_ | refine blk_alloc ?_ _)); refine blk_put (cs := #[.int .i64 0, .int .i64 0]) ?_ 0 _ rfl; (with_reducible repeat (first | refine blk_drewN ?_ _ | refine blk_drew ?_ | refine blk_alloc ?_ _)); exact BK101.out) Tryd.underlying37 rfl (by kernel_rfl)) rfl ?_
    exact ⟨by first | rfl | (simp [errW_none, errW_some] <;> rfl) | (simp [*, errW_none, errW_some] <;> rfl), by repeat (first | (with_reducible first | exact HB.out | apply below_alloc | apply pw_below_drewN | apply below_drew1 | refine below_set ?_ GE101.out) | exact HB.out)⟩

-- NOT PRINTED: function 25 (tape_bitsOf)

-- given: tape_Write (a text of this session's own)

-- NOT PRINTED: function 33 (tape_reader_bit)

-- NOT PRINTED: function 27 (tape_reader_byte)

-- NOT PRINTED: function 34 (reflectlite_ValueOf)

-- NOT PRINTED: function 35 (reflectlite_Value_Type)

-- NOT PRINTED: function 36 (reflectlite_Value_IsNil)

-- NOT PRINTED: function 40 (reflectlite_TypeOf)

-- NOT PRINTED: function 41 (reflectlite_Value_Elem)

-- NOT PRINTED: function 42 (reflectlite_Value_Set)

-- NOT PRINTED: function 37 (errors_as)

-- NOT PRINTED: function 28 (errors_As)

-- given: tape_Read (a text of this session's own)

/-! ### vesperlaw12_awake: function 10 -/
def vesperlaw12_awake.j0 : Nat → List (S37) → Bool → Option (Bool)
  | 0, _, _ => none
  | k + 1, x1, x20 => if x20 = true then (some false) else ((tape_Read.f x1 1).bind fun bt110 => ((tape_Read.f x1 2).bind fun bt115 => (if 0 < (x1.length : Int) then (if (((rd_T37 x1 0).f0) == 56 && (((rd_T37 x1 0).f1) == 56)) = true then (if 2 < (x1.length : Int) then (if (((rd_T37 x1 2).f0) == 140 && (((rd_T37 x1 2).f1) == 140)) = true then (if bt110.2.1 = 0 then (if (bt110.1.length : Int) = 1 then (if 0 < (bt110.1.length : Int) then (if (rd bt110.1 0) = 1 then (if (bt115.1.length : Int) = 0 then (if bt115.2.1 = 122 then (some (bt115.2.2 == 12)) else (some false)) else (some false)) else (some false)) else (none)) else (some false)) else (some false)) else (some false)) else (none)) else (some false)) else (none))))
def vesperlaw12_awake.f (k : Nat)  : Option (Bool) := (tape_Write.f (([1] : List Int)) 2).bind fun bt106 => (if bt106.2 = 0 then (vesperlaw12_awake.j0 k bt106.1 ((bt106.1.length : Int) != 12)) else (vesperlaw12_awake.j0 k bt106.1 true))
theorem vesperlaw12_awake.mono_l : ∀ k, (∀ y0 y1, LeO (vesperlaw12_awake.j0 k y0 y1) (vesperlaw12_awake.j0 (k + 1) y0 y1))
  | 0 => fun _ _ r h => by simp [vesperlaw12_awake.j0] at h
  | k + 1 => by
    have ih0 := vesperlaw12_awake.mono_l k
    · intro y0 y1
      unfold vesperlaw12_awake.j0
      repeat' first
      | (with_reducible exact ih0 _ _)
      | (with_reducible exact LeO.refl _)
      | (with_reducible exact LeO.none _)
      | (with_reducible refine LeO.ite ?_ ?_)
      | (with_reducible refine LeO.bind ?_ (fun _ => ?_))
      | exact ih0 _ _
      | exact LeO.none _
      | refine LeO.ite ?_ ?_
      | refine LeO.bind ?_ (fun _ => ?_)
theorem vesperlaw12_awake.mono : ∀ k, LeO (vesperlaw12_awake.f k ) (vesperlaw12_awake.f (k + 1) ) := by
  intro  k
  have ih0 := vesperlaw12_awake.mono_l k
  unfold vesperlaw12_awake.f
  repeat' first
      | (with_reducible exact ih0 _ _)
      | (with_reducible exact LeO.refl _)
      | (with_reducible exact LeO.none _)
      | (with_reducible refine LeO.ite ?_ ?_)
      | (with_reducible refine LeO.bind ?_ (fun _ => ?_))
      | exact ih0 _ _
      | exact LeO.none _
      | refine LeO.ite ?_ ?_
      | refine LeO.bind ?_ (fun _ => ?_)
set_option maxHeartbeats 8000000 in
set_option maxRecDepth 100000 in
theorem vesperlaw12_awake.calls (k : Nat)  (r : Bool) (w : World) (h : vesperlaw12_awake.f k  = some r) (hG : GOk w := by first | exact HG.out | exact GOk.below HG.out HB.out | exact GOk.below HG.out (by repeat (first | (with_reducible first | exact HB.out | apply below_alloc | apply pw_below_drewN | apply below_drew1) | exact HB.out))) :
    Calls Tryd.prog 10 #[] w fun e w' => e = .returned (.bool r) ∧ Below w.heap.size w w' := by
  have HG := Aside0.mk hG
  clear hG
  have hu37 := Tryd.underlying37
  have HB := Aside0.mk (Below.refl w.heap.size w)
  have H : ((tape_Write.f (([1] : List Int)) 2).bind fun bt106 => (if bt106.2 = 0 then (vesperlaw12_awake.j0 k bt106.1 ((bt106.1.length : Int) != 12)) else (vesperlaw12_awake.j0 k bt106.1 true))) = some r := h
  clear h
  obtain ⟨y103, hy103⟩ : ∃ y_ : List Int, y_ = (([1] : List Int)) := ⟨_, rfl⟩
  replace H : ((tape_Write.f y103 2).bind fun bt106 => (if bt106.2 = 0 then (vesperlaw12_awake.j0 k bt106.1 ((bt106.1.length : Int) != 12)) else (vesperlaw12_awake.j0 k bt106.1 true))) = some r := by first | (rw [hy103]; with_reducible exact H) | (have H2_ := (Option.bind_some _ _).symm.trans H; rw [hy103]; with_reducible exact H2_) | (have H2_ := (Option.bind_some _ _).symm.trans H; with_reducible exact H2_) | with_reducible exact H | (rw [hy103]; exact H) | exact H
  have Ny103 := Aside0.mk hy103
  clear hy103
  replace H := Option.bind_eq_some_iff.mp H
  obtain ⟨⟨t106, t107⟩, A10, H⟩ := H
  replace H : (if t107 = 0 then (vesperlaw12_awake.j0 k t106 ((t106.length : Int) != 12)) else (vesperlaw12_awake.j0 k t106 true)) = some r := H
  have A1 := Aside0.mk A10
  clear A10
  have HC2 := Aside0.mk H
  clear H
  go_enter Tryd.func10, Tryd.ntmps10
  go_upto_region 2 with (first | ((with_reducible refine gate_dst (N := 10) rfl ?_); (try (refine gate_guard (by rfl) ?_; dsimp only)); refine Kd.R_lit (Kd.int .u8) _ 5 ?hg (N := 10) ?hd (xs := ([1] : List Int)) (inner := [.int .u8 1]) (ok := fun _ => True) (okp := fun _ => True) ?hr ?hp (fun _ hk => hk) trivial (Below.refl _ _) (Nat.le_refl _) (by simp) ?_; (case hd => rfl); (case hg => rfl); (case hr => first | (go_simp; done) | (go_simp; rfl)); (case hp => exact (Reps.one (show Kd.M (Kd.int .u8) _ _ _ 1 [.int .u8 1] from rfl) (Reps.none _ _))); intro v104 w3 ho4 hb hg_ hnew_; clear hg_ hnew_; (first | rw [← Ny103.out] at ho4 | (simp only [Int.reduceToNat] at ho4; rw [← Ny103.out] at ho4)); have n0_ := Aside0.mk (Kd.R_lower ho4 (below_size (by repeat (first | (with_reducible first | exact HB.out | apply below_alloc | apply pw_below_drewN | apply below_drew1) | exact HB.out)))); have n1_ := Aside0.mk (below_step (by repeat (first | (with_reducible first | exact HB.out | apply below_alloc | apply pw_below_drewN | apply below_drew1) | exact HB.out)) hb); clear HB; have HO105 := n0_; have HB := n1_; clear n0_ n1_; clear hb ho4; obtain ⟨Ao5, co5, eo5⟩ := Kd.R_slice HO105.out; subst eo5) | ((with_reducible refine gate_callee (f := 11) rfl ?_); refine goesL_ (some 11) rfl rfl Tryd.func11 (by kernel_rfl) rfl #[.slice Ao5 y103.length co5, .int .i64 2] rfl (by (try simp only [List.map_toArray, List.map_cons, List.map_nil]); first | done | rfl | (simp only [List.length_drop, List.length_take]; rfl)) ?_; (with_reducible refine (tape_Write.calls _ _ y103 2 t106 t107 _ ?side1 ?side2 A1.out).mono ?_); (case side1 => repeat (first | exact (Kd.R_reads' HO105.out).2.2 | (with_reducible refine Kd.C_alloc ?_ _) | (with_reducible refine Kd.C_drewN ?_ _) | (with_reducible refine Kd.C_drew ?_))); (case side2 => exact (Kd.R_reads' HO105.out).2.1); rintro e w6 ⟨v108, rfl, ho0, hb⟩; refine ⟨_, rfl, ?_⟩; have n0_ := Aside0.mk (Kd.R_below (by (with_reducible repeat (first | apply Kd.R_alloc | apply Kd.R_drewN | apply Kd.R_drew)); exact HO105.out) hb); have n1_ := Aside0.mk (Kd.R_lower ho0 (below_size (by repeat (first | (with_reducible first | exact HB.out | apply below_alloc | apply pw_below_drewN | apply below_drew1) | exact HB.out)))); have n2_ := Aside0.mk (below_step (by repeat (first | (with_reducible first | exact HB.out | apply below_alloc | apply pw_below_drewN | apply below_drew1) | exact HB.out)) hb); clear HO105; clear HB; have HO105 := n0_; have HO109 := n1_; have HB := n2_; clear n0_ n1_ n2_; (try clear hb); (try clear hb2); (try clear hk); (try clear hi); (try clear ho0)))
  (try simp only [Act.put, List.setIfInBounds_toArray, List.set_cons_zero, List.set_cons_succ])
  go_cut [20] (fun v20 wc => ∃ (kq : Nat) (x20_1 : Bool), v20 = .bool x20_1 ∧ Aside0 (vesperlaw12_awake.j0 kq t106 x20_1 = some r) ∧ Aside0 (kq ≤ k) ∧ Aside0 (Kd.R k37 37 wc w.heap.size (fun _ => True) v108 t106) ∧ Aside0 (Below w.heap.size w wc))
  case first =>
    have H := HC2.out
    clear HC2
    by_cases c7 : t107 = 0
    · rw [if_pos c7] at H
      have c7b0 : (t107 == 0) = true := beq_iff_eq.mpr c7
      have c7b1 : (t107 != 0) = false := bne_eq_false_iff_eq.mpr c7
      clear c7
      (first | rw [c7b0] | (simp only [i64_w, i32_w]; rw [c7b0]) | skip)
      have H' := Aside0.mk H
      clear H
      obtain ⟨Ao8, co8, eo8⟩ := Kd.R_slice HO109.out
      subst eo8
      go_wp2
      go_meet
      case rel => exact ⟨_, (((t106.length : Int) != 12)), (by first | rfl | (simp; done) | (simp [*]; done)), H', ⟨by first | omega | exact Nat.le_refl _⟩, ⟨by (with_reducible repeat (first | apply Kd.R_alloc | apply Kd.R_drewN | apply Kd.R_drew)); exact HO109.out⟩, ⟨by repeat (first | (with_reducible first | exact HB.out | apply below_alloc | apply pw_below_drewN | apply below_drew1) | exact HB.out)⟩⟩
    · rw [if_neg c7] at H
      have c7b0 : (t107 == 0) = false := beq_eq_false_iff_ne.mpr c7
      have c7b1 : (t107 != 0) = true := bne_iff_ne.mpr c7
      (first | rw [c7b0] | (simp only [i64_w, i32_w]; rw [c7b0]) | skip)
      have H' := Aside0.mk H
      clear H
      go_wp2
      go_meet
      case rel => exact ⟨_, (true), (by first | rfl | (simp; done) | (simp [*]; done)), H', ⟨by first | omega | exact Nat.le_refl _⟩, ⟨by (with_reducible repeat (first | apply Kd.R_alloc | apply Kd.R_drewN | apply Kd.R_drew)); exact HO109.out⟩, ⟨by repeat (first | (with_reducible first | exact HB.out | apply below_alloc | apply pw_below_drewN | apply below_drew1) | exact HB.out)⟩⟩
  case rest =>
    clear HC2
    try clear c1
    try clear p2
    try clear c7
    try clear c7b0
    try clear c7b1
    obtain ⟨kq, x20_1, rfl, HA, HJ1, HO_1, HB⟩ := hcut
    cases kq with
    | zero => exact absurd HA.out (by simp [vesperlaw12_awake.j0])
    | succ kj1 =>
      have H := HA.out
      clear HA
      simp only [vesperlaw12_awake.j0] at H
      by_cases c9 : x20_1 = true
      · subst c9
        have H1 : (some false) = some r := by rw [if_pos rfl] at H; exact H
        clear H
        have H := H1
        clear H1
        obtain rfl := Option.some.inj H
        go_wp2
        go_ret
        exact ⟨by first | rfl | (simp [errW_none, errW_some] <;> rfl) | (simp [*, errW_none, errW_some] <;> rfl), by repeat (first | (with_reducible first | exact HB.out | apply below_alloc | apply pw_below_drewN | apply below_drew1) | exact HB.out)⟩
      · replace c9 := Bool.eq_false_iff.mpr c9
        subst c9
        have H1 : ((tape_Read.f t106 1).bind fun bt110 => ((tape_Read.f t106 2).bind fun bt115 => (if 0 < (t106.length : Int) then (if (((rd_T37 t106 0).f0) == 56 && (((rd_T37 t106 0).f1) == 56)) = true then (if 2 < (t106.length : Int) then (if (((rd_T37 t106 2).f0) == 140 && (((rd_T37 t106 2).f1) == 140)) = true then (if bt110.2.1 = 0 then (if (bt110.1.length : Int) = 1 then (if 0 < (bt110.1.length : Int) then (if (rd bt110.1 0) = 1 then (if (bt115.1.length : Int) = 0 then (if bt115.2.1 = 122 then (some (bt115.2.2 == 12)) else (some false)) else (some false)) else (some false)) else (none)) else (some false)) else (some false)) else (some false)) else (none)) else (some false)) else (none)))) = some r := by rw [if_neg (show ¬ (false = true) by decide)] at H; exact H
        clear H
        have H := H1
        clear H1
        replace H := Option.bind_eq_some_iff.mp H
        obtain ⟨⟨t110, t111, t112⟩, A100, H⟩ := H
        replace H : ((tape_Read.f t106 2).bind fun bt115 => (if 0 < (t106.length : Int) then (if (((rd_T37 t106 0).f0) == 56 && (((rd_T37 t106 0).f1) == 56)) = true then (if 2 < (t106.length : Int) then (if (((rd_T37 t106 2).f0) == 140 && (((rd_T37 t106 2).f1) == 140)) = true then (if t111 = 0 then (if (t110.length : Int) = 1 then (if 0 < (t110.length : Int) then (if (rd t110 0) = 1 then (if (bt115.1.length : Int) = 0 then (if bt115.2.1 = 122 then (some (bt115.2.2 == 12)) else (some false)) else (some false)) else (some false)) else (none)) else (some false)) else (some false)) else (some false)) else (none)) else (some false)) else (none))) = some r := H
        have A10 := Aside0.mk A100
        clear A100
        replace H := Option.bind_eq_some_iff.mp H
        obtain ⟨⟨t115, t116, t117⟩, A110, H⟩ := H
        replace H : (if 0 < (t106.length : Int) then (if (((rd_T37 t106 0).f0) == 56 && (((rd_T37 t106 0).f1) == 56)) = true then (if 2 < (t106.length : Int) then (if (((rd_T37 t106 2).f0) == 140 && (((rd_T37 t106 2).f1) == 140)) = true then (if t111 = 0 then (if (t110.length : Int) = 1 then (if 0 < (t110.length : Int) then (if (rd t110 0) = 1 then (if (t115.length : Int) = 0 then (if t116 = 122 then (some (t117 == 12)) else (some false)) else (some false)) else (some false)) else (none)) else (some false)) else (some false)) else (some false)) else (none)) else (some false)) else (none)) = some r := H
        have A11 := Aside0.mk A110
        clear A110
        by_cases c12 : 0 < (t106.length : Int)
        · rw [if_pos c12] at H
          have c12b0 : decide (0 < (t106.length : Int)) = true := decide_eq_true c12
          have c12b1 : decide (0 < t106.length) = true := decide_eq_true (by omega)
          clear c12
          by_cases c13 : (((rd_T37 t106 0).f0) == 56 && (((rd_T37 t106 0).f1) == 56)) = true
          · rw [if_pos c13] at H
            have c13b0 : (((rd_T37 t106 0).f0) == 56 && (((rd_T37 t106 0).f1) == 56)) = true := c13
            (try (have c13b1 : decide (((rd_T37 t106 0).f0) = 56 && (((rd_T37 t106 0).f1) == 56)) = true := by simpa using c13))
            (try (have c13b2 : (((rd_T37 t106 0).f0) == 56 && (((rd_T37 t106 0).f1) == 56)) = true := by simpa using c13))
            clear c13
            by_cases c14 : 2 < (t106.length : Int)
            · rw [if_pos c14] at H
              have c14b0 : decide (2 < (t106.length : Int)) = true := decide_eq_true c14
              have c14b1 : decide (2 < t106.length) = true := decide_eq_true (by omega)
              clear c14
              by_cases c15 : (((rd_T37 t106 2).f0) == 140 && (((rd_T37 t106 2).f1) == 140)) = true
              · rw [if_pos c15] at H
                have c15b0 : (((rd_T37 t106 2).f0) == 140 && (((rd_T37 t106 2).f1) == 140)) = true := c15
                (try (have c15b1 : decide (((rd_T37 t106 2).f0) = 140 && (((rd_T37 t106 2).f1) == 140)) = true := by simpa using c15))
                (try (have c15b2 : (((rd_T37 t106 2).f0) == 140 && (((rd_T37 t106 2).f1) == 140)) = true := by simpa using c15))
                clear c15
                by_cases c16 : t111 = 0
                · rw [if_pos c16] at H
                  have c16b0 : (t111 == 0) = true := beq_iff_eq.mpr c16
                  have c16b1 : (t111 != 0) = false := bne_eq_false_iff_eq.mpr c16
                  clear c16
                  by_cases c17 : (t110.length : Int) = 1
                  · rw [if_pos c17] at H
                    have c17b0 : ((t110.length : Int) == 1) = true := beq_iff_eq.mpr c17
                    have c17b1 : ((t110.length : Int) != 1) = false := bne_eq_false_iff_eq.mpr c17
                    clear c17
                    by_cases c18 : 0 < (t110.length : Int)
                    · rw [if_pos c18] at H
                      have c18b0 : decide (0 < (t110.length : Int)) = true := decide_eq_true c18
                      have c18b1 : decide (0 < t110.length) = true := decide_eq_true (by omega)
                      clear c18
                      by_cases c19 : (rd t110 0) = 1
                      · rw [if_pos c19] at H
                        have c19b0 : ((rd t110 0) == 1) = true := beq_iff_eq.mpr c19
                        have c19b1 : ((rd t110 0) != 1) = false := bne_eq_false_iff_eq.mpr c19
                        clear c19
                        by_cases c20 : (t115.length : Int) = 0
                        · rw [if_pos c20] at H
                          have c20b0 : ((t115.length : Int) == 0) = true := beq_iff_eq.mpr c20
                          have c20b1 : ((t115.length : Int) != 0) = false := bne_eq_false_iff_eq.mpr c20
                          clear c20
                          by_cases c21 : t116 = 122
                          · rw [if_pos c21] at H
                            have c21b0 : (t116 == 122) = true := beq_iff_eq.mpr c21
                            have c21b1 : (t116 != 122) = false := bne_eq_false_iff_eq.mpr c21
                            clear c21
                            obtain rfl := Option.some.inj H
                            obtain ⟨Ao22, co22, eo22⟩ := Kd.R_slice HO_1.out
                            subst eo22
                            go_wp2_with (first | ((with_reducible refine gate_callee (f := 15) rfl ?_); refine goesL_ (some 23) rfl rfl Tryd.func15 (by kernel_rfl) rfl #[.slice Ao22 t106.length co22, .int .i64 1] rfl (by (try simp only [List.map_toArray, List.map_cons, List.map_nil]); first | done | rfl | (simp only [List.length_drop, List.length_take]; rfl)) ?_; (with_reducible refine (tape_Read.calls _ _ t106 1 t110 t111 t112 _ ?side1 ?side2 A10.out).mono ?_); (case side1 => repeat (first | exact (Kd.R_reads' HO_1.out).2.2 | (with_reducible refine Kd.C_alloc ?_ _) | (with_reducible refine Kd.C_drewN ?_ _) | (with_reducible refine Kd.C_drew ?_))); (case side2 => exact (Kd.R_reads' HO_1.out).2.1); rintro e w23 ⟨v113, rfl, ho0, hb⟩; refine ⟨_, rfl, ?_⟩; have n0_ := Aside0.mk (Kd.R_below (by (with_reducible repeat (first | apply Kd.R_alloc | apply Kd.R_drewN | apply Kd.R_drew)); exact HO_1.out) hb); have n1_ := Aside0.mk (Kd.R_lower ho0 (below_size (by repeat (first | (with_reducible first | exact HB.out | apply below_alloc | apply pw_below_drewN | apply below_drew1) | exact HB.out)))); have n2_ := Aside0.mk (below_step (by repeat (first | (with_reducible first | exact HB.out | apply below_alloc | apply pw_below_drewN | apply below_drew1) | exact HB.out)) hb); clear HO_1; clear HB; have HO_1 := n0_; have HO114 := n1_; have HB := n2_; clear n0_ n1_ n2_; (try clear hb); (try clear hb2); (try clear hk); (try clear hi); (try clear ho0)) | ((with_reducible refine gate_callee (f := 15) rfl ?_); refine goesL_ (some 29) rfl rfl Tryd.func15 (by kernel_rfl) rfl #[.slice Ao22 t106.length co22, .int .i64 2] rfl (by (try simp only [List.map_toArray, List.map_cons, List.map_nil]); first | done | rfl | (simp only [List.length_drop, List.length_take]; rfl)) ?_; (with_reducible refine (tape_Read.calls _ _ t106 2 t115 t116 t117 _ ?side1 ?side2 A11.out).mono ?_); (case side1 => repeat (first | exact (Kd.R_reads' HO_1.out).2.2 | (with_reducible refine Kd.C_alloc ?_ _) | (with_reducible refine Kd.C_drewN ?_ _) | (with_reducible refine Kd.C_drew ?_))); (case side2 => exact (Kd.R_reads' HO_1.out).2.1); rintro e w24 ⟨v118, rfl, ho0, hb⟩; refine ⟨_, rfl, ?_⟩; have n0_ := Aside0.mk (Kd.R_below (by (with_reducible repeat (first | apply Kd.R_alloc | apply Kd.R_drewN | apply Kd.R_drew)); exact HO_1.out) hb); have n1_ := Aside0.mk (Kd.R_elder' (by (with_reducible repeat (first | apply Kd.R_alloc | apply Kd.R_drewN | apply Kd.R_drew)); exact HO114.out) (Kd.R_base ho0) hb); have n2_ := Aside0.mk (Kd.R_lower (Kd.R_new' ho0 (Kd.R_lt (by (with_reducible repeat (first | apply Kd.R_alloc | apply Kd.R_drewN | apply Kd.R_drew)); exact HO114.out))) (below_size (by repeat (first | (with_reducible first | exact HB.out | apply below_alloc | apply pw_below_drewN | apply below_drew1) | exact HB.out)))); have n3_ := Aside0.mk (below_step (by repeat (first | (with_reducible first | exact HB.out | apply below_alloc | apply pw_below_drewN | apply below_drew1) | exact HB.out)) hb); clear HO_1; clear HO114; clear HB; have HO_1 := n0_; have HO114 := n1_; have HO119 := n2_; have HB := n3_; clear n0_ n1_ n2_ n3_; (try clear hb); (try clear hb2); (try clear hk); (try clear hi); (try clear ho0); have p120 : 0 ≤ (0 : Int) := (by omega); have q120 : 0 < (t106.length : Int) := of_decide_eq_true (by first | (with_reducible assumption) | assumption); obtain ⟨ad120, e120, hx120_0, hx120_1⟩ := at_T37 (Kd.R_reads' HO_1.out).2.2 0 p120 q120; cases e120; have qi120 : (0 < t106.length) = True := eq_true (by omega); (try rw [show ((0 : Int)).toNat = 0 from rfl] at hx120_0); (try rw [show 0 * 2 = 0 from rfl] at hx120_0); (try rw [Addr.add_zero'] at hx120_0); (try rw [show ((0 : Int)).toNat = 0 from rfl] at hx120_1); (try rw [show 0 * 2 = 0 from rfl] at hx120_1); (try rw [Addr.add_zero'] at hx120_1); replace p120 := eq_true p120; replace q120 := eq_true q120; have p121 : 0 ≤ (2 : Int) := (by omega); have q121 : 2 < (t106.length : Int) := of_decide_eq_true (by first | (with_reducible assumption) | assumption); obtain ⟨ad121, e121, hx121_0, hx121_1⟩ := at_T37 (Kd.R_reads' HO_1.out).2.2 2 p121 q121; obtain rfl : ad120 = ad121 := (by injection e121); (try simp only [show (2 : Int).toNat = 2 from rfl, Nat.reduceMul, Nat.reduceEqDiff, Go.Addr.add, ↓reduceIte] at hx121_0); (try simp only [show (2 : Int).toNat = 2 from rfl, Nat.reduceMul, Nat.reduceEqDiff, Go.Addr.add, ↓reduceIte] at hx121_1); have qi121 : (2 < t106.length) = True := eq_true (by omega); (try rw [show ((2 : Int)).toNat = 2 from rfl] at hx121_0); (try rw [show 2 * 2 = 4 from rfl] at hx121_0); (try rw [show ((2 : Int)).toNat = 2 from rfl] at hx121_1); (try rw [show 2 * 2 = 4 from rfl] at hx121_1); replace p121 := eq_true p121; replace q121 := eq_true q121; obtain ⟨Ao25, co25, eo25⟩ := Kd.R_slice HO114.out; subst eo25; have p122 : 0 ≤ (0 : Int) := (by omega); have q122 : 0 < (t110.length : Int) := of_decide_eq_true (by first | (with_reducible assumption) | assumption); obtain ⟨ad122, e122, hx122_0⟩ := Kd.at_int (Kd.R_reads' HO114.out).2.2 0 p122 q122; cases e122; have qi122 : (0 < t110.length) = True := eq_true (by omega); (try rw [show ((0 : Int)).toNat = 0 from rfl] at hx122_0); (try rw [Addr.add_zero'] at hx122_0); replace p122 := eq_true p122; replace q122 := eq_true q122; obtain ⟨Ao26, co26, eo26⟩ := Kd.R_slice HO119.out; subst eo26))
                            go_ret
                            exact ⟨by first | rfl | (simp [errW_none, errW_some] <;> rfl) | (simp [*, errW_none, errW_some] <;> rfl), by repeat (first | (with_reducible first | exact HB.out | apply below_alloc | apply pw_below_drewN | apply below_drew1) | exact HB.out)⟩
                          · rw [if_neg c21] at H
                            have c21b0 : (t116 == 122) = false := beq_eq_false_iff_ne.mpr c21
                            have c21b1 : (t116 != 122) = true := bne_iff_ne.mpr c21
                            obtain rfl := Option.some.inj H
                            obtain ⟨Ao27, co27, eo27⟩ := Kd.R_slice HO_1.out
                            subst eo27
                            go_wp2_with (first | ((with_reducible refine gate_callee (f := 15) rfl ?_); refine goesL_ (some 23) rfl rfl Tryd.func15 (by kernel_rfl) rfl #[.slice Ao27 t106.length co27, .int .i64 1] rfl (by (try simp only [List.map_toArray, List.map_cons, List.map_nil]); first | done | rfl | (simp only [List.length_drop, List.length_take]; rfl)) ?_; (with_reducible refine (tape_Read.calls _ _ t106 1 t110 t111 t112 _ ?side1 ?side2 A10.out).mono ?_); (case side1 => repeat (first | exact (Kd.R_reads' HO_1.out).2.2 | (with_reducible refine Kd.C_alloc ?_ _) | (with_reducible refine Kd.C_drewN ?_ _) | (with_reducible refine Kd.C_drew ?_))); (case side2 => exact (Kd.R_reads' HO_1.out).2.1); rintro e w28 ⟨v113, rfl, ho0, hb⟩; refine ⟨_, rfl, ?_⟩; have n0_ := Aside0.mk (Kd.R_below (by (with_reducible repeat (first | apply Kd.R_alloc | apply Kd.R_drewN | apply Kd.R_drew)); exact HO_1.out) hb); have n1_ := Aside0.mk (Kd.R_lower ho0 (below_size (by repeat (first | (with_reducible first | exact HB.out | apply below_alloc | apply pw_below_drewN | apply below_drew1) | exact HB.out)))); have n2_ := Aside0.mk (below_step (by repeat (first | (with_reducible first | exact HB.out | apply below_alloc | apply pw_below_drewN | apply below_drew1) | exact HB.out)) hb); clear HO_1; clear HB; have HO_1 := n0_; have HO114 := n1_; have HB := n2_; clear n0_ n1_ n2_; (try clear hb); (try clear hb2); (try clear hk); (try clear hi); (try clear ho0)) | ((with_reducible refine gate_callee (f := 15) rfl ?_); refine goesL_ (some 29) rfl rfl Tryd.func15 (by kernel_rfl) rfl #[.slice Ao27 t106.length co27, .int .i64 2] rfl (by (try simp only [List.map_toArray, List.map_cons, List.map_nil]); first | done | rfl | (simp only [List.length_drop, List.length_take]; rfl)) ?_; (with_reducible refine (tape_Read.calls _ _ t106 2 t115 t116 t117 _ ?side1 ?side2 A11.out).mono ?_); (case side1 => repeat (first | exact (Kd.R_reads' HO_1.out).2.2 | (with_reducible refine Kd.C_alloc ?_ _) | (with_reducible refine Kd.C_drewN ?_ _) | (with_reducible refine Kd.C_drew ?_))); (case side2 => exact (Kd.R_reads' HO_1.out).2.1); rintro e w29 ⟨v118, rfl, ho0, hb⟩; refine ⟨_, rfl, ?_⟩; have n0_ := Aside0.mk (Kd.R_below (by (with_reducible repeat (first | apply Kd.R_alloc | apply Kd.R_drewN | apply Kd.R_drew)); exact HO_1.out) hb); have n1_ := Aside0.mk (Kd.R_elder' (by (with_reducible repeat (first | apply Kd.R_alloc | apply Kd.R_drewN | apply Kd.R_drew)); exact HO114.out) (Kd.R_base ho0) hb); have n2_ := Aside0.mk (Kd.R_lower (Kd.R_new' ho0 (Kd.R_lt (by (with_reducible repeat (first | apply Kd.R_alloc | apply Kd.R_drewN | apply Kd.R_drew)); exact HO114.out))) (below_size (by repeat (first | (with_reducible first | exact HB.out | apply below_alloc | apply pw_below_drewN | apply below_drew1) | exact HB.out)))); have n3_ := Aside0.mk (below_step (by repeat (first | (with_reducible first | exact HB.out | apply below_alloc | apply pw_below_drewN | apply below_drew1) | exact HB.out)) hb); clear HO_1; clear HO114; clear HB; have HO_1 := n0_; have HO114 := n1_; have HO119 := n2_; have HB := n3_; clear n0_ n1_ n2_ n3_; (try clear hb); (try clear hb2); (try clear hk); (try clear hi); (try clear ho0); have p120 : 0 ≤ (0 : Int) := (by omega); have q120 : 0 < (t106.length : Int) := of_decide_eq_true (by first | (with_reducible assumption) | assumption); obtain ⟨ad120, e120, hx120_0, hx120_1⟩ := at_T37 (Kd.R_reads' HO_1.out).2.2 0 p120 q120; cases e120; have qi120 : (0 < t106.length) = True := eq_true (by omega); (try rw [show ((0 : Int)).toNat = 0 from rfl] at hx120_0); (try rw [show 0 * 2 = 0 from rfl] at hx120_0); (try rw [Addr.add_zero'] at hx120_0); (try rw [show ((0 : Int)).toNat = 0 from rfl] at hx120_1); (try rw [show 0 * 2 = 0 from rfl] at hx120_1); (try rw [Addr.add_zero'] at hx120_1); replace p120 := eq_true p120; replace q120 := eq_true q120; have p121 : 0 ≤ (2 : Int) := (by omega); have q121 : 2 < (t106.length : Int) := of_decide_eq_true (by first | (with_reducible assumption) | assumption); obtain ⟨ad121, e121, hx121_0, hx121_1⟩ := at_T37 (Kd.R_reads' HO_1.out).2.2 2 p121 q121; obtain rfl : ad120 = ad121 := (by injection e121); (try simp only [show (2 : Int).toNat = 2 from rfl, Nat.reduceMul, Nat.reduceEqDiff, Go.Addr.add, ↓reduceIte] at hx121_0); (try simp only [show (2 : Int).toNat = 2 from rfl, Nat.reduceMul, Nat.reduceEqDiff, Go.Addr.add, ↓reduceIte] at hx121_1); have qi121 : (2 < t106.length) = True := eq_true (by omega); (try rw [show ((2 : Int)).toNat = 2 from rfl] at hx121_0); (try rw [show 2 * 2 = 4 from rfl] at hx121_0); (try rw [show ((2 : Int)).toNat = 2 from rfl] at hx121_1); (try rw [show 2 * 2 = 4 from rfl] at hx121_1); replace p121 := eq_true p121; replace q121 := eq_true q121; obtain ⟨Ao30, co30, eo30⟩ := Kd.R_slice HO114.out; subst eo30; have p122 : 0 ≤ (0 : Int) := (by omega); have q122 : 0 < (t110.length : Int) := of_decide_eq_true (by first | (with_reducible assumption) | assumption); obtain ⟨ad122, e122, hx122_0⟩ := Kd.at_int (Kd.R_reads' HO114.out).2.2 0 p122 q122; cases e122; have qi122 : (0 < t110.length) = True := eq_true (by omega); (try rw [show ((0 : Int)).toNat = 0 from rfl] at hx122_0); (try rw [Addr.add_zero'] at hx122_0); replace p122 := eq_true p122; replace q122 := eq_true q122; obtain ⟨Ao31, co31, eo31⟩ := Kd.R_slice HO119.out; subst eo31))
                            go_ret
                            exact ⟨by first | rfl | (simp [errW_none, errW_some] <;> rfl) | (simp [*, errW_none, errW_some] <;> rfl), by repeat (first | (with_reducible first | exact HB.out | apply below_alloc | apply pw_below_drewN | apply below_drew1) | exact HB.out)⟩
                        · rw [if_neg c20] at H
                          have c20b0 : ((t115.length : Int) == 0) = false := beq_eq_false_iff_ne.mpr c20
                          have c20b1 : ((t115.length : Int) != 0) = true := bne_iff_ne.mpr c20
                          have c20b2 : ¬ (t115 = []) := fun h_ => c20 (by rw [h_]; rfl)
                          obtain rfl := Option.some.inj H
                          obtain ⟨Ao32, co32, eo32⟩ := Kd.R_slice HO_1.out
                          subst eo32
                          go_wp2_with (first | ((with_reducible refine gate_callee (f := 15) rfl ?_); refine goesL_ (some 23) rfl rfl Tryd.func15 (by kernel_rfl) rfl #[.slice Ao32 t106.length co32, .int .i64 1] rfl (by (try simp only [List.map_toArray, List.map_cons, List.map_nil]); first | done | rfl | (simp only [List.length_drop, List.length_take]; rfl)) ?_; (with_reducible refine (tape_Read.calls _ _ t106 1 t110 t111 t112 _ ?side1 ?side2 A10.out).mono ?_); (case side1 => repeat (first | exact (Kd.R_reads' HO_1.out).2.2 | (with_reducible refine Kd.C_alloc ?_ _) | (with_reducible refine Kd.C_drewN ?_ _) | (with_reducible refine Kd.C_drew ?_))); (case side2 => exact (Kd.R_reads' HO_1.out).2.1); rintro e w33 ⟨v113, rfl, ho0, hb⟩; refine ⟨_, rfl, ?_⟩; have n0_ := Aside0.mk (Kd.R_below (by (with_reducible repeat (first | apply Kd.R_alloc | apply Kd.R_drewN | apply Kd.R_drew)); exact HO_1.out) hb); have n1_ := Aside0.mk (Kd.R_lower ho0 (below_size (by repeat (first | (with_reducible first | exact HB.out | apply below_alloc | apply pw_below_drewN | apply below_drew1) | exact HB.out)))); have n2_ := Aside0.mk (below_step (by repeat (first | (with_reducible first | exact HB.out | apply below_alloc | apply pw_below_drewN | apply below_drew1) | exact HB.out)) hb); clear HO_1; clear HB; have HO_1 := n0_; have HO114 := n1_; have HB := n2_; clear n0_ n1_ n2_; (try clear hb); (try clear hb2); (try clear hk); (try clear hi); (try clear ho0)) | ((with_reducible refine gate_callee (f := 15) rfl ?_); refine goesL_ (some 29) rfl rfl Tryd.func15 (by kernel_rfl) rfl #[.slice Ao32 t106.length co32, .int .i64 2] rfl (by (try simp only [List.map_toArray, List.map_cons, List.map_nil]); first | done | rfl | (simp only [List.length_drop, List.length_take]; rfl)) ?_; (with_reducible refine (tape_Read.calls _ _ t106 2 t115 t116 t117 _ ?side1 ?side2 A11.out).mono ?_); (case side1 => repeat (first | exact (Kd.R_reads' HO_1.out).2.2 | (with_reducible refine Kd.C_alloc ?_ _) | (with_reducible refine Kd.C_drewN ?_ _) | (with_reducible refine Kd.C_drew ?_))); (case side2 => exact (Kd.R_reads' HO_1.out).2.1); rintro e w34 ⟨v118, rfl, ho0, hb⟩; refine ⟨_, rfl, ?_⟩; have n0_ := Aside0.mk (Kd.R_below (by (with_reducible repeat (first | apply Kd.R_alloc | apply Kd.R_drewN | apply Kd.R_drew)); exact HO_1.out) hb); have n1_ := Aside0.mk (Kd.R_elder' (by (with_reducible repeat (first | apply Kd.R_alloc | apply Kd.R_drewN | apply Kd.R_drew)); exact HO114.out) (Kd.R_base ho0) hb); have n2_ := Aside0.mk (Kd.R_lower (Kd.R_new' ho0 (Kd.R_lt (by (with_reducible repeat (first | apply Kd.R_alloc | apply Kd.R_drewN | apply Kd.R_drew)); exact HO114.out))) (below_size (by repeat (first | (with_reducible first | exact HB.out | apply below_alloc | apply pw_below_drewN | apply below_drew1) | exact HB.out)))); have n3_ := Aside0.mk (below_step (by repeat (first | (with_reducible first | exact HB.out | apply below_alloc | apply pw_below_drewN | apply below_drew1) | exact HB.out)) hb); clear HO_1; clear HO114; clear HB; have HO_1 := n0_; have HO114 := n1_; have HO119 := n2_; have HB := n3_; clear n0_ n1_ n2_ n3_; (try clear hb); (try clear hb2); (try clear hk); (try clear hi); (try clear ho0); have p120 : 0 ≤ (0 : Int) := (by omega); have q120 : 0 < (t106.length : Int) := of_decide_eq_true (by first | (with_reducible assumption) | assumption); obtain ⟨ad120, e120, hx120_0, hx120_1⟩ := at_T37 (Kd.R_reads' HO_1.out).2.2 0 p120 q120; cases e120; have qi120 : (0 < t106.length) = True := eq_true (by omega); (try rw [show ((0 : Int)).toNat = 0 from rfl] at hx120_0); (try rw [show 0 * 2 = 0 from rfl] at hx120_0); (try rw [Addr.add_zero'] at hx120_0); (try rw [show ((0 : Int)).toNat = 0 from rfl] at hx120_1); (try rw [show 0 * 2 = 0 from rfl] at hx120_1); (try rw [Addr.add_zero'] at hx120_1); replace p120 := eq_true p120; replace q120 := eq_true q120; have p121 : 0 ≤ (2 : Int) := (by omega); have q121 : 2 < (t106.length : Int) := of_decide_eq_true (by first | (with_reducible assumption) | assumption); obtain ⟨ad121, e121, hx121_0, hx121_1⟩ := at_T37 (Kd.R_reads' HO_1.out).2.2 2 p121 q121; obtain rfl : ad120 = ad121 := (by injection e121); (try simp only [show (2 : Int).toNat = 2 from rfl, Nat.reduceMul, Nat.reduceEqDiff, Go.Addr.add, ↓reduceIte] at hx121_0); (try simp only [show (2 : Int).toNat = 2 from rfl, Nat.reduceMul, Nat.reduceEqDiff, Go.Addr.add, ↓reduceIte] at hx121_1); have qi121 : (2 < t106.length) = True := eq_true (by omega); (try rw [show ((2 : Int)).toNat = 2 from rfl] at hx121_0); (try rw [show 2 * 2 = 4 from rfl] at hx121_0); (try rw [show ((2 : Int)).toNat = 2 from rfl] at hx121_1); (try rw [show 2 * 2 = 4 from rfl] at hx121_1); replace p121 := eq_true p121; replace q121 := eq_true q121; obtain ⟨Ao35, co35, eo35⟩ := Kd.R_slice HO114.out; subst eo35; have p122 : 0 ≤ (0 : Int) := (by omega); have q122 : 0 < (t110.length : Int) := of_decide_eq_true (by first | (with_reducible assumption) | assumption); obtain ⟨ad122, e122, hx122_0⟩ := Kd.at_int (Kd.R_reads' HO114.out).2.2 0 p122 q122; cases e122; have qi122 : (0 < t110.length) = True := eq_true (by omega); (try rw [show ((0 : Int)).toNat = 0 from rfl] at hx122_0); (try rw [Addr.add_zero'] at hx122_0); replace p122 := eq_true p122; replace q122 := eq_true q122; obtain ⟨Ao36, co36, eo36⟩ := Kd.R_slice HO119.out; subst eo36))
                          go_ret
                          exact ⟨by first | rfl | (simp [errW_none, errW_some] <;> rfl) | (simp [*, errW_none, errW_some] <;> rfl), by repeat (first | (with_reducible first | exact HB.out | apply below_alloc | apply pw_below_drewN | apply below_drew1) | exact HB.out)⟩
                      · rw [if_neg c19] at H
                        have c19b0 : ((rd t110 0) == 1) = false := beq_eq_false_iff_ne.mpr c19
                        have c19b1 : ((rd t110 0) != 1) = true := bne_iff_ne.mpr c19
                        obtain rfl := Option.some.inj H
                        obtain ⟨Ao37, co37, eo37⟩ := Kd.R_slice HO_1.out
                        subst eo37
                        go_wp2_with (first | ((with_reducible refine gate_callee (f := 15) rfl ?_); refine goesL_ (some 23) rfl rfl Tryd.func15 (by kernel_rfl) rfl #[.slice Ao37 t106.length co37, .int .i64 1] rfl (by (try simp only [List.map_toArray, List.map_cons, List.map_nil]); first | done | rfl | (simp only [List.length_drop, List.length_take]; rfl)) ?_; (with_reducible refine (tape_Read.calls _ _ t106 1 t110 t111 t112 _ ?side1 ?side2 A10.out).mono ?_); (case side1 => repeat (first | exact (Kd.R_reads' HO_1.out).2.2 | (with_reducible refine Kd.C_alloc ?_ _) | (with_reducible refine Kd.C_drewN ?_ _) | (with_reducible refine Kd.C_drew ?_))); (case side2 => exact (Kd.R_reads' HO_1.out).2.1); rintro e w38 ⟨v113, rfl, ho0, hb⟩; refine ⟨_, rfl, ?_⟩; have n0_ := Aside0.mk (Kd.R_below (by (with_reducible repeat (first | apply Kd.R_alloc | apply Kd.R_drewN | apply Kd.R_drew)); exact HO_1.out) hb); have n1_ := Aside0.mk (Kd.R_lower ho0 (below_size (by repeat (first | (with_reducible first | exact HB.out | apply below_alloc | apply pw_below_drewN | apply below_drew1) | exact HB.out)))); have n2_ := Aside0.mk (below_step (by repeat (first | (with_reducible first | exact HB.out | apply below_alloc | apply pw_below_drewN | apply below_drew1) | exact HB.out)) hb); clear HO_1; clear HB; have HO_1 := n0_; have HO114 := n1_; have HB := n2_; clear n0_ n1_ n2_; (try clear hb); (try clear hb2); (try clear hk); (try clear hi); (try clear ho0)) | ((with_reducible refine gate_callee (f := 15) rfl ?_); refine goesL_ (some 29) rfl rfl Tryd.func15 (by kernel_rfl) rfl #[.slice Ao37 t106.length co37, .int .i64 2] rfl (by (try simp only [List.map_toArray, List.map_cons, List.map_nil]); first | done | rfl | (simp only [List.length_drop, List.length_take]; rfl)) ?_; (with_reducible refine (tape_Read.calls _ _ t106 2 t115 t116 t117 _ ?side1 ?side2 A11.out).mono ?_); (case side1 => repeat (first | exact (Kd.R_reads' HO_1.out).2.2 | (with_reducible refine Kd.C_alloc ?_ _) | (with_reducible refine Kd.C_drewN ?_ _) | (with_reducible refine Kd.C_drew ?_))); (case side2 => exact (Kd.R_reads' HO_1.out).2.1); rintro e w39 ⟨v118, rfl, ho0, hb⟩; refine ⟨_, rfl, ?_⟩; have n0_ := Aside0.mk (Kd.R_below (by (with_reducible repeat (first | apply Kd.R_alloc | apply Kd.R_drewN | apply Kd.R_drew)); exact HO_1.out) hb); have n1_ := Aside0.mk (Kd.R_elder' (by (with_reducible repeat (first | apply Kd.R_alloc | apply Kd.R_drewN | apply Kd.R_drew)); exact HO114.out) (Kd.R_base ho0) hb); have n2_ := Aside0.mk (Kd.R_lower (Kd.R_new' ho0 (Kd.R_lt (by (with_reducible repeat (first | apply Kd.R_alloc | apply Kd.R_drewN | apply Kd.R_drew)); exact HO114.out))) (below_size (by repeat (first | (with_reducible first | exact HB.out | apply below_alloc | apply pw_below_drewN | apply below_drew1) | exact HB.out)))); have n3_ := Aside0.mk (below_step (by repeat (first | (with_reducible first | exact HB.out | apply below_alloc | apply pw_below_drewN | apply below_drew1) | exact HB.out)) hb); clear HO_1; clear HO114; clear HB; have HO_1 := n0_; have HO114 := n1_; have HO119 := n2_; have HB := n3_; clear n0_ n1_ n2_ n3_; (try clear hb); (try clear hb2); (try clear hk); (try clear hi); (try clear ho0); have p120 : 0 ≤ (0 : Int) := (by omega); have q120 : 0 < (t106.length : Int) := of_decide_eq_true (by first | (with_reducible assumption) | assumption); obtain ⟨ad120, e120, hx120_0, hx120_1⟩ := at_T37 (Kd.R_reads' HO_1.out).2.2 0 p120 q120; cases e120; have qi120 : (0 < t106.length) = True := eq_true (by omega); (try rw [show ((0 : Int)).toNat = 0 from rfl] at hx120_0); (try rw [show 0 * 2 = 0 from rfl] at hx120_0); (try rw [Addr.add_zero'] at hx120_0); (try rw [show ((0 : Int)).toNat = 0 from rfl] at hx120_1); (try rw [show 0 * 2 = 0 from rfl] at hx120_1); (try rw [Addr.add_zero'] at hx120_1); replace p120 := eq_true p120; replace q120 := eq_true q120; have p121 : 0 ≤ (2 : Int) := (by omega); have q121 : 2 < (t106.length : Int) := of_decide_eq_true (by first | (with_reducible assumption) | assumption); obtain ⟨ad121, e121, hx121_0, hx121_1⟩ := at_T37 (Kd.R_reads' HO_1.out).2.2 2 p121 q121; obtain rfl : ad120 = ad121 := (by injection e121); (try simp only [show (2 : Int).toNat = 2 from rfl, Nat.reduceMul, Nat.reduceEqDiff, Go.Addr.add, ↓reduceIte] at hx121_0); (try simp only [show (2 : Int).toNat = 2 from rfl, Nat.reduceMul, Nat.reduceEqDiff, Go.Addr.add, ↓reduceIte] at hx121_1); have qi121 : (2 < t106.length) = True := eq_true (by omega); (try rw [show ((2 : Int)).toNat = 2 from rfl] at hx121_0); (try rw [show 2 * 2 = 4 from rfl] at hx121_0); (try rw [show ((2 : Int)).toNat = 2 from rfl] at hx121_1); (try rw [show 2 * 2 = 4 from rfl] at hx121_1); replace p121 := eq_true p121; replace q121 := eq_true q121; obtain ⟨Ao40, co40, eo40⟩ := Kd.R_slice HO114.out; subst eo40; have p122 : 0 ≤ (0 : Int) := (by omega); have q122 : 0 < (t110.length : Int) := of_decide_eq_true (by first | (with_reducible assumption) | assumption); obtain ⟨ad122, e122, hx122_0⟩ := Kd.at_int (Kd.R_reads' HO114.out).2.2 0 p122 q122; cases e122; have qi122 : (0 < t110.length) = True := eq_true (by omega); (try rw [show ((0 : Int)).toNat = 0 from rfl] at hx122_0); (try rw [Addr.add_zero'] at hx122_0); replace p122 := eq_true p122; replace q122 := eq_true q122))
                        go_ret
                        exact ⟨by first | rfl | (simp [errW_none, errW_some] <;> rfl) | (simp [*, errW_none, errW_some] <;> rfl), by repeat (first | (with_reducible first | exact HB.out | apply below_alloc | apply pw_below_drewN | apply below_drew1) | exact HB.out)⟩
                    · rw [if_neg c18] at H
                      exact absurd H (by simp)
                  · rw [if_neg c17] at H
                    have c17b0 : ((t110.length : Int) == 1) = false := beq_eq_false_iff_ne.mpr c17
                    have c17b1 : ((t110.length : Int) != 1) = true := bne_iff_ne.mpr c17
                    obtain rfl := Option.some.inj H
                    obtain ⟨Ao41, co41, eo41⟩ := Kd.R_slice HO_1.out
                    subst eo41
                    go_wp2_with (first | ((with_reducible refine gate_callee (f := 15) rfl ?_); refine goesL_ (some 23) rfl rfl Tryd.func15 (by kernel_rfl) rfl #[.slice Ao41 t106.length co41, .int .i64 1] rfl (by (try simp only [List.map_toArray, List.map_cons, List.map_nil]); first | done | rfl | (simp only [List.length_drop, List.length_take]; rfl)) ?_; (with_reducible refine (tape_Read.calls _ _ t106 1 t110 t111 t112 _ ?side1 ?side2 A10.out).mono ?_); (case side1 => repeat (first | exact (Kd.R_reads' HO_1.out).2.2 | (with_reducible refine Kd.C_alloc ?_ _) | (with_reducible refine Kd.C_drewN ?_ _) | (with_reducible refine Kd.C_drew ?_))); (case side2 => exact (Kd.R_reads' HO_1.out).2.1); rintro e w42 ⟨v113, rfl, ho0, hb⟩; refine ⟨_, rfl, ?_⟩; have n0_ := Aside0.mk (Kd.R_below (by (with_reducible repeat (first | apply Kd.R_alloc | apply Kd.R_drewN | apply Kd.R_drew)); exact HO_1.out) hb); have n1_ := Aside0.mk (Kd.R_lower ho0 (below_size (by repeat (first | (with_reducible first | exact HB.out | apply below_alloc | apply pw_below_drewN | apply below_drew1) | exact HB.out)))); have n2_ := Aside0.mk (below_step (by repeat (first | (with_reducible first | exact HB.out | apply below_alloc | apply pw_below_drewN | apply below_drew1) | exact HB.out)) hb); clear HO_1; clear HB; have HO_1 := n0_; have HO114 := n1_; have HB := n2_; clear n0_ n1_ n2_; (try clear hb); (try clear hb2); (try clear hk); (try clear hi); (try clear ho0)) | ((with_reducible refine gate_callee (f := 15) rfl ?_); refine goesL_ (some 29) rfl rfl Tryd.func15 (by kernel_rfl) rfl #[.slice Ao41 t106.length co41, .int .i64 2] rfl (by (try simp only [List.map_toArray, List.map_cons, List.map_nil]); first | done | rfl | (simp only [List.length_drop, List.length_take]; rfl)) ?_; (with_reducible refine (tape_Read.calls _ _ t106 2 t115 t116 t117 _ ?side1 ?side2 A11.out).mono ?_); (case side1 => repeat (first | exact (Kd.R_reads' HO_1.out).2.2 | (with_reducible refine Kd.C_alloc ?_ _) | (with_reducible refine Kd.C_drewN ?_ _) | (with_reducible refine Kd.C_drew ?_))); (case side2 => exact (Kd.R_reads' HO_1.out).2.1); rintro e w43 ⟨v118, rfl, ho0, hb⟩; refine ⟨_, rfl, ?_⟩; have n0_ := Aside0.mk (Kd.R_below (by (with_reducible repeat (first | apply Kd.R_alloc | apply Kd.R_drewN | apply Kd.R_drew)); exact HO_1.out) hb); have n1_ := Aside0.mk (Kd.R_elder' (by (with_reducible repeat (first | apply Kd.R_alloc | apply Kd.R_drewN | apply Kd.R_drew)); exact HO114.out) (Kd.R_base ho0) hb); have n2_ := Aside0.mk (Kd.R_lower (Kd.R_new' ho0 (Kd.R_lt (by (with_reducible repeat (first | apply Kd.R_alloc | apply Kd.R_drewN | apply Kd.R_drew)); exact HO114.out))) (below_size (by repeat (first | (with_reducible first | exact HB.out | apply below_alloc | apply pw_below_drewN | apply below_drew1) | exact HB.out)))); have n3_ := Aside0.mk (below_step (by repeat (first | (with_reducible first | exact HB.out | apply below_alloc | apply pw_below_drewN | apply below_drew1) | exact HB.out)) hb); clear HO_1; clear HO114; clear HB; have HO_1 := n0_; have HO114 := n1_; have HO119 := n2_; have HB := n3_; clear n0_ n1_ n2_ n3_; (try clear hb); (try clear hb2); (try clear hk); (try clear hi); (try clear ho0); have p120 : 0 ≤ (0 : Int) := (by omega); have q120 : 0 < (t106.length : Int) := of_decide_eq_true (by first | (with_reducible assumption) | assumption); obtain ⟨ad120, e120, hx120_0, hx120_1⟩ := at_T37 (Kd.R_reads' HO_1.out).2.2 0 p120 q120; cases e120; have qi120 : (0 < t106.length) = True := eq_true (by omega); (try rw [show ((0 : Int)).toNat = 0 from rfl] at hx120_0); (try rw [show 0 * 2 = 0 from rfl] at hx120_0); (try rw [Addr.add_zero'] at hx120_0); (try rw [show ((0 : Int)).toNat = 0 from rfl] at hx120_1); (try rw [show 0 * 2 = 0 from rfl] at hx120_1); (try rw [Addr.add_zero'] at hx120_1); replace p120 := eq_true p120; replace q120 := eq_true q120; have p121 : 0 ≤ (2 : Int) := (by omega); have q121 : 2 < (t106.length : Int) := of_decide_eq_true (by first | (with_reducible assumption) | assumption); obtain ⟨ad121, e121, hx121_0, hx121_1⟩ := at_T37 (Kd.R_reads' HO_1.out).2.2 2 p121 q121; obtain rfl : ad120 = ad121 := (by injection e121); (try simp only [show (2 : Int).toNat = 2 from rfl, Nat.reduceMul, Nat.reduceEqDiff, Go.Addr.add, ↓reduceIte] at hx121_0); (try simp only [show (2 : Int).toNat = 2 from rfl, Nat.reduceMul, Nat.reduceEqDiff, Go.Addr.add, ↓reduceIte] at hx121_1); have qi121 : (2 < t106.length) = True := eq_true (by omega); (try rw [show ((2 : Int)).toNat = 2 from rfl] at hx121_0); (try rw [show 2 * 2 = 4 from rfl] at hx121_0); (try rw [show ((2 : Int)).toNat = 2 from rfl] at hx121_1); (try rw [show 2 * 2 = 4 from rfl] at hx121_1); replace p121 := eq_true p121; replace q121 := eq_true q121; obtain ⟨Ao44, co44, eo44⟩ := Kd.R_slice HO114.out; subst eo44))
                    go_ret
                    exact ⟨by first | rfl | (simp [errW_none, errW_some] <;> rfl) | (simp [*, errW_none, errW_some] <;> rfl), by repeat (first | (with_reducible first | exact HB.out | apply below_alloc | apply pw_below_drewN | apply below_drew1) | exact HB.out)⟩
                · rw [if_neg c16] at H
                  have c16b0 : (t111 == 0) = false := beq_eq_false_iff_ne.mpr c16
                  have c16b1 : (t111 != 0) = true := bne_iff_ne.mpr c16
                  obtain rfl := Option.some.inj H
                  obtain ⟨Ao45, co45, eo45⟩ := Kd.R_slice HO_1.out
                  subst eo45
                  go_wp2_with (first | ((with_reducible refine gate_callee (f := 15) rfl ?_); refine goesL_ (some 23) rfl rfl Tryd.func15 (by kernel_rfl) rfl #[.slice Ao45 t106.length co45, .int .i64 1] rfl (by (try simp only [List.map_toArray, List.map_cons, List.map_nil]); first | done | rfl | (simp only [List.length_drop, List.length_take]; rfl)) ?_; (with_reducible refine (tape_Read.calls _ _ t106 1 t110 t111 t112 _ ?side1 ?side2 A10.out).mono ?_); (case side1 => repeat (first | exact (Kd.R_reads' HO_1.out).2.2 | (with_reducible refine Kd.C_alloc ?_ _) | (with_reducible refine Kd.C_drewN ?_ _) | (with_reducible refine Kd.C_drew ?_))); (case side2 => exact (Kd.R_reads' HO_1.out).2.1); rintro e w46 ⟨v113, rfl, ho0, hb⟩; refine ⟨_, rfl, ?_⟩; have n0_ := Aside0.mk (Kd.R_below (by (with_reducible repeat (first | apply Kd.R_alloc | apply Kd.R_drewN | apply Kd.R_drew)); exact HO_1.out) hb); have n1_ := Aside0.mk (Kd.R_lower ho0 (below_size (by repeat (first | (with_reducible first | exact HB.out | apply below_alloc | apply pw_below_drewN | apply below_drew1) | exact HB.out)))); have n2_ := Aside0.mk (below_step (by repeat (first | (with_reducible first | exact HB.out | apply below_alloc | apply pw_below_drewN | apply below_drew1) | exact HB.out)) hb); clear HO_1; clear HB; have HO_1 := n0_; have HO114 := n1_; have HB := n2_; clear n0_ n1_ n2_; (try clear hb); (try clear hb2); (try clear hk); (try clear hi); (try clear ho0)) | ((with_reducible refine gate_callee (f := 15) rfl ?_); refine goesL_ (some 29) rfl rfl Tryd.func15 (by kernel_rfl) rfl #[.slice Ao45 t106.length co45, .int .i64 2] rfl (by (try simp only [List.map_toArray, List.map_cons, List.map_nil]); first | done | rfl | (simp only [List.length_drop, List.length_take]; rfl)) ?_; (with_reducible refine (tape_Read.calls _ _ t106 2 t115 t116 t117 _ ?side1 ?side2 A11.out).mono ?_); (case side1 => repeat (first | exact (Kd.R_reads' HO_1.out).2.2 | (with_reducible refine Kd.C_alloc ?_ _) | (with_reducible refine Kd.C_drewN ?_ _) | (with_reducible refine Kd.C_drew ?_))); (case side2 => exact (Kd.R_reads' HO_1.out).2.1); rintro e w47 ⟨v118, rfl, ho0, hb⟩; refine ⟨_, rfl, ?_⟩; have n0_ := Aside0.mk (Kd.R_below (by (with_reducible repeat (first | apply Kd.R_alloc | apply Kd.R_drewN | apply Kd.R_drew)); exact HO_1.out) hb); have n1_ := Aside0.mk (Kd.R_elder' (by (with_reducible repeat (first | apply Kd.R_alloc | apply Kd.R_drewN | apply Kd.R_drew)); exact HO114.out) (Kd.R_base ho0) hb); have n2_ := Aside0.mk (Kd.R_lower (Kd.R_new' ho0 (Kd.R_lt (by (with_reducible repeat (first | apply Kd.R_alloc | apply Kd.R_drewN | apply Kd.R_drew)); exact HO114.out))) (below_size (by repeat (first | (with_reducible first | exact HB.out | apply below_alloc | apply pw_below_drewN | apply below_drew1) | exact HB.out)))); have n3_ := Aside0.mk (below_step (by repeat (first | (with_reducible first | exact HB.out | apply below_alloc | apply pw_below_drewN | apply below_drew1) | exact HB.out)) hb); clear HO_1; clear HO114; clear HB; have HO_1 := n0_; have HO114 := n1_; have HO119 := n2_; have HB := n3_; clear n0_ n1_ n2_ n3_; (try clear hb); (try clear hb2); (try clear hk); (try clear hi); (try clear ho0); have p120 : 0 ≤ (0 : Int) := (by omega); have q120 : 0 < (t106.length : Int) := of_decide_eq_true (by first | (with_reducible assumption) | assumption); obtain ⟨ad120, e120, hx120_0, hx120_1⟩ := at_T37 (Kd.R_reads' HO_1.out).2.2 0 p120 q120; cases e120; have qi120 : (0 < t106.length) = True := eq_true (by omega); (try rw [show ((0 : Int)).toNat = 0 from rfl] at hx120_0); (try rw [show 0 * 2 = 0 from rfl] at hx120_0); (try rw [Addr.add_zero'] at hx120_0); (try rw [show ((0 : Int)).toNat = 0 from rfl] at hx120_1); (try rw [show 0 * 2 = 0 from rfl] at hx120_1); (try rw [Addr.add_zero'] at hx120_1); replace p120 := eq_true p120; replace q120 := eq_true q120; have p121 : 0 ≤ (2 : Int) := (by omega); have q121 : 2 < (t106.length : Int) := of_decide_eq_true (by first | (with_reducible assumption) | assumption); obtain ⟨ad121, e121, hx121_0, hx121_1⟩ := at_T37 (Kd.R_reads' HO_1.out).2.2 2 p121 q121; obtain rfl : ad120 = ad121 := (by injection e121); (try simp only [show (2 : Int).toNat = 2 from rfl, Nat.reduceMul, Nat.reduceEqDiff, Go.Addr.add, ↓reduceIte] at hx121_0); (try simp only [show (2 : Int).toNat = 2 from rfl, Nat.reduceMul, Nat.reduceEqDiff, Go.Addr.add, ↓reduceIte] at hx121_1); have qi121 : (2 < t106.length) = True := eq_true (by omega); (try rw [show ((2 : Int)).toNat = 2 from rfl] at hx121_0); (try rw [show 2 * 2 = 4 from rfl] at hx121_0); (try rw [show ((2 : Int)).toNat = 2 from rfl] at hx121_1); (try rw [show 2 * 2 = 4 from rfl] at hx121_1); replace p121 := eq_true p121; replace q121 := eq_true q121))
                  go_ret
                  exact ⟨by first | rfl | (simp [errW_none, errW_some] <;> rfl) | (simp [*, errW_none, errW_some] <;> rfl), by repeat (first | (with_reducible first | exact HB.out | apply below_alloc | apply pw_below_drewN | apply below_drew1) | exact HB.out)⟩
              · rw [if_neg c15] at H
                have c15b0 : (((rd_T37 t106 2).f0) == 140 && (((rd_T37 t106 2).f1) == 140)) = false := by simpa using c15
                (try (have c15b1 : decide (((rd_T37 t106 2).f0) = 140 && (((rd_T37 t106 2).f1) == 140)) = false := by simpa using c15))
                (try (have c15b2 : (((rd_T37 t106 2).f0) == 140 && (((rd_T37 t106 2).f1) == 140)) = false := by simpa using c15))
                (try (have c15b3 : ¬ (((rd_T37 t106 2).f0) = 140 && (((rd_T37 t106 2).f1) == 140)) := by simpa using c15))
                clear c15
                obtain rfl := Option.some.inj H
                obtain ⟨Ao48, co48, eo48⟩ := Kd.R_slice HO_1.out
                subst eo48
                go_wp2_with (first | ((with_reducible refine gate_callee (f := 15) rfl ?_); refine goesL_ (some 23) rfl rfl Tryd.func15 (by kernel_rfl) rfl #[.slice Ao48 t106.length co48, .int .i64 1] rfl (by (try simp only [List.map_toArray, List.map_cons, List.map_nil]); first | done | rfl | (simp only [List.length_drop, List.length_take]; rfl)) ?_; (with_reducible refine (tape_Read.calls _ _ t106 1 t110 t111 t112 _ ?side1 ?side2 A10.out).mono ?_); (case side1 => repeat (first | exact (Kd.R_reads' HO_1.out).2.2 | (with_reducible refine Kd.C_alloc ?_ _) | (with_reducible refine Kd.C_drewN ?_ _) | (with_reducible refine Kd.C_drew ?_))); (case side2 => exact (Kd.R_reads' HO_1.out).2.1); rintro e w49 ⟨v113, rfl, ho0, hb⟩; refine ⟨_, rfl, ?_⟩; have n0_ := Aside0.mk (Kd.R_below (by (with_reducible repeat (first | apply Kd.R_alloc | apply Kd.R_drewN | apply Kd.R_drew)); exact HO_1.out) hb); have n1_ := Aside0.mk (Kd.R_lower ho0 (below_size (by repeat (first | (with_reducible first | exact HB.out | apply below_alloc | apply pw_below_drewN | apply below_drew1) | exact HB.out)))); have n2_ := Aside0.mk (below_step (by repeat (first | (with_reducible first | exact HB.out | apply below_alloc | apply pw_below_drewN | apply below_drew1) | exact HB.out)) hb); clear HO_1; clear HB; have HO_1 := n0_; have HO114 := n1_; have HB := n2_; clear n0_ n1_ n2_; (try clear hb); (try clear hb2); (try clear hk); (try clear hi); (try clear ho0)) | ((with_reducible refine gate_callee (f := 15) rfl ?_); refine goesL_ (some 29) rfl rfl Tryd.func15 (by kernel_rfl) rfl #[.slice Ao48 t106.length co48, .int .i64 2] rfl (by (try simp only [List.map_toArray, List.map_cons, List.map_nil]); first | done | rfl | (simp only [List.length_drop, List.length_take]; rfl)) ?_; (with_reducible refine (tape_Read.calls _ _ t106 2 t115 t116 t117 _ ?side1 ?side2 A11.out).mono ?_); (case side1 => repeat (first | exact (Kd.R_reads' HO_1.out).2.2 | (with_reducible refine Kd.C_alloc ?_ _) | (with_reducible refine Kd.C_drewN ?_ _) | (with_reducible refine Kd.C_drew ?_))); (case side2 => exact (Kd.R_reads' HO_1.out).2.1); rintro e w50 ⟨v118, rfl, ho0, hb⟩; refine ⟨_, rfl, ?_⟩; have n0_ := Aside0.mk (Kd.R_below (by (with_reducible repeat (first | apply Kd.R_alloc | apply Kd.R_drewN | apply Kd.R_drew)); exact HO_1.out) hb); have n1_ := Aside0.mk (Kd.R_elder' (by (with_reducible repeat (first | apply Kd.R_alloc | apply Kd.R_drewN | apply Kd.R_drew)); exact HO114.out) (Kd.R_base ho0) hb); have n2_ := Aside0.mk (Kd.R_lower (Kd.R_new' ho0 (Kd.R_lt (by (with_reducible repeat (first | apply Kd.R_alloc | apply Kd.R_drewN | apply Kd.R_drew)); exact HO114.out))) (below_size (by repeat (first | (with_reducible first | exact HB.out | apply below_alloc | apply pw_below_drewN | apply below_drew1) | exact HB.out)))); have n3_ := Aside0.mk (below_step (by repeat (first | (with_reducible first | exact HB.out | apply below_alloc | apply pw_below_drewN | apply below_drew1) | exact HB.out)) hb); clear HO_1; clear HO114; clear HB; have HO_1 := n0_; have HO114 := n1_; have HO119 := n2_; have HB := n3_; clear n0_ n1_ n2_ n3_; (try clear hb); (try clear hb2); (try clear hk); (try clear hi); (try clear ho0); have p120 : 0 ≤ (0 : Int) := (by omega); have q120 : 0 < (t106.length : Int) := of_decide_eq_true (by first | (with_reducible assumption) | assumption); obtain ⟨ad120, e120, hx120_0, hx120_1⟩ := at_T37 (Kd.R_reads' HO_1.out).2.2 0 p120 q120; cases e120; have qi120 : (0 < t106.length) = True := eq_true (by omega); (try rw [show ((0 : Int)).toNat = 0 from rfl] at hx120_0); (try rw [show 0 * 2 = 0 from rfl] at hx120_0); (try rw [Addr.add_zero'] at hx120_0); (try rw [show ((0 : Int)).toNat = 0 from rfl] at hx120_1); (try rw [show 0 * 2 = 0 from rfl] at hx120_1); (try rw [Addr.add_zero'] at hx120_1); replace p120 := eq_true p120; replace q120 := eq_true q120; have p121 : 0 ≤ (2 : Int) := (by omega); have q121 : 2 < (t106.length : Int) := of_decide_eq_true (by first | (with_reducible assumption) | assumption); obtain ⟨ad121, e121, hx121_0, hx121_1⟩ := at_T37 (Kd.R_reads' HO_1.out).2.2 2 p121 q121; obtain rfl : ad120 = ad121 := (by injection e121); (try simp only [show (2 : Int).toNat = 2 from rfl, Nat.reduceMul, Nat.reduceEqDiff, Go.Addr.add, ↓reduceIte] at hx121_0); (try simp only [show (2 : Int).toNat = 2 from rfl, Nat.reduceMul, Nat.reduceEqDiff, Go.Addr.add, ↓reduceIte] at hx121_1); have qi121 : (2 < t106.length) = True := eq_true (by omega); (try rw [show ((2 : Int)).toNat = 2 from rfl] at hx121_0); (try rw [show 2 * 2 = 4 from rfl] at hx121_0); (try rw [show ((2 : Int)).toNat = 2 from rfl] at hx121_1); (try rw [show 2 * 2 = 4 from rfl] at hx121_1); replace p121 := eq_true p121; replace q121 := eq_true q121))
                go_ret
                exact ⟨by first | rfl | (simp [errW_none, errW_some] <;> rfl) | (simp [*, errW_none, errW_some] <;> rfl), by repeat (first | (with_reducible first | exact HB.out | apply below_alloc | apply pw_below_drewN | apply below_drew1) | exact HB.out)⟩
            · rw [if_neg c14] at H
              exact absurd H (by simp)
          · rw [if_neg c13] at H
            have c13b0 : (((rd_T37 t106 0).f0) == 56 && (((rd_T37 t106 0).f1) == 56)) = false := by simpa using c13
            (try (have c13b1 : decide (((rd_T37 t106 0).f0) = 56 && (((rd_T37 t106 0).f1) == 56)) = false := by simpa using c13))
            (try (have c13b2 : (((rd_T37 t106 0).f0) == 56 && (((rd_T37 t106 0).f1) == 56)) = false := by simpa using c13))
            (try (have c13b3 : ¬ (((rd_T37 t106 0).f0) = 56 && (((rd_T37 t106 0).f1) == 56)) := by simpa using c13))
            clear c13
            obtain rfl := Option.some.inj H
            obtain ⟨Ao51, co51, eo51⟩ := Kd.R_slice HO_1.out
            subst eo51
            go_wp2_with (first | ((with_reducible refine gate_callee (f := 15) rfl ?_); refine goesL_ (some 23) rfl rfl Tryd.func15 (by kernel_rfl) rfl #[.slice Ao51 t106.length co51, .int .i64 1] rfl (by (try simp only [List.map_toArray, List.map_cons, List.map_nil]); first | done | rfl | (simp only [List.length_drop, List.length_take]; rfl)) ?_; (with_reducible refine (tape_Read.calls _ _ t106 1 t110 t111 t112 _ ?side1 ?side2 A10.out).mono ?_); (case side1 => repeat (first | exact (Kd.R_reads' HO_1.out).2.2 | (with_reducible refine Kd.C_alloc ?_ _) | (with_reducible refine Kd.C_drewN ?_ _) | (with_reducible refine Kd.C_drew ?_))); (case side2 => exact (Kd.R_reads' HO_1.out).2.1); rintro e w52 ⟨v113, rfl, ho0, hb⟩; refine ⟨_, rfl, ?_⟩; have n0_ := Aside0.mk (Kd.R_below (by (with_reducible repeat (first | apply Kd.R_alloc | apply Kd.R_drewN | apply Kd.R_drew)); exact HO_1.out) hb); have n1_ := Aside0.mk (Kd.R_lower ho0 (below_size (by repeat (first | (with_reducible first | exact HB.out | apply below_alloc | apply pw_below_drewN | apply below_drew1) | exact HB.out)))); have n2_ := Aside0.mk (below_step (by repeat (first | (with_reducible first | exact HB.out | apply below_alloc | apply pw_below_drewN | apply below_drew1) | exact HB.out)) hb); clear HO_1; clear HB; have HO_1 := n0_; have HO114 := n1_; have HB := n2_; clear n0_ n1_ n2_; (try clear hb); (try clear hb2); (try clear hk); (try clear hi); (try clear ho0)) | ((with_reducible refine gate_callee (f := 15) rfl ?_); refine goesL_ (some 29) rfl rfl Tryd.func15 (by kernel_rfl) rfl #[.slice Ao51 t106.length co51, .int .i64 2] rfl (by (try simp only [List.map_toArray, List.map_cons, List.map_nil]); first | done | rfl | (simp only [List.length_drop, List.length_take]; rfl)) ?_; (with_reducible refine (tape_Read.calls _ _ t106 2 t115 t116 t117 _ ?side1 ?side2 A11.out).mono ?_); (case side1 => repeat (first | exact (Kd.R_reads' HO_1.out).2.2 | (with_reducible refine Kd.C_alloc ?_ _) | (with_reducible refine Kd.C_drewN ?_ _) | (with_reducible refine Kd.C_drew ?_))); (case side2 => exact (Kd.R_reads' HO_1.out).2.1); rintro e w53 ⟨v118, rfl, ho0, hb⟩; refine ⟨_, rfl, ?_⟩; have n0_ := Aside0.mk (Kd.R_below (by (with_reducible repeat (first | apply Kd.R_alloc | apply Kd.R_drewN | apply Kd.R_drew)); exact HO_1.out) hb); have n1_ := Aside0.mk (Kd.R_elder' (by (with_reducible repeat (first | apply Kd.R_alloc | apply Kd.R_drewN | apply Kd.R_drew)); exact HO114.out) (Kd.R_base ho0) hb); have n2_ := Aside0.mk (Kd.R_lower (Kd.R_new' ho0 (Kd.R_lt (by (with_reducible repeat (first | apply Kd.R_alloc | apply Kd.R_drewN | apply Kd.R_drew)); exact HO114.out))) (below_size (by repeat (first | (with_reducible first | exact HB.out | apply below_alloc | apply pw_below_drewN | apply below_drew1) | exact HB.out)))); have n3_ := Aside0.mk (below_step (by repeat (first | (with_reducible first | exact HB.out | apply below_alloc | apply pw_below_drewN | apply below_drew1) | exact HB.out)) hb); clear HO_1; clear HO114; clear HB; have HO_1 := n0_; have HO114 := n1_; have HO119 := n2_; have HB := n3_; clear n0_ n1_ n2_ n3_; (try clear hb); (try clear hb2); (try clear hk); (try clear hi); (try clear ho0); have p120 : 0 ≤ (0 : Int) := (by omega); have q120 : 0 < (t106.length : Int) := of_decide_eq_true (by first | (with_reducible assumption) | assumption); obtain ⟨ad120, e120, hx120_0, hx120_1⟩ := at_T37 (Kd.R_reads' HO_1.out).2.2 0 p120 q120; cases e120; have qi120 : (0 < t106.length) = True := eq_true (by omega); (try rw [show ((0 : Int)).toNat = 0 from rfl] at hx120_0); (try rw [show 0 * 2 = 0 from rfl] at hx120_0); (try rw [Addr.add_zero'] at hx120_0); (try rw [show ((0 : Int)).toNat = 0 from rfl] at hx120_1); (try rw [show 0 * 2 = 0 from rfl] at hx120_1); (try rw [Addr.add_zero'] at hx120_1); replace p120 := eq_true p120; replace q120 := eq_true q120))
            go_ret
            exact ⟨by first | rfl | (simp [errW_none, errW_some] <;> rfl) | (simp [*, errW_none, errW_some] <;> rfl), by repeat (first | (with_reducible first | exact HB.out | apply below_alloc | apply pw_below_drewN | apply below_drew1) | exact HB.out)⟩
        · rw [if_neg c12] at H
          exact absurd H (by simp)

/-! ### vesperlaw12_TapeNames: function 3 -/
def vesperlaw12_TapeNames.f (k : Nat)  : Option (Bool) := (vesperlaw12_awake.f k).bind fun t123 => (some t123)
theorem vesperlaw12_TapeNames.mono : ∀ k, LeO (vesperlaw12_TapeNames.f k ) (vesperlaw12_TapeNames.f (k + 1) ) := by
  intro  k
  unfold vesperlaw12_TapeNames.f
  repeat' first
      | (with_reducible exact vesperlaw12_awake.mono _)
      | (with_reducible exact LeO.refl _)
      | (with_reducible exact LeO.none _)
      | (with_reducible refine LeO.ite ?_ ?_)
      | (with_reducible refine LeO.bind ?_ (fun _ => ?_))
      | exact vesperlaw12_awake.mono _
      | exact LeO.none _
      | refine LeO.ite ?_ ?_
      | refine LeO.bind ?_ (fun _ => ?_)
set_option maxHeartbeats 8000000 in
set_option maxRecDepth 100000 in
theorem vesperlaw12_TapeNames.calls (k : Nat)  (r : Bool) (w : World) (h : vesperlaw12_TapeNames.f k  = some r) (hG : GOk w := by first | exact HG.out | exact GOk.below HG.out HB.out | exact GOk.below HG.out (by repeat (first | (with_reducible first | exact HB.out | apply below_alloc | apply pw_below_drewN | apply below_drew1) | exact HB.out))) :
    Calls Tryd.prog 3 #[] w fun e w' => e = .returned (.bool r) ∧ Below w.heap.size w w' := by
  have HG := Aside0.mk hG
  clear hG
  have HB := Aside0.mk (Below.refl w.heap.size w)
  have H : ((vesperlaw12_awake.f k).bind fun t123 => (some t123)) = some r := h
  clear h
  replace H := Option.bind_eq_some_iff.mp H
  obtain ⟨t123, A10, H⟩ := H
  replace H : (some t123) = some r := H
  have A1 := Aside0.mk A10
  clear A10
  obtain rfl := Option.some.inj H
  go_enter Tryd.func3, Tryd.ntmps3
  go_wp2_with (first | (go_at_call 10; (with_reducible refine (vesperlaw12_awake.calls k  t123 _ A1.out).mono ?_); rintro e w2 ⟨rfl, hb⟩; have n0_ := Aside0.mk (below_step (by repeat (first | (with_reducible first | exact HB.out | apply below_alloc | apply pw_below_drewN | apply below_drew1) | exact HB.out)) hb); clear HB; have HB := n0_; clear n0_; (try clear hb); (try clear hb2); (try clear hk); (try clear hi)))
  go_ret
  exact ⟨by first | rfl | (simp [errW_none, errW_some] <;> rfl) | (simp [*, errW_none, errW_some] <;> rfl), by repeat (first | (with_reducible first | exact HB.out | apply below_alloc | apply pw_below_drewN | apply below_drew1) | exact HB.out)⟩

/-- THE ONE PURE STATEMENT of vesperlaw12_TapeNames: yours. -/
def vesperlaw12_TapeNames.Pure : Prop := ∃ k, vesperlaw12_TapeNames.f k  = some true
theorem vesperlaw12_TapeNames.walk (P : vesperlaw12_TapeNames.Pure)  (w : World)  (hG : GOk w := by first | exact HG.out | exact GOk.below HG.out HB.out | exact GOk.below HG.out (by repeat (first | (with_reducible first | exact HB.out | apply below_alloc | apply pw_below_drewN | apply below_drew1) | exact HB.out))) :
    Calls Tryd.prog 3 #[] w fun e w' => e = .returned (.bool true) ∧ Below w.heap.size w w' := by
  have HG := Aside0.mk hG
  clear hG
  obtain ⟨k, h⟩ := P  
  refine (vesperlaw12_TapeNames.calls k  true w h).mono ?_
  rintro e w' ⟨rfl, hd⟩
  exact ⟨rfl, hd⟩

/-! ### vesperref12_Wave: function 26 -/
def vesperref12_Wave.f (a0 : Int) : Option (Int × Int) := if a0 = 1 then (some (140, 140)) else (some (56, 56))
set_option maxHeartbeats 8000000 in
set_option maxRecDepth 100000 in
theorem vesperref12_Wave.calls (a0 : Int) (r1 : Int) (r2 : Int) (w : World) (h : vesperref12_Wave.f a0 = some (r1, r2)) :
    Calls Tryd.prog 26 #[.int .i64 a0] w fun e w' => e = .returned (.agg #[.int .i64 r1, .int .i64 r2]) ∧ Below w.heap.size w w' := by
  have hu37 := Tryd.underlying37
  have HB := Aside0.mk (Below.refl w.heap.size w)
  have H : (if a0 = 1 then (some (140, 140)) else (some (56, 56))) = some (r1, r2) := h
  clear h
  by_cases c2 : a0 = 1
  · rw [if_pos c2] at H
    have c2b0 : (a0 == 1) = true := beq_iff_eq.mpr c2
    have c2b1 : (a0 != 1) = false := bne_eq_false_iff_eq.mpr c2
    clear c2
    simp only [Option.some.injEq, Prod.mk.injEq] at H
    obtain ⟨rfl, rfl⟩ := H
    go_enter Tryd.func26, Tryd.ntmps26
    go_wp2_with (first | ((with_reducible refine gate_dst (N := 2) rfl ?_); refine box_event ?hg (N := 2) ?hd (cs := #[.int .i64 0, .int .i64 0]) (t := 37) ?hr ?_; (case hd => rfl); (case hg => rfl); (case hr => first | (go_simp; done) | (go_simp; rfl)); intro gb124 hg w3 hbox hb; have n0_ := Aside0.mk (below_step (by repeat (first | (with_reducible first | exact HB.out | apply below_alloc | apply pw_below_drewN | apply below_drew1) | exact HB.out)) hb); have n1_ := Aside0.mk (hbox); have n2_ := Aside0.mk ((by rw [hg]; exact (below_size (by repeat (first | (with_reducible first | exact HB.out | apply below_alloc | apply pw_below_drewN | apply below_drew1) | exact HB.out))) : w.heap.size ≤ gb124)); have n3_ := Aside0.mk ((by rw [hg]; exact (below_size (by repeat (first | (with_reducible first | exact HB.out | apply below_alloc | apply pw_below_drewN | apply below_drew1) | exact HB.out))) : w.heap.size ≤ gb124)); clear HB; have HB := n0_; have BK124 := n1_; have GW124 := n2_; have GE124 := n3_; clear n0_ n1_ n2_ n3_; clear hb hbox hg; have hcz4_0 : w3.cell? ⟨gb124, 0, none⟩ = some (.int .i64 0) := (blk_cell BK124.out 0).trans rfl; have hcz4_1 : w3.cell? ⟨gb124, 1, none⟩ = some (.int .i64 0) := (blk_cell BK124.out 1).trans rfl; have hfz4_0 := blk_frozen BK124.out 0; have hfz4_1 := blk_frozen BK124.out 1))
    refine bodyPost_ret (results_cell_row rfl _ _ gb124 37 #[.int .i64 140, .int .i64 140] (0, 0) _ rfl (by (with_reducible repeat (first | refine blk_drewN ?_ _ | refine blk_drew ?_ | refine blk_alloc ?_ _)); refine blk_put (cs := #[.int .i64 140, .int .i64 0]) ?_ 1 _ rfl; (with_reducible repeat (first | refine blk_drewN ?_ _ | refine blk_drew ?_ | refine blk_alloc ?_ _)); refine blk_put (cs := #[.int .i64 0, .int .i64 0]) ?_ 0 _ rfl; (with_reducible repeat (first | refine blk_drewN ?_ _ | refine blk_drew ?_ | refine blk_alloc ?_ _)); exact BK124.out) Tryd.underlying37 rfl (by kernel_rfl)) rfl ?_
    exact ⟨by first | rfl | (simp [errW_none, errW_some] <;> rfl) | (simp [*, errW_none, errW_some] <;> rfl), by repeat (first | (with_reducible first | exact HB.out | apply below_alloc | apply pw_below_drewN | apply below_drew1 | refine below_set ?_ GE124.out) | exact HB.out)⟩
  · rw [if_neg c2] at H
    have c2b0 : (a0 == 1) = false := beq_eq_false_iff_ne.mpr c2
    have c2b1 : (a0 != 1) = true := bne_iff_ne.mpr c2
    simp only [Option.some.injEq, Prod.mk.injEq] at H
    obtain ⟨rfl, rfl⟩ := H
    go_enter Tryd.func26, Tryd.ntmps26
    go_wp2_with (first | ((with_reducible refine gate_dst (N := 2) rfl ?_); refine box_event ?hg (N := 2) ?hd (cs := #[.int .i64 0, .int .i64 0]) (t := 37) ?hr ?_; (case hd => rfl); (case hg => rfl); (case hr => first | (go_simp; done) | (go_simp; rfl)); intro gb124 hg w5 hbox hb; have n0_ := Aside0.mk (below_step (by repeat (first | (with_reducible first | exact HB.out | apply below_alloc | apply pw_below_drewN | apply below_drew1) | exact HB.out)) hb); have n1_ := Aside0.mk (hbox); have n2_ := Aside0.mk ((by rw [hg]; exact (below_size (by repeat (first | (with_reducible first | exact HB.out | apply below_alloc | apply pw_below_drewN | apply below_drew1) | exact HB.out))) : w.heap.size ≤ gb124)); have n3_ := Aside0.mk ((by rw [hg]; exact (below_size (by repeat (first | (with_reducible first | exact HB.out | apply below_alloc | apply pw_below_drewN | apply below_drew1) | exact HB.out))) : w.heap.size ≤ gb124)); clear HB; have HB := n0_; have BK124 := n1_; have GW124 := n2_; have GE124 := n3_; clear n0_ n1_ n2_ n3_; clear hb hbox hg; have hcz6_0 : w5.cell? ⟨gb124, 0, none⟩ = some (.int .i64 0) := (blk_cell BK124.out 0).trans rfl; have hcz6_1 : w5.cell? ⟨gb124, 1, none⟩ = some (.int .i64 0) := (blk_cell BK124.out 1).trans rfl; have hfz6_0 := blk_frozen BK124.out 0; have hfz6_1 := blk_frozen BK124.out 1))
    refine bodyPost_ret (results_cell_row rfl _ _ gb124 37 #[.int .i64 56, .int .i64 56] (0, 0) _ rfl (by (with_reducible repeat (first | refine blk_drewN ?_ _ | refine blk_drew ?_ | refine blk_alloc ?_ _)); refine blk_put (cs := #[.int .i64 56, .int .i64 0]) ?_ 1 _ rfl; (with_reducible repeat (first | refine blk_drewN ?_ _ | refine blk_drew ?_ | refine blk_alloc ?_ _)); refine blk_put (cs := #[.int .i64 0, .int .i64 0]) ?_ 0 _ rfl; (with_reducible repeat (first | refine blk_drewN ?_ _ | refine blk_drew ?_ | refine blk_alloc ?_ _)); exact BK124.out) Tryd.underlying37 rfl (by kernel_rfl)) rfl ?_
    exact ⟨by first | rfl | (simp [errW_none, errW_some] <;> rfl) | (simp [*, errW_none, errW_some] <;> rfl), by repeat (first | (with_reducible first | exact HB.out | apply below_alloc | apply pw_below_drewN | apply below_drew1 | refine below_set ?_ GE124.out) | exact HB.out)⟩

/-! ### vesperref12_Write: function 12 -/
mutual
def vesperref12_Write.j0 : Nat → List Int → Int → Bool → Option ((List (S37)) × Int)
  | 0, _, _, _ => none
  | k + 1, x0, x1, x20 => if x20 = true then (some (([] : List (S37)), 1)) else (vesperref12_Write.l0 k x0 x1 ([] : List (S37)) 0)
def vesperref12_Write.l0 : Nat → List Int → Int → List (S37) → Int → Option ((List (S37)) × Int)
  | 0, _, _, _, _ => none
  | k + 1, x0, x1, x6, x7 => if x7 < x1 then ((vesperref12_Wave.f 0).bind fun bt125 => (if x6.length < 8796093022208 then (vesperref12_Write.l0 k x0 x1 (x6 ++ [(⟨bt125.1, bt125.2⟩ : S37)]) (wrap64 (x7 + 1))) else (none))) else (vesperref12_Write.l1 k x0 x6 0)
def vesperref12_Write.l1 : Nat → List Int → List (S37) → Int → Option ((List (S37)) × Int)
  | 0, _, _, _ => none
  | k + 1, x0, x6, x8 => if x8 < (x0.length : Int) then ((vesperref12_Wave.f 1).bind fun bt130 => (if x6.length < 8796093022208 then (if 0 ≤ x8 then (vesperref12_Write.l2 k x0 (x6 ++ [(⟨bt130.1, bt130.2⟩ : S37)]) x8 0 (wrap64 (rd x0 x8)) 0) else (none)) else (none))) else (some (x6, 0))
def vesperref12_Write.l2 : Nat → List Int → List (S37) → Int → Int → Int → Int → Option ((List (S37)) × Int)
  | 0, _, _, _, _, _, _ => none
  | k + 1, x0, x6, x8, x9, x10, x11 => if x11 < 8 then ((vesperref12_Wave.f (Int.tmod x10 2)).bind fun bt136 => (if x6.length < 8796093022208 then (vesperref12_Write.l2 k x0 (x6 ++ [(⟨bt136.1, bt136.2⟩ : S37)]) x8 (wrap64 (x9 + (Int.tmod x10 2))) (wrap64 (Int.tdiv x10 2)) (wrap64 (x11 + 1))) else (none))) else ((vesperref12_Wave.f (Int.tmod (wrap64 (x9 + 1)) 2)).bind fun bt141 => (if x6.length < 8796093022208 then (vesperref12_Write.l1 k x0 (x6 ++ [(⟨bt141.1, bt141.2⟩ : S37)]) (wrap64 (x8 + 1))) else (none)))
end
def vesperref12_Write.f (k : Nat) (l0 : List Int) (a1 : Int) : Option ((List (S37)) × Int) := if (l0.length : Int) > 16384 then (some (([] : List (S37)), 2)) else (if a1 < 0 then (vesperref12_Write.j0 k l0 a1 true) else (vesperref12_Write.j0 k l0 a1 (decide (a1 > 16384))))
theorem vesperref12_Write.mono_l : ∀ k, (∀ y0 y1 y2, LeO (vesperref12_Write.j0 k y0 y1 y2) (vesperref12_Write.j0 (k + 1) y0 y1 y2)) ∧ (∀ y0 y1 y2 y3, LeO (vesperref12_Write.l0 k y0 y1 y2 y3) (vesperref12_Write.l0 (k + 1) y0 y1 y2 y3)) ∧ (∀ y0 y1 y2, LeO (vesperref12_Write.l1 k y0 y1 y2) (vesperref12_Write.l1 (k + 1) y0 y1 y2)) ∧ (∀ y0 y1 y2 y3 y4 y5, LeO (vesperref12_Write.l2 k y0 y1 y2 y3 y4 y5) (vesperref12_Write.l2 (k + 1) y0 y1 y2 y3 y4 y5))
  | 0 => ⟨fun _ _ _ r h => by simp [vesperref12_Write.j0] at h, fun _ _ _ _ r h => by simp [vesperref12_Write.l0] at h, fun _ _ _ r h => by simp [vesperref12_Write.l1] at h, fun _ _ _ _ _ _ r h => by simp [vesperref12_Write.l2] at h⟩
  | k + 1 => by
    obtain ⟨ih0, ih1, ih2, ih3⟩ := vesperref12_Write.mono_l k
    refine ⟨?_, ?_, ?_, ?_⟩
    · intro y0 y1 y2
      unfold vesperref12_Write.j0
      repeat' first
      | (with_reducible exact ih0 _ _ _)
      | (with_reducible exact ih1 _ _ _ _)
      | (with_reducible exact ih2 _ _ _)
      | (with_reducible exact ih3 _ _ _ _ _ _)
      | (with_reducible exact LeO.refl _)
      | (with_reducible exact LeO.none _)
      | (with_reducible refine LeO.ite ?_ ?_)
      | (with_reducible refine LeO.bind ?_ (fun _ => ?_))
      | exact ih0 _ _ _
      | exact ih1 _ _ _ _
      | exact ih2 _ _ _
      | exact ih3 _ _ _ _ _ _
      | exact LeO.none _
      | refine LeO.ite ?_ ?_
      | refine LeO.bind ?_ (fun _ => ?_)
    · intro y0 y1 y2 y3
      unfold vesperref12_Write.l0
      repeat' first
      | (with_reducible exact ih0 _ _ _)
      | (with_reducible exact ih1 _ _ _ _)
      | (with_reducible exact ih2 _ _ _)
      | (with_reducible exact ih3 _ _ _ _ _ _)
      | (with_reducible exact LeO.refl _)
      | (with_reducible exact LeO.none _)
      | (with_reducible refine LeO.ite ?_ ?_)
      | (with_reducible refine LeO.bind ?_ (fun _ => ?_))
      | exact ih0 _ _ _
      | exact ih1 _ _ _ _
      | exact ih2 _ _ _
      | exact ih3 _ _ _ _ _ _
      | exact LeO.none _
      | refine LeO.ite ?_ ?_
      | refine LeO.bind ?_ (fun _ => ?_)
    · intro y0 y1 y2
      unfold vesperref12_Write.l1
      repeat' first
      | (with_reducible exact ih0 _ _ _)
      | (with_reducible exact ih1 _ _ _ _)
      | (with_reducible exact ih2 _ _ _)
      | (with_reducible exact ih3 _ _ _ _ _ _)
      | (with_reducible exact LeO.refl _)
      | (with_reducible exact LeO.none _)
      | (with_reducible refine LeO.ite ?_ ?_)
      | (with_reducible refine LeO.bind ?_ (fun _ => ?_))
      | exact ih0 _ _ _
      | exact ih1 _ _ _ _
      | exact ih2 _ _ _
      | exact ih3 _ _ _ _ _ _
      | exact LeO.none _
      | refine LeO.ite ?_ ?_
      | refine LeO.bind ?_ (fun _ => ?_)
    · intro y0 y1 y2 y3 y4 y5
      unfold vesperref12_Write.l2
      repeat' first
      | (with_reducible exact ih0 _ _ _)
      | (with_reducible exact ih1 _ _ _ _)
      | (with_reducible exact ih2 _ _ _)
      | (with_reducible exact ih3 _ _ _ _ _ _)
      | (with_reducible exact LeO.refl _)
      | (with_reducible exact LeO.none _)
      | (with_reducible refine LeO.ite ?_ ?_)
      | (with_reducible refine LeO.bind ?_ (fun _ => ?_))
      | exact ih0 _ _ _
      | exact ih1 _ _ _ _
      | exact ih2 _ _ _
      | exact ih3 _ _ _ _ _ _
      | exact LeO.none _
      | refine LeO.ite ?_ ?_
      | refine LeO.bind ?_ (fun _ => ?_)
theorem vesperref12_Write.mono : ∀ a0 a1 k, LeO (vesperref12_Write.f k a0 a1) (vesperref12_Write.f (k + 1) a0 a1) := by
  intro a0 a1 k
  obtain ⟨ih0, ih1, ih2, ih3⟩ := vesperref12_Write.mono_l k
  unfold vesperref12_Write.f
  repeat' first
      | (with_reducible exact ih0 _ _ _)
      | (with_reducible exact ih1 _ _ _ _)
      | (with_reducible exact ih2 _ _ _)
      | (with_reducible exact ih3 _ _ _ _ _ _)
      | (with_reducible exact LeO.refl _)
      | (with_reducible exact LeO.none _)
      | (with_reducible refine LeO.ite ?_ ?_)
      | (with_reducible refine LeO.bind ?_ (fun _ => ?_))
      | exact ih0 _ _ _
      | exact ih1 _ _ _ _
      | exact ih2 _ _ _
      | exact ih3 _ _ _ _ _ _
      | exact LeO.none _
      | refine LeO.ite ?_ ?_
      | refine LeO.bind ?_ (fun _ => ?_)
set_option maxHeartbeats 8000000 in
set_option maxRecDepth 100000 in
theorem vesperref12_Write.calls (k : Nat) (A0 : Option Addr) (c0 : Nat) (l0 : List Int) (a1 : Int) (r1 : List (S37)) (r2 : Int) (w : World) (hr0 : Kd.C (Kd.int .u8) w A0 l0.length l0) (hc0 : l0.length ≤ c0) (h : vesperref12_Write.f k l0 a1 = some (r1, r2)) :
    Calls Tryd.prog 12 #[.slice A0 l0.length c0, .int .i64 a1] w fun e w' => ∃ v0_ : Value, e = .returned (.tuple #[v0_, .int .i64 r2]) ∧ Kd.R k37 37 w' w.heap.size (fun _ => True) v0_ r1 ∧ Below w.heap.size w w' := by
  have HR0 := Aside0.mk hr0
  have HC0 := Aside0.mk hc0
  clear hr0 hc0
  have HB := Aside0.mk (Below.refl w.heap.size w)
  have H : (if (l0.length : Int) > 16384 then (some (([] : List (S37)), 2)) else (if a1 < 0 then (vesperref12_Write.j0 k l0 a1 true) else (vesperref12_Write.j0 k l0 a1 (decide (a1 > 16384))))) = some (r1, r2) := h
  clear h
  by_cases c3 : (l0.length : Int) > 16384
  · rw [if_pos c3] at H
    have c3b0 : decide (16384 < (l0.length : Int)) = true := decide_eq_true c3
    have c3b1 : decide (16384 < l0.length) = true := decide_eq_true (by omega)
    clear c3
    simp only [Option.some.injEq, Prod.mk.injEq] at H
    obtain ⟨rfl, rfl⟩ := H
    go_enter Tryd.func12, Tryd.ntmps12
    go_wp2
    go_ret2
    exact ⟨_, by first | rfl | (simp [errW_none, errW_some] <;> rfl) | (simp [*, errW_none, errW_some] <;> rfl), by first | exact Kd.R_nil _ _ _ _ _ | exact Kd.N_nil _ _ _ _ _ | exact Kd.V_nil _ _ _ _ _ | exact Kd.Q_nil _ _ _ _ _ | exact Kd.S_nil _ _ _ _ _, by repeat (first | (with_reducible first | exact HB.out | apply below_alloc | apply pw_below_drewN | apply below_drew1) | exact HB.out)⟩
  · rw [if_neg c3] at H
    have c3b0 : decide (16384 < (l0.length : Int)) = false := decide_eq_false c3
    have c3b1 : decide (16384 < l0.length) = false := decide_eq_false (by omega)
    clear c3
    have HC4 := Aside0.mk H
    clear H
    go_enter Tryd.func12, Tryd.ntmps12
    go_upto_region 3 with (fail)
    go_cut [20] (fun v20 wc => ∃ (kq : Nat) (x20_3 : Bool), v20 = .bool x20_3 ∧ Aside0 (vesperref12_Write.j0 kq l0 a1 x20_3 = some (r1, r2)) ∧ Aside0 (kq ≤ k) ∧ Aside0 (Below w.heap.size w wc))
    case first =>
      have H := HC4.out
      clear HC4
      by_cases c5 : a1 < 0
      · rw [if_pos c5] at H
        have c5b0 : decide (a1 < 0) = true := decide_eq_true c5
        clear c5
        (first | rw [c5b0] | (simp only [i64_w, i32_w]; rw [c5b0]) | skip)
        have H' := Aside0.mk H
        clear H
        go_wp2
        go_meet
        case rel => exact ⟨_, (true), (by first | rfl | (simp; done) | (simp [*]; done)), H', ⟨by first | omega | exact Nat.le_refl _⟩, ⟨by repeat (first | (with_reducible first | exact HB.out | apply below_alloc | apply pw_below_drewN | apply below_drew1) | exact HB.out)⟩⟩
      · rw [if_neg c5] at H
        have c5b0 : decide (a1 < 0) = false := decide_eq_false c5
        clear c5
        (first | rw [c5b0] | (simp only [i64_w, i32_w]; rw [c5b0]) | skip)
        have H' := Aside0.mk H
        clear H
        go_wp2
        go_meet
        case rel => exact ⟨_, (decide (a1 > 16384)), (by first | rfl | (simp; done) | (simp [*]; done)), H', ⟨by first | omega | exact Nat.le_refl _⟩, ⟨by repeat (first | (with_reducible first | exact HB.out | apply below_alloc | apply pw_below_drewN | apply below_drew1) | exact HB.out)⟩⟩
    case rest =>
      clear HC4
      try clear c1
      try clear p2
      try clear c3
      try clear c3b0
      try clear c3b1
      try clear c5
      try clear c5b0
      obtain ⟨kq, x20_3, rfl, HA, HJ3, HB⟩ := hcut
      cases kq with
      | zero => exact absurd HA.out (by simp [vesperref12_Write.j0])
      | succ kj3 =>
        have H := HA.out
        clear HA
        simp only [vesperref12_Write.j0] at H
        by_cases c6 : x20_3 = true
        · subst c6
          have H1 : (some (([] : List (S37)), 1)) = some (r1, r2) := by rw [if_pos rfl] at H; exact H
          clear H
          have H := H1
          clear H1
          simp only [Option.some.injEq, Prod.mk.injEq] at H
          obtain ⟨rfl, rfl⟩ := H
          go_wp2
          go_ret2
          exact ⟨_, by first | rfl | (simp [errW_none, errW_some] <;> rfl) | (simp [*, errW_none, errW_some] <;> rfl), by first | exact Kd.R_nil _ _ _ _ _ | exact Kd.N_nil _ _ _ _ _ | exact Kd.V_nil _ _ _ _ _ | exact Kd.Q_nil _ _ _ _ _ | exact Kd.S_nil _ _ _ _ _, by repeat (first | (with_reducible first | exact HB.out | apply below_alloc | apply pw_below_drewN | apply below_drew1) | exact HB.out)⟩
        · replace c6 := Bool.eq_false_iff.mpr c6
          subst c6
          have H1 : (vesperref12_Write.l0 kj3 l0 a1 ([] : List (S37)) 0) = some (r1, r2) := by rw [if_neg (show ¬ (false = true) by decide)] at H; exact H
          clear H
          have H := H1
          clear H1
          have H' := Aside0.mk H
          clear H
          go_wp2
          go_loopg [6, 7] kj3 (fun kq v6 v7 w' => ∃ (x6_2 : List (S37)) (x7_2 : Int), v7 = .int .i64 x7_2 ∧ Aside0 (vesperref12_Write.l0 kq l0 a1 x6_2 x7_2 = some (r1, r2)) ∧ Aside0 (kq ≤ kj3) ∧ Aside0 (Kd.R k37 37 w' w.heap.size (fun _ => True) v6 x6_2) ∧ Aside0 (Below w.heap.size w w'))
          case atStart => exact ⟨(([] : List (S37))), (0), (by first | rfl | (simp; done) | (simp [*]; done)), H', ⟨Nat.le_refl _⟩, ⟨by first | exact Kd.R_nil _ _ _ _ _ | exact Kd.N_nil _ _ _ _ _ | exact Kd.V_nil _ _ _ _ _ | exact Kd.Q_nil _ _ _ _ _ | exact Kd.S_nil _ _ _ _ _⟩, ⟨by repeat (first | (with_reducible first | exact HB.out | apply below_alloc | apply pw_below_drewN | apply below_drew1) | exact HB.out)⟩⟩
          case round =>
            clear H'
            try clear c1
            try clear p2
            try clear c3
            try clear c3b0
            try clear c3b1
            try clear c5
            try clear c5b0
            try clear c6
            try clear p2
            obtain ⟨x6_2, x7_2, rfl, HA, HK2, HO_6, HB⟩ := hrel
            cases gk with
            | zero => exact absurd HA.out (by simp [vesperref12_Write.l0])
            | succ k2 =>
              have H := HA.out
              clear HA
              simp only [vesperref12_Write.l0] at H
              by_cases c7 : x7_2 < a1
              · rw [if_pos c7] at H
                have c7b0 : decide (x7_2 < a1) = true := decide_eq_true c7
                clear c7
                replace H := Option.bind_eq_some_iff.mp H
                obtain ⟨⟨t125, t126⟩, A80, H⟩ := H
                replace H : (if x6_2.length < 8796093022208 then (vesperref12_Write.l0 k2 l0 a1 (x6_2 ++ [(⟨t125, t126⟩ : S37)]) (wrap64 (x7_2 + 1))) else (none)) = some (r1, r2) := H
                have A8 := Aside0.mk A80
                clear A80
                by_cases c9 : x6_2.length < 8796093022208
                · rw [if_pos c9] at H
                  have LMc9 := Aside0.mk c9
                  clear c9
                  obtain ⟨y127, hy127⟩ : ∃ y_ : List (S37), y_ = (x6_2 ++ [(⟨t125, t126⟩ : S37)]) := ⟨_, rfl⟩
                  replace H : (vesperref12_Write.l0 k2 l0 a1 y127 (wrap64 (x7_2 + 1))) = some (r1, r2) := by first | (rw [hy127]; with_reducible exact H) | (have H2_ := (Option.bind_some _ _).symm.trans H; rw [hy127]; with_reducible exact H2_) | (have H2_ := (Option.bind_some _ _).symm.trans H; with_reducible exact H2_) | with_reducible exact H | (rw [hy127]; exact H) | exact H
                  have Ny127 := Aside0.mk hy127
                  clear hy127
                  have H' := Aside0.mk H
                  clear H
                  go_wp2_with (first | ((with_reducible refine gate_callee (f := 26) rfl ?_); refine goesL_ (some 27) rfl rfl Tryd.func26 (by kernel_rfl) rfl #[.int .i64 0] rfl (by (try simp only [List.map_toArray, List.map_cons, List.map_nil]); first | done | rfl | (simp only [List.length_drop, List.length_take]; rfl)) ?_; (with_reducible refine (vesperref12_Wave.calls 0 t125 t126 _ A8.out).mono ?_); rintro e w10 ⟨rfl, hb⟩; refine ⟨_, rfl, ?_⟩; have n0_ := Aside0.mk (Kd.R_below (by (with_reducible repeat (first | apply Kd.R_alloc | apply Kd.R_drewN | apply Kd.R_drew)); exact HO_6.out) hb); have n1_ := Aside0.mk (below_step (by repeat (first | (with_reducible first | exact HB.out | apply below_alloc | apply pw_below_drewN | apply below_drew1) | exact HB.out)) hb); clear HO_6; clear HB; have HO_6 := n0_; have HB := n1_; clear n0_ n1_; (try clear hb); (try clear hb2); (try clear hk); (try clear hi)) | ((with_reducible refine gate_builtin (b := .append) (xs := #[.tmp 26, .tmp 28]) rfl ?_); at_builtin; refine Kd.R_append k37 (w0 := w) w.heap.size rfl (.tmp 26) (.tmp 28) 24 37 (.agg #[(.int .i64 0), (.int .i64 0)]) 16 rfl Tryd.underlying24 info37 rfl (by decide) (by omega) u6 x6_2 (⟨t125, t126⟩ : S37) [.int .i64 t125, .int .i64 t126] (fun _ => True) (fun _ => False) rfl rfl ?aP (fun _ hk => hk.elim) ?aF ?aO ?aB ?aS ?aL ?_; (case aP => exact k37_mkM _ _ _ (⟨t125, t126⟩ : S37)); (case aB => exact (by repeat (first | (with_reducible first | exact HB.out | apply below_alloc | apply pw_below_drewN | apply below_drew1) | exact HB.out))); (case aF => exact (fun _ _ => trivial)); (case aO => exact (by (with_reducible repeat (first | apply Kd.R_alloc | apply Kd.R_drewN | apply Kd.R_drew)); exact HO_6.out)); (case aS => exact (below_size (by repeat (first | (with_reducible first | exact HB.out | apply below_alloc | apply pw_below_drewN | apply below_drew1) | exact HB.out)))); (case aL => have := LMc9.out; omega); intro v128 w11 ho hb hg hat; rw [← Ny127.out] at ho; have n0_ := Aside0.mk (hb); have n1_ := Aside0.mk (ho); clear HB; clear HO_6; have HB := n0_; have HO129 := n1_; clear n0_ n1_; clear ho hb hg hat))
                  go_roundg k2
                  case measure => have := HJ3.out; have := HK2.out; omega
                  case rel => exact ⟨(y127), (wrap64 (x7_2 + 1)), (by first | rfl | (simp; done) | (simp [*]; done)), H', ⟨by have := HJ3.out; have := HK2.out; omega⟩, ⟨by (with_reducible repeat (first | apply Kd.R_alloc | apply Kd.R_drewN | apply Kd.R_drew)); exact HO129.out⟩, ⟨by repeat (first | (with_reducible first | exact HB.out | apply below_alloc | apply pw_below_drewN | apply below_drew1) | exact HB.out)⟩⟩
                · rw [if_neg c9] at H
                  exact absurd H (by simp)
              · rw [if_neg c7] at H
                have c7b0 : decide (x7_2 < a1) = false := decide_eq_false c7
                clear c7
                have H' := Aside0.mk H
                clear H
                go_wp2
                go_loopg [6, 8] k2 (fun kq v6 v8 w' => ∃ (x6_3 : List (S37)) (x8_3 : Int), v8 = .int .i64 x8_3 ∧ Aside0 (vesperref12_Write.l1 kq l0 x6_3 x8_3 = some (r1, r2)) ∧ Aside0 (kq ≤ k2) ∧ Aside0 (Kd.R k37 37 w' w.heap.size (fun _ => True) v6 x6_3) ∧ Aside0 (Below w.heap.size w w'))
                case atStart => exact ⟨(x6_2), (0), (by first | rfl | (simp; done) | (simp [*]; done)), H', ⟨Nat.le_refl _⟩, ⟨by (with_reducible repeat (first | apply Kd.R_alloc | apply Kd.R_drewN | apply Kd.R_drew)); exact HO_6.out⟩, ⟨by repeat (first | (with_reducible first | exact HB.out | apply below_alloc | apply pw_below_drewN | apply below_drew1) | exact HB.out)⟩⟩
                case round =>
                  clear H'
                  try clear c1
                  try clear c2
                  try clear p2
                  try clear c3
                  try clear c3b0
                  try clear c3b1
                  try clear c5
                  try clear c5b0
                  try clear c6
                  try clear p6
                  try clear c7
                  try clear c7b0
                  try clear c9
                  try clear p2
                  obtain ⟨x6_3, x8_3, rfl, HA, HK3, HO_6, HB⟩ := hrel
                  cases gk with
                  | zero => exact absurd HA.out (by simp [vesperref12_Write.l1])
                  | succ k3 =>
                    have H := HA.out
                    clear HA
                    simp only [vesperref12_Write.l1] at H
                    by_cases c12 : x8_3 < (l0.length : Int)
                    · rw [if_pos c12] at H
                      have c12b0 : decide (x8_3 < (l0.length : Int)) = true := decide_eq_true c12
                      clear c12
                      replace H := Option.bind_eq_some_iff.mp H
                      obtain ⟨⟨t130, t131⟩, A130, H⟩ := H
                      replace H : (if x6_3.length < 8796093022208 then (if 0 ≤ x8_3 then (vesperref12_Write.l2 k3 l0 (x6_3 ++ [(⟨t130, t131⟩ : S37)]) x8_3 0 (wrap64 (rd l0 x8_3)) 0) else (none)) else (none)) = some (r1, r2) := H
                      have A13 := Aside0.mk A130
                      clear A130
                      by_cases c14 : x6_3.length < 8796093022208
                      · rw [if_pos c14] at H
                        have LMc14 := Aside0.mk c14
                        clear c14
                        obtain ⟨y132, hy132⟩ : ∃ y_ : List (S37), y_ = (x6_3 ++ [(⟨t130, t131⟩ : S37)]) := ⟨_, rfl⟩
                        replace H : (if 0 ≤ x8_3 then (vesperref12_Write.l2 k3 l0 y132 x8_3 0 (wrap64 (rd l0 x8_3)) 0) else (none)) = some (r1, r2) := by first | (rw [hy132]; with_reducible exact H) | (have H2_ := (Option.bind_some _ _).symm.trans H; rw [hy132]; with_reducible exact H2_) | (have H2_ := (Option.bind_some _ _).symm.trans H; with_reducible exact H2_) | with_reducible exact H | (rw [hy132]; exact H) | exact H
                        have Ny132 := Aside0.mk hy132
                        clear hy132
                        by_cases c15 : 0 ≤ x8_3
                        · rw [if_pos c15] at H
                          have c15b0 : decide (0 ≤ x8_3) = true := decide_eq_true c15
                          clear c15
                          have H' := Aside0.mk H
                          clear H
                          go_wp2_with (first | ((with_reducible refine gate_callee (f := 26) rfl ?_); refine goesL_ (some 37) rfl rfl Tryd.func26 (by kernel_rfl) rfl #[.int .i64 1] rfl (by (try simp only [List.map_toArray, List.map_cons, List.map_nil]); first | done | rfl | (simp only [List.length_drop, List.length_take]; rfl)) ?_; (with_reducible refine (vesperref12_Wave.calls 1 t130 t131 _ A13.out).mono ?_); rintro e w16 ⟨rfl, hb⟩; refine ⟨_, rfl, ?_⟩; have n0_ := Aside0.mk (Kd.R_below (by (with_reducible repeat (first | apply Kd.R_alloc | apply Kd.R_drewN | apply Kd.R_drew)); exact HO_6.out) hb); have n1_ := Aside0.mk (below_step (by repeat (first | (with_reducible first | exact HB.out | apply below_alloc | apply pw_below_drewN | apply below_drew1) | exact HB.out)) hb); clear HO_6; clear HB; have HO_6 := n0_; have HB := n1_; clear n0_ n1_; (try clear hb); (try clear hb2); (try clear hk); (try clear hi)) | ((with_reducible refine gate_builtin (b := .append) (xs := #[.tmp 36, .tmp 38]) rfl ?_); at_builtin; refine Kd.R_append k37 (w0 := w) w.heap.size rfl (.tmp 36) (.tmp 38) 24 37 (.agg #[(.int .i64 0), (.int .i64 0)]) 16 rfl Tryd.underlying24 info37 rfl (by decide) (by omega) u6 x6_3 (⟨t130, t131⟩ : S37) [.int .i64 t130, .int .i64 t131] (fun _ => True) (fun _ => False) rfl rfl ?aP (fun _ hk => hk.elim) ?aF ?aO ?aB ?aS ?aL ?_; (case aP => exact k37_mkM _ _ _ (⟨t130, t131⟩ : S37)); (case aB => exact (by repeat (first | (with_reducible first | exact HB.out | apply below_alloc | apply pw_below_drewN | apply below_drew1) | exact HB.out))); (case aF => exact (fun _ _ => trivial)); (case aO => exact (by (with_reducible repeat (first | apply Kd.R_alloc | apply Kd.R_drewN | apply Kd.R_drew)); exact HO_6.out)); (case aS => exact (below_size (by repeat (first | (with_reducible first | exact HB.out | apply below_alloc | apply pw_below_drewN | apply below_drew1) | exact HB.out)))); (case aL => have := LMc14.out; omega); intro v133 w17 ho hb hg hat; rw [← Ny132.out] at ho; have n0_ := Aside0.mk (hb); have n1_ := Aside0.mk (ho); clear HB; clear HO_6; have HB := n0_; have HO134 := n1_; clear n0_ n1_; clear ho hb hg hat; have p135 : 0 ≤ (x8_3 : Int) := of_decide_eq_true (by first | (with_reducible assumption) | assumption); have q135 : x8_3 < (l0.length : Int) := of_decide_eq_true (by first | (with_reducible assumption) | assumption); obtain ⟨ad135, e135, hx135_0⟩ := Kd.at_int HR0.out x8_3 p135 q135; cases e135; replace hx135_0 := (HB.out.cell (World.block_lt_of_cell? w _ hx135_0)).trans hx135_0; replace p135 := eq_true p135; replace q135 := eq_true q135))
                          go_loopg [6, 9, 10, 11] k3 (fun kq v6 v9 v10 v11 w' => ∃ (x6_4 : List (S37)) (x9_4 : Int) (x10_4 : Int) (x11_4 : Int), v9 = .int .i64 x9_4 ∧ v10 = .int .i64 x10_4 ∧ v11 = .int .i64 x11_4 ∧ Aside0 (vesperref12_Write.l2 kq l0 x6_4 x8_3 x9_4 x10_4 x11_4 = some (r1, r2)) ∧ Aside0 (kq ≤ k3) ∧ Aside0 (Kd.R k37 37 w' w.heap.size (fun _ => True) v6 x6_4) ∧ Aside0 (Below w.heap.size w w'))
                          case atStart => exact ⟨(y132), (0), (wrap64 (rd l0 x8_3)), (0), (by first | rfl | (simp; done) | (simp [*]; done)), (by first | rfl | (simp; done) | (simp [*]; done)), (by first | rfl | (simp; done) | (simp [*]; done)), H', ⟨Nat.le_refl _⟩, ⟨by (with_reducible repeat (first | apply Kd.R_alloc | apply Kd.R_drewN | apply Kd.R_drew)); exact HO134.out⟩, ⟨by repeat (first | (with_reducible first | exact HB.out | apply below_alloc | apply pw_below_drewN | apply below_drew1) | exact HB.out)⟩⟩
                          case round =>
                            clear H'
                            try clear c1
                            try clear p1
                            try clear q1
                            try clear hx1
                            try clear c2
                            try clear p2
                            try clear c3
                            try clear c3b0
                            try clear c3b1
                            try clear c5
                            try clear c5b0
                            try clear c6
                            try clear p6
                            try clear c7
                            try clear c7b0
                            try clear c9
                            try clear c12
                            try clear c12b0
                            try clear p13
                            try clear q13
                            try clear hx13
                            try clear c14
                            try clear c15
                            try clear c15b0
                            try clear hx135_0
                            try clear p135
                            try clear p2
                            try clear p6
                            try clear q135
                            obtain ⟨x6_4, x9_4, x10_4, x11_4, rfl, rfl, rfl, HA, HK4, HO_6, HB⟩ := hrel
                            cases gk with
                            | zero => exact absurd HA.out (by simp [vesperref12_Write.l2])
                            | succ k4 =>
                              have H := HA.out
                              clear HA
                              simp only [vesperref12_Write.l2] at H
                              by_cases c18 : x11_4 < 8
                              · rw [if_pos c18] at H
                                have c18b0 : decide (x11_4 < 8) = true := decide_eq_true c18
                                clear c18
                                replace H := Option.bind_eq_some_iff.mp H
                                obtain ⟨⟨t136, t137⟩, A190, H⟩ := H
                                replace H : (if x6_4.length < 8796093022208 then (vesperref12_Write.l2 k4 l0 (x6_4 ++ [(⟨t136, t137⟩ : S37)]) x8_3 (wrap64 (x9_4 + (Int.tmod x10_4 2))) (wrap64 (Int.tdiv x10_4 2)) (wrap64 (x11_4 + 1))) else (none)) = some (r1, r2) := H
                                have A19 := Aside0.mk A190
                                clear A190
                                by_cases c20 : x6_4.length < 8796093022208
                                · rw [if_pos c20] at H
                                  have LMc20 := Aside0.mk c20
                                  clear c20
                                  obtain ⟨y138, hy138⟩ : ∃ y_ : List (S37), y_ = (x6_4 ++ [(⟨t136, t137⟩ : S37)]) := ⟨_, rfl⟩
                                  replace H : (vesperref12_Write.l2 k4 l0 y138 x8_3 (wrap64 (x9_4 + (Int.tmod x10_4 2))) (wrap64 (Int.tdiv x10_4 2)) (wrap64 (x11_4 + 1))) = some (r1, r2) := by first | (rw [hy138]; with_reducible exact H) | (have H2_ := (Option.bind_some _ _).symm.trans H; rw [hy138]; with_reducible exact H2_) | (have H2_ := (Option.bind_some _ _).symm.trans H; with_reducible exact H2_) | with_reducible exact H | (rw [hy138]; exact H) | exact H
                                  have Ny138 := Aside0.mk hy138
                                  clear hy138
                                  have H' := Aside0.mk H
                                  clear H
                                  go_wp2_with (first | ((with_reducible refine gate_callee (f := 26) rfl ?_); refine goesL_ (some 52) rfl rfl Tryd.func26 (by kernel_rfl) rfl #[.int .i64 (Int.tmod x10_4 2)] rfl (by (try simp only [List.map_toArray, List.map_cons, List.map_nil]); first | done | rfl | (simp only [List.length_drop, List.length_take]; rfl)) ?_; (with_reducible refine (vesperref12_Wave.calls (Int.tmod x10_4 2) t136 t137 _ A19.out).mono ?_); rintro e w21 ⟨rfl, hb⟩; refine ⟨_, rfl, ?_⟩; have n0_ := Aside0.mk (Kd.R_below (by (with_reducible repeat (first | apply Kd.R_alloc | apply Kd.R_drewN | apply Kd.R_drew)); exact HO_6.out) hb); have n1_ := Aside0.mk (below_step (by repeat (first | (with_reducible first | exact HB.out | apply below_alloc | apply pw_below_drewN | apply below_drew1) | exact HB.out)) hb); clear HO_6; clear HB; have HO_6 := n0_; have HB := n1_; clear n0_ n1_; (try clear hb); (try clear hb2); (try clear hk); (try clear hi)) | ((with_reducible refine gate_builtin (b := .append) (xs := #[.tmp 49, .tmp 53]) rfl ?_); at_builtin; refine Kd.R_append k37 (w0 := w) w.heap.size rfl (.tmp 49) (.tmp 53) 24 37 (.agg #[(.int .i64 0), (.int .i64 0)]) 16 rfl Tryd.underlying24 info37 rfl (by decide) (by omega) u6 x6_4 (⟨t136, t137⟩ : S37) [.int .i64 t136, .int .i64 t137] (fun _ => True) (fun _ => False) rfl rfl ?aP (fun _ hk => hk.elim) ?aF ?aO ?aB ?aS ?aL ?_; (case aP => exact k37_mkM _ _ _ (⟨t136, t137⟩ : S37)); (case aB => exact (by repeat (first | (with_reducible first | exact HB.out | apply below_alloc | apply pw_below_drewN | apply below_drew1) | exact HB.out))); (case aF => exact (fun _ _ => trivial)); (case aO => exact (by (with_reducible repeat (first | apply Kd.R_alloc | apply Kd.R_drewN | apply Kd.R_drew)); exact HO_6.out)); (case aS => exact (below_size (by repeat (first | (with_reducible first | exact HB.out | apply below_alloc | apply pw_below_drewN | apply below_drew1) | exact HB.out)))); (case aL => have := LMc20.out; omega); intro v139 w22 ho hb hg hat; rw [← Ny138.out] at ho; have n0_ := Aside0.mk (hb); have n1_ := Aside0.mk (ho); clear HB; clear HO_6; have HB := n0_; have HO140 := n1_; clear n0_ n1_; clear ho hb hg hat))
                                  go_roundg k4
                                  case measure => have := HJ3.out; have := HK2.out; have := HK3.out; have := HK4.out; omega
                                  case rel => exact ⟨(y138), (wrap64 (x9_4 + (Int.tmod x10_4 2))), (wrap64 (Int.tdiv x10_4 2)), (wrap64 (x11_4 + 1)), (by first | rfl | (simp; done) | (simp [*]; done)), (by first | rfl | (simp; done) | (simp [*]; done)), (by first | rfl | (simp; done) | (simp [*]; done)), H', ⟨by have := HJ3.out; have := HK2.out; have := HK3.out; have := HK4.out; omega⟩, ⟨by (with_reducible repeat (first | apply Kd.R_alloc | apply Kd.R_drewN | apply Kd.R_drew)); exact HO140.out⟩, ⟨by repeat (first | (with_reducible first | exact HB.out | apply below_alloc | apply pw_below_drewN | apply below_drew1) | exact HB.out)⟩⟩
                                · rw [if_neg c20] at H
                                  exact absurd H (by simp)
                              · rw [if_neg c18] at H
                                have c18b0 : decide (x11_4 < 8) = false := decide_eq_false c18
                                clear c18
                                replace H := Option.bind_eq_some_iff.mp H
                                obtain ⟨⟨t141, t142⟩, A230, H⟩ := H
                                replace H : (if x6_4.length < 8796093022208 then (vesperref12_Write.l1 k4 l0 (x6_4 ++ [(⟨t141, t142⟩ : S37)]) (wrap64 (x8_3 + 1))) else (none)) = some (r1, r2) := H
                                have A23 := Aside0.mk A230
                                clear A230
                                by_cases c24 : x6_4.length < 8796093022208
                                · rw [if_pos c24] at H
                                  have LMc24 := Aside0.mk c24
                                  clear c24
                                  obtain ⟨y143, hy143⟩ : ∃ y_ : List (S37), y_ = (x6_4 ++ [(⟨t141, t142⟩ : S37)]) := ⟨_, rfl⟩
                                  replace H : (vesperref12_Write.l1 k4 l0 y143 (wrap64 (x8_3 + 1))) = some (r1, r2) := by first | (rw [hy143]; with_reducible exact H) | (have H2_ := (Option.bind_some _ _).symm.trans H; rw [hy143]; with_reducible exact H2_) | (have H2_ := (Option.bind_some _ _).symm.trans H; with_reducible exact H2_) | with_reducible exact H | (rw [hy143]; exact H) | exact H
                                  have Ny143 := Aside0.mk hy143
                                  clear hy143
                                  have H' := Aside0.mk H
                                  clear H
                                  go_wp2_with (first | ((with_reducible refine gate_callee (f := 26) rfl ?_); refine goesL_ (some 65) rfl rfl Tryd.func26 (by kernel_rfl) rfl #[.int .i64 (Int.tmod (wrap64 (x9_4 + 1)) 2)] rfl (by (try simp only [List.map_toArray, List.map_cons, List.map_nil]); first | done | rfl | (simp only [List.length_drop, List.length_take]; rfl)) ?_; (with_reducible refine (vesperref12_Wave.calls (Int.tmod (wrap64 (x9_4 + 1)) 2) t141 t142 _ A23.out).mono ?_); rintro e w25 ⟨rfl, hb⟩; refine ⟨_, rfl, ?_⟩; have n0_ := Aside0.mk (Kd.R_below (by (with_reducible repeat (first | apply Kd.R_alloc | apply Kd.R_drewN | apply Kd.R_drew)); exact HO_6.out) hb); have n1_ := Aside0.mk (below_step (by repeat (first | (with_reducible first | exact HB.out | apply below_alloc | apply pw_below_drewN | apply below_drew1) | exact HB.out)) hb); clear HO_6; clear HB; have HO_6 := n0_; have HB := n1_; clear n0_ n1_; (try clear hb); (try clear hb2); (try clear hk); (try clear hi)) | ((with_reducible refine gate_builtin (b := .append) (xs := #[.tmp 61, .tmp 66]) rfl ?_); at_builtin; refine Kd.R_append k37 (w0 := w) w.heap.size rfl (.tmp 61) (.tmp 66) 24 37 (.agg #[(.int .i64 0), (.int .i64 0)]) 16 rfl Tryd.underlying24 info37 rfl (by decide) (by omega) u6 x6_4 (⟨t141, t142⟩ : S37) [.int .i64 t141, .int .i64 t142] (fun _ => True) (fun _ => False) rfl rfl ?aP (fun _ hk => hk.elim) ?aF ?aO ?aB ?aS ?aL ?_; (case aP => exact k37_mkM _ _ _ (⟨t141, t142⟩ : S37)); (case aB => exact (by repeat (first | (with_reducible first | exact HB.out | apply below_alloc | apply pw_below_drewN | apply below_drew1) | exact HB.out))); (case aF => exact (fun _ _ => trivial)); (case aO => exact (by (with_reducible repeat (first | apply Kd.R_alloc | apply Kd.R_drewN | apply Kd.R_drew)); exact HO_6.out)); (case aS => exact (below_size (by repeat (first | (with_reducible first | exact HB.out | apply below_alloc | apply pw_below_drewN | apply below_drew1) | exact HB.out)))); (case aL => have := LMc24.out; omega); intro v144 w26 ho hb hg hat; rw [← Ny143.out] at ho; have n0_ := Aside0.mk (hb); have n1_ := Aside0.mk (ho); clear HB; clear HO_6; have HB := n0_; have HO145 := n1_; clear n0_ n1_; clear ho hb hg hat))
                                  go_roundg k4
                                  case measure => have := HJ3.out; have := HK2.out; have := HK3.out; have := HK4.out; omega
                                  case rel => exact ⟨(y143), (wrap64 (x8_3 + 1)), (by first | rfl | (simp; done) | (simp [*]; done)), H', ⟨by have := HJ3.out; have := HK2.out; have := HK3.out; have := HK4.out; omega⟩, ⟨by (with_reducible repeat (first | apply Kd.R_alloc | apply Kd.R_drewN | apply Kd.R_drew)); exact HO145.out⟩, ⟨by repeat (first | (with_reducible first | exact HB.out | apply below_alloc | apply pw_below_drewN | apply below_drew1) | exact HB.out)⟩⟩
                                · rw [if_neg c24] at H
                                  exact absurd H (by simp)
                        · rw [if_neg c15] at H
                          exact absurd H (by simp)
                      · rw [if_neg c14] at H
                        exact absurd H (by simp)
                    · rw [if_neg c12] at H
                      have c12b0 : decide (x8_3 < (l0.length : Int)) = false := decide_eq_false c12
                      clear c12
                      simp only [Option.some.injEq, Prod.mk.injEq] at H
                      obtain ⟨rfl, rfl⟩ := H
                      go_wp2
                      go_ret2
                      exact ⟨_, by first | rfl | (simp [errW_none, errW_some] <;> rfl) | (simp [*, errW_none, errW_some] <;> rfl), by (with_reducible repeat (first | apply Kd.R_alloc | apply Kd.R_drewN | apply Kd.R_drew)); exact HO_6.out, by repeat (first | (with_reducible first | exact HB.out | apply below_alloc | apply pw_below_drewN | apply below_drew1) | exact HB.out)⟩

end Go.Proofs.YtdibgdiiamcmfaaDoor.PTape
