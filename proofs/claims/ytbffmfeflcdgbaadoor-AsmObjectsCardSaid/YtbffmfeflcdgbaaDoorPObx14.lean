/- Written by a program of this session (gprint.py, over the kit's printer): functions of the seat YtbffmfeflcdgbaaDoor and their contracts. No condition but each contract's own. -/
import Derived.Test.YtbffmfeflcdgbaaDoorPObx0
import Derived.Test.YtbffmfeflcdgbaaDoorPObx8
import Derived.Test.YtbffmfeflcdgbaaDoorPObx11
import Derived.Test.YtbffmfeflcdgbaaDoorPObx13
namespace Go.Proofs.YtbffmfeflcdgbaaDoor.POb
open Go.RowKit Go.Proofs.YtbffmfeflcdgbaaDoorW.PrintWords Go.Proofs.YtbffmfeflcdgbaaDoorW.PrintLast Go.Proofs.YtbffmfeflcdgbaaDoorW.PrintMore
attribute [local go_sem] max2_int min2_int max_two min_two max_three min_three max_four min_four   -- for this text's walks alone
set_option linter.unusedVariables false
set_option linter.unusedSimpArgs false

/-! ### vesperref14_Check: function 11 -/
def vesperref14_Check.f (k : Nat) (l0_0 : List (S42)) (l0_1 : List (S52)) (l0_2 : List (S47)) : Option (Int) := (vesperref14_blocksMay.f k l0_0 l0_1 l0_2).bind fun t269 => (if t269 = true then ((vesperref14_marksMay.f k l0_0 l0_1 l0_2).bind fun t270 => (if t270 = true then ((vesperref14_labelsMay.f k l0_2).bind fun t271 => (if t271 = true then (some 0) else (some 1))) else (some 1))) else (some 1))
theorem vesperref14_Check.mono : ∀ a0 a1 a2 k, LeO (vesperref14_Check.f k a0 a1 a2) (vesperref14_Check.f (k + 1) a0 a1 a2) := by
 intro a0 a1 a2 k
 unfold vesperref14_Check.f
 repeat' first
  | (with_reducible exact vesperref14_blocksMay.mono _ _ _ _)
  | (with_reducible exact vesperref14_labelsMay.mono _ _)
  | (with_reducible exact vesperref14_marksMay.mono _ _ _ _)
  | (with_reducible exact LeO.refl _)
  | (with_reducible exact LeO.none _)
  | (with_reducible refine LeO.ite ?_ ?_)
  | (with_reducible refine LeO.bind ?_ (fun _ => ?_))
  | exact vesperref14_blocksMay.mono _ _ _ _
  | exact vesperref14_labelsMay.mono _ _
  | exact vesperref14_marksMay.mono _ _ _ _
  | exact LeO.none _
  | refine LeO.ite ?_ ?_
  | refine LeO.bind ?_ (fun _ => ?_)
set_option maxHeartbeats 8000000 in
set_option maxRecDepth 100000 in
theorem vesperref14_Check.calls (k : Nat) (A0_0 : Option Addr) (c0_0 : Nat) (l0_0 : List (S42)) (A0_1 : Option Addr) (c0_1 : Nat) (l0_1 : List (S52)) (A0_2 : Option Addr) (c0_2 : Nat) (l0_2 : List (S47)) (r : Int) (w : World) (hr0_0 : Kd.C k42 w A0_0 l0_0.length l0_0) (hc0_0 : l0_0.length ≤ c0_0) (hr0_1 : Kd.C k52 w A0_1 l0_1.length l0_1) (hc0_1 : l0_1.length ≤ c0_1) (hr0_2 : Kd.C k47 w A0_2 l0_2.length l0_2) (hc0_2 : l0_2.length ≤ c0_2) (h : vesperref14_Check.f k l0_0 l0_1 l0_2 = some r) :
 Calls Tryd.prog 11 #[.agg #[.slice A0_0 l0_0.length c0_0, .slice A0_1 l0_1.length c0_1, .slice A0_2 l0_2.length c0_2]] w fun e w' => e = .returned (.int .i64 r) ∧ Below w.heap.size w w' := by
 have hu26 := Tryd.underlying26
 have HR0_0 := Aside0.mk hr0_0
 have HC0_0 := Aside0.mk hc0_0
 clear hr0_0 hc0_0
 have HR0_1 := Aside0.mk hr0_1
 have HC0_1 := Aside0.mk hc0_1
 clear hr0_1 hc0_1
 have HR0_2 := Aside0.mk hr0_2
 have HC0_2 := Aside0.mk hc0_2
 clear hr0_2 hc0_2
 have HB := Aside0.mk (Below.refl w.heap.size w)
 have H : ((vesperref14_blocksMay.f k l0_0 l0_1 l0_2).bind fun t269 => (if t269 = true then ((vesperref14_marksMay.f k l0_0 l0_1 l0_2).bind fun t270 => (if t270 = true then ((vesperref14_labelsMay.f k l0_2).bind fun t271 => (if t271 = true then (some 0) else (some 1))) else (some 1))) else (some 1))) = some r := h
 clear h
 replace H := Option.bind_eq_some_iff.mp H
 obtain ⟨t269, A20, H⟩ := H
 replace H : (if t269 = true then ((vesperref14_marksMay.f k l0_0 l0_1 l0_2).bind fun t270 => (if t270 = true then ((vesperref14_labelsMay.f k l0_2).bind fun t271 => (if t271 = true then (some 0) else (some 1))) else (some 1))) else (some 1)) = some r := H
 have A2 := Aside0.mk A20
 clear A20
 by_cases c3 : t269 = true
 ·subst c3
  have H1 : ((vesperref14_marksMay.f k l0_0 l0_1 l0_2).bind fun t270 => (if t270 = true then ((vesperref14_labelsMay.f k l0_2).bind fun t271 => (if t271 = true then (some 0) else (some 1))) else (some 1))) = some r := by rw [if_pos rfl] at H; exact H
  clear H
  have H := H1
  clear H1
  replace H := Option.bind_eq_some_iff.mp H
  obtain ⟨t270, A40, H⟩ := H
  replace H : (if t270 = true then ((vesperref14_labelsMay.f k l0_2).bind fun t271 => (if t271 = true then (some 0) else (some 1))) else (some 1)) = some r := H
  have A4 := Aside0.mk A40
  clear A40
  by_cases c5 : t270 = true
  ·subst c5
   have H1 : ((vesperref14_labelsMay.f k l0_2).bind fun t271 => (if t271 = true then (some 0) else (some 1))) = some r := by rw [if_pos rfl] at H; exact H
   clear H
   have H := H1
   clear H1
   replace H := Option.bind_eq_some_iff.mp H
   obtain ⟨t271, A60, H⟩ := H
   replace H : (if t271 = true then (some 0) else (some 1)) = some r := H
   have A6 := Aside0.mk A60
   clear A60
   by_cases c7 : t271 = true
   ·subst c7
    have H1 : (some 0) = some r := by rw [if_pos rfl] at H; exact H
    clear H
    have H := H1
    clear H1
    obtain rfl := Option.some.inj H
    go_enter Tryd.func11, Tryd.ntmps11
    go_wp2_with (first | ((with_reducible refine gate_dst (N := 1) rfl ?_); refine box_event ?hg (N := 1) ?hd (cs := #[.slice A0_0 l0_0.length c0_0, .slice A0_1 l0_1.length c0_1, .slice A0_2 l0_2.length c0_2]) (t := 26) ?hr ?_; (case hd => rfl); (case hg => rfl); (case hr => first | (go_simp; done) | (go_simp; rfl)); intro gb268 hg w8 hbox hb; have n0_ := Aside0.mk (below_step bw hb); have n1_ := Aside0.mk (hbox); have n2_ := Aside0.mk (bz hg : w.heap.size ≤ gb268); have n3_ := Aside0.mk (bz hg : w.heap.size ≤ gb268); clear HB; have HB := n0_; have BK268 := n1_; have GW268 := n2_; have GE268 := n3_; clear n0_ n1_ n2_ n3_; clear hb hbox hg; have hcz9_0 : w8.cell? ⟨gb268, 0, none⟩ = some (.slice A0_0 l0_0.length c0_0) := (blk_cell BK268.out 0).trans rfl; have hcz9_1 : w8.cell? ⟨gb268, 1, none⟩ = some (.slice A0_1 l0_1.length c0_1) := (blk_cell BK268.out 1).trans rfl; have hcz9_2 : w8.cell? ⟨gb268, 2, none⟩ = some (.slice A0_2 l0_2.length c0_2) := (blk_cell BK268.out 2).trans rfl; have hfz9_0 := blk_frozen BK268.out 0; have hfz9_1 := blk_frozen BK268.out 1; have hfz9_2 := blk_frozen BK268.out 2) | ((with_reducible refine gate_callee (f := 20) rfl ?_); refine goesL_ (some 4) rfl rfl Tryd.func20 (by kernel_rfl) rfl #[.agg #[.slice A0_0 l0_0.length c0_0, .slice A0_1 l0_1.length c0_1, .slice A0_2 l0_2.length c0_2]] rfl sm ?_; (with_reducible refine (vesperref14_blocksMay.calls k _ _ l0_0 _ _ l0_1 _ _ l0_2 true _ ?side1 ?side2 ?side3 ?side4 ?side5 ?side6 A2.out).mono ?_); (case side1 => repeat (first | exact (Kd.C_below HR0_0.out HB.out) | (with_reducible refine Kd.C_alloc ?_ _) | (with_reducible refine Kd.C_drewN ?_ _) | (with_reducible refine Kd.C_drew ?_))); (case side2 => exact HC0_0.out); (case side3 => repeat (first | exact (Kd.C_below HR0_1.out HB.out) | (with_reducible refine Kd.C_alloc ?_ _) | (with_reducible refine Kd.C_drewN ?_ _) | (with_reducible refine Kd.C_drew ?_))); (case side4 => exact HC0_1.out); (case side5 => repeat (first | exact (Kd.C_below HR0_2.out HB.out) | (with_reducible refine Kd.C_alloc ?_ _) | (with_reducible refine Kd.C_drewN ?_ _) | (with_reducible refine Kd.C_drew ?_))); (case side6 => exact HC0_2.out); rintro e w10 ⟨rfl, hb⟩; refine ⟨_, rfl, ?_⟩; have n0_ := Aside0.mk (blk_below (g := gb268) (o := .cells #[.slice A0_0 l0_0.length c0_0, .slice A0_1 l0_1.length c0_1, .slice A0_2 l0_2.length c0_2] 26 (0, 0)) bk hb); have n1_ := Aside0.mk (below_step bw hb); clear BK268; clear HB; have BK268 := n0_; have HB := n1_; clear n0_ n1_; (try clear hb); (try clear hb2); (try clear hk); (try clear hi); have hcz11_0 : w10.cell? ⟨gb268, 0, none⟩ = some (.slice A0_0 l0_0.length c0_0) := (blk_cell BK268.out 0).trans rfl; have hcz11_1 : w10.cell? ⟨gb268, 1, none⟩ = some (.slice A0_1 l0_1.length c0_1) := (blk_cell BK268.out 1).trans rfl; have hcz11_2 : w10.cell? ⟨gb268, 2, none⟩ = some (.slice A0_2 l0_2.length c0_2) := (blk_cell BK268.out 2).trans rfl; have hfz11_0 := blk_frozen BK268.out 0; have hfz11_1 := blk_frozen BK268.out 1; have hfz11_2 := blk_frozen BK268.out 2) | (go_at_call 21; (with_reducible refine (vesperref14_marksMay.calls k _ _ l0_0 _ _ l0_1 _ _ l0_2 true _ ?side1 ?side2 ?side3 ?side4 ?side5 ?side6 A4.out).mono ?_); (case side1 => repeat (first | exact (Kd.C_below HR0_0.out HB.out) | (with_reducible refine Kd.C_alloc ?_ _) | (with_reducible refine Kd.C_drewN ?_ _) | (with_reducible refine Kd.C_drew ?_))); (case side2 => exact HC0_0.out); (case side3 => repeat (first | exact (Kd.C_below HR0_1.out HB.out) | (with_reducible refine Kd.C_alloc ?_ _) | (with_reducible refine Kd.C_drewN ?_ _) | (with_reducible refine Kd.C_drew ?_))); (case side4 => exact HC0_1.out); (case side5 => repeat (first | exact (Kd.C_below HR0_2.out HB.out) | (with_reducible refine Kd.C_alloc ?_ _) | (with_reducible refine Kd.C_drewN ?_ _) | (with_reducible refine Kd.C_drew ?_))); (case side6 => exact HC0_2.out); rintro e w12 ⟨rfl, hb⟩; have n0_ := Aside0.mk (blk_below (g := gb268) (o := .cells #[.slice A0_0 l0_0.length c0_0, .slice A0_1 l0_1.length c0_1, .slice A0_2 l0_2.length c0_2] 26 (0, 0)) bk hb); have n1_ := Aside0.mk (below_step bw hb); clear BK268; clear HB; have BK268 := n0_; have HB := n1_; clear n0_ n1_; (try clear hb); (try clear hb2); (try clear hk); (try clear hi); have hcz13_0 : w12.cell? ⟨gb268, 0, none⟩ = some (.slice A0_0 l0_0.length c0_0) := (blk_cell BK268.out 0).trans rfl; have hcz13_1 : w12.cell? ⟨gb268, 1, none⟩ = some (.slice A0_1 l0_1.length c0_1) := (blk_cell BK268.out 1).trans rfl; have hcz13_2 : w12.cell? ⟨gb268, 2, none⟩ = some (.slice A0_2 l0_2.length c0_2) := (blk_cell BK268.out 2).trans rfl; have hfz13_0 := blk_frozen BK268.out 0; have hfz13_1 := blk_frozen BK268.out 1; have hfz13_2 := blk_frozen BK268.out 2) | (go_at_call 22; (with_reducible refine (vesperref14_labelsMay.calls k _ _ l0_2 true _ ?side1 ?side2 A6.out).mono ?_); (case side1 => repeat (first | exact (Kd.C_below HR0_2.out HB.out) | (with_reducible refine Kd.C_alloc ?_ _) | (with_reducible refine Kd.C_drewN ?_ _) | (with_reducible refine Kd.C_drew ?_))); (case side2 => exact HC0_2.out); rintro e w14 ⟨rfl, hb⟩; have n0_ := Aside0.mk (blk_below (g := gb268) (o := .cells #[.slice A0_0 l0_0.length c0_0, .slice A0_1 l0_1.length c0_1, .slice A0_2 l0_2.length c0_2] 26 (0, 0)) bk hb); have n1_ := Aside0.mk (below_step bw hb); clear BK268; clear HB; have BK268 := n0_; have HB := n1_; clear n0_ n1_; (try clear hb); (try clear hb2); (try clear hk); (try clear hi)))
    go_ret
    exact ⟨ew, bw⟩
   replace c7 := Bool.eq_false_iff.mpr c7
   subst c7
   have H1 : (some 1) = some r := by rw [if_neg (show ¬ (false = true) by decide)] at H; exact H
   clear H
   have H := H1
   clear H1
   obtain rfl := Option.some.inj H
   go_enter Tryd.func11, Tryd.ntmps11
   go_wp2_with (first | ((with_reducible refine gate_dst (N := 1) rfl ?_); refine box_event ?hg (N := 1) ?hd (cs := #[.slice A0_0 l0_0.length c0_0, .slice A0_1 l0_1.length c0_1, .slice A0_2 l0_2.length c0_2]) (t := 26) ?hr ?_; (case hd => rfl); (case hg => rfl); (case hr => first | (go_simp; done) | (go_simp; rfl)); intro gb268 hg w15 hbox hb; have n0_ := Aside0.mk (below_step bw hb); have n1_ := Aside0.mk (hbox); have n2_ := Aside0.mk (bz hg : w.heap.size ≤ gb268); have n3_ := Aside0.mk (bz hg : w.heap.size ≤ gb268); clear HB; have HB := n0_; have BK268 := n1_; have GW268 := n2_; have GE268 := n3_; clear n0_ n1_ n2_ n3_; clear hb hbox hg; have hcz16_0 : w15.cell? ⟨gb268, 0, none⟩ = some (.slice A0_0 l0_0.length c0_0) := (blk_cell BK268.out 0).trans rfl; have hcz16_1 : w15.cell? ⟨gb268, 1, none⟩ = some (.slice A0_1 l0_1.length c0_1) := (blk_cell BK268.out 1).trans rfl; have hcz16_2 : w15.cell? ⟨gb268, 2, none⟩ = some (.slice A0_2 l0_2.length c0_2) := (blk_cell BK268.out 2).trans rfl; have hfz16_0 := blk_frozen BK268.out 0; have hfz16_1 := blk_frozen BK268.out 1; have hfz16_2 := blk_frozen BK268.out 2) | ((with_reducible refine gate_callee (f := 20) rfl ?_); refine goesL_ (some 4) rfl rfl Tryd.func20 (by kernel_rfl) rfl #[.agg #[.slice A0_0 l0_0.length c0_0, .slice A0_1 l0_1.length c0_1, .slice A0_2 l0_2.length c0_2]] rfl sm ?_; (with_reducible refine (vesperref14_blocksMay.calls k _ _ l0_0 _ _ l0_1 _ _ l0_2 true _ ?side1 ?side2 ?side3 ?side4 ?side5 ?side6 A2.out).mono ?_); (case side1 => repeat (first | exact (Kd.C_below HR0_0.out HB.out) | (with_reducible refine Kd.C_alloc ?_ _) | (with_reducible refine Kd.C_drewN ?_ _) | (with_reducible refine Kd.C_drew ?_))); (case side2 => exact HC0_0.out); (case side3 => repeat (first | exact (Kd.C_below HR0_1.out HB.out) | (with_reducible refine Kd.C_alloc ?_ _) | (with_reducible refine Kd.C_drewN ?_ _) | (with_reducible refine Kd.C_drew ?_))); (case side4 => exact HC0_1.out); (case side5 => repeat (first | exact (Kd.C_below HR0_2.out HB.out) | (with_reducible refine Kd.C_alloc ?_ _) | (with_reducible refine Kd.C_drewN ?_ _) | (with_reducible refine Kd.C_drew ?_))); (case side6 => exact HC0_2.out); rintro e w17 ⟨rfl, hb⟩; refine ⟨_, rfl, ?_⟩; have n0_ := Aside0.mk (blk_below (g := gb268) (o := .cells #[.slice A0_0 l0_0.length c0_0, .slice A0_1 l0_1.length c0_1, .slice A0_2 l0_2.length c0_2] 26 (0, 0)) bk hb); have n1_ := Aside0.mk (below_step bw hb); clear BK268; clear HB; have BK268 := n0_; have HB := n1_; clear n0_ n1_; (try clear hb); (try clear hb2); (try clear hk); (try clear hi); have hcz18_0 : w17.cell? ⟨gb268, 0, none⟩ = some (.slice A0_0 l0_0.length c0_0) := (blk_cell BK268.out 0).trans rfl; have hcz18_1 : w17.cell? ⟨gb268, 1, none⟩ = some (.slice A0_1 l0_1.length c0_1) := (blk_cell BK268.out 1).trans rfl; have hcz18_2 : w17.cell? ⟨gb268, 2, none⟩ = some (.slice A0_2 l0_2.length c0_2) := (blk_cell BK268.out 2).trans rfl; have hfz18_0 := blk_frozen BK268.out 0; have hfz18_1 := blk_frozen BK268.out 1; have hfz18_2 := blk_frozen BK268.out 2) | (go_at_call 21; (with_reducible refine (vesperref14_marksMay.calls k _ _ l0_0 _ _ l0_1 _ _ l0_2 true _ ?side1 ?side2 ?side3 ?side4 ?side5 ?side6 A4.out).mono ?_); (case side1 => repeat (first | exact (Kd.C_below HR0_0.out HB.out) | (with_reducible refine Kd.C_alloc ?_ _) | (with_reducible refine Kd.C_drewN ?_ _) | (with_reducible refine Kd.C_drew ?_))); (case side2 => exact HC0_0.out); (case side3 => repeat (first | exact (Kd.C_below HR0_1.out HB.out) | (with_reducible refine Kd.C_alloc ?_ _) | (with_reducible refine Kd.C_drewN ?_ _) | (with_reducible refine Kd.C_drew ?_))); (case side4 => exact HC0_1.out); (case side5 => repeat (first | exact (Kd.C_below HR0_2.out HB.out) | (with_reducible refine Kd.C_alloc ?_ _) | (with_reducible refine Kd.C_drewN ?_ _) | (with_reducible refine Kd.C_drew ?_))); (case side6 => exact HC0_2.out); rintro e w19 ⟨rfl, hb⟩; have n0_ := Aside0.mk (blk_below (g := gb268) (o := .cells #[.slice A0_0 l0_0.length c0_0, .slice A0_1 l0_1.length c0_1, .slice A0_2 l0_2.length c0_2] 26 (0, 0)) bk hb); have n1_ := Aside0.mk (below_step bw hb); clear BK268; clear HB; have BK268 := n0_; have HB := n1_; clear n0_ n1_; (try clear hb); (try clear hb2); (try clear hk); (try clear hi); have hcz20_0 : w19.cell? ⟨gb268, 0, none⟩ = some (.slice A0_0 l0_0.length c0_0) := (blk_cell BK268.out 0).trans rfl; have hcz20_1 : w19.cell? ⟨gb268, 1, none⟩ = some (.slice A0_1 l0_1.length c0_1) := (blk_cell BK268.out 1).trans rfl; have hcz20_2 : w19.cell? ⟨gb268, 2, none⟩ = some (.slice A0_2 l0_2.length c0_2) := (blk_cell BK268.out 2).trans rfl; have hfz20_0 := blk_frozen BK268.out 0; have hfz20_1 := blk_frozen BK268.out 1; have hfz20_2 := blk_frozen BK268.out 2) | (go_at_call 22; (with_reducible refine (vesperref14_labelsMay.calls k _ _ l0_2 false _ ?side1 ?side2 A6.out).mono ?_); (case side1 => repeat (first | exact (Kd.C_below HR0_2.out HB.out) | (with_reducible refine Kd.C_alloc ?_ _) | (with_reducible refine Kd.C_drewN ?_ _) | (with_reducible refine Kd.C_drew ?_))); (case side2 => exact HC0_2.out); rintro e w21 ⟨rfl, hb⟩; have n0_ := Aside0.mk (blk_below (g := gb268) (o := .cells #[.slice A0_0 l0_0.length c0_0, .slice A0_1 l0_1.length c0_1, .slice A0_2 l0_2.length c0_2] 26 (0, 0)) bk hb); have n1_ := Aside0.mk (below_step bw hb); clear BK268; clear HB; have BK268 := n0_; have HB := n1_; clear n0_ n1_; (try clear hb); (try clear hb2); (try clear hk); (try clear hi)))
   go_ret
   exact ⟨ew, bw⟩
  replace c5 := Bool.eq_false_iff.mpr c5
  subst c5
  have H1 : (some 1) = some r := by rw [if_neg (show ¬ (false = true) by decide)] at H; exact H
  clear H
  have H := H1
  clear H1
  obtain rfl := Option.some.inj H
  go_enter Tryd.func11, Tryd.ntmps11
  go_wp2_with (first | ((with_reducible refine gate_dst (N := 1) rfl ?_); refine box_event ?hg (N := 1) ?hd (cs := #[.slice A0_0 l0_0.length c0_0, .slice A0_1 l0_1.length c0_1, .slice A0_2 l0_2.length c0_2]) (t := 26) ?hr ?_; (case hd => rfl); (case hg => rfl); (case hr => first | (go_simp; done) | (go_simp; rfl)); intro gb268 hg w22 hbox hb; have n0_ := Aside0.mk (below_step bw hb); have n1_ := Aside0.mk (hbox); have n2_ := Aside0.mk (bz hg : w.heap.size ≤ gb268); have n3_ := Aside0.mk (bz hg : w.heap.size ≤ gb268); clear HB; have HB := n0_; have BK268 := n1_; have GW268 := n2_; have GE268 := n3_; clear n0_ n1_ n2_ n3_; clear hb hbox hg; have hcz23_0 : w22.cell? ⟨gb268, 0, none⟩ = some (.slice A0_0 l0_0.length c0_0) := (blk_cell BK268.out 0).trans rfl; have hcz23_1 : w22.cell? ⟨gb268, 1, none⟩ = some (.slice A0_1 l0_1.length c0_1) := (blk_cell BK268.out 1).trans rfl; have hcz23_2 : w22.cell? ⟨gb268, 2, none⟩ = some (.slice A0_2 l0_2.length c0_2) := (blk_cell BK268.out 2).trans rfl; have hfz23_0 := blk_frozen BK268.out 0; have hfz23_1 := blk_frozen BK268.out 1; have hfz23_2 := blk_frozen BK268.out 2) | ((with_reducible refine gate_callee (f := 20) rfl ?_); refine goesL_ (some 4) rfl rfl Tryd.func20 (by kernel_rfl) rfl #[.agg #[.slice A0_0 l0_0.length c0_0, .slice A0_1 l0_1.length c0_1, .slice A0_2 l0_2.length c0_2]] rfl sm ?_; (with_reducible refine (vesperref14_blocksMay.calls k _ _ l0_0 _ _ l0_1 _ _ l0_2 true _ ?side1 ?side2 ?side3 ?side4 ?side5 ?side6 A2.out).mono ?_); (case side1 => repeat (first | exact (Kd.C_below HR0_0.out HB.out) | (with_reducible refine Kd.C_alloc ?_ _) | (with_reducible refine Kd.C_drewN ?_ _) | (with_reducible refine Kd.C_drew ?_))); (case side2 => exact HC0_0.out); (case side3 => repeat (first | exact (Kd.C_below HR0_1.out HB.out) | (with_reducible refine Kd.C_alloc ?_ _) | (with_reducible refine Kd.C_drewN ?_ _) | (with_reducible refine Kd.C_drew ?_))); (case side4 => exact HC0_1.out); (case side5 => repeat (first | exact (Kd.C_below HR0_2.out HB.out) | (with_reducible refine Kd.C_alloc ?_ _) | (with_reducible refine Kd.C_drewN ?_ _) | (with_reducible refine Kd.C_drew ?_))); (case side6 => exact HC0_2.out); rintro e w24 ⟨rfl, hb⟩; refine ⟨_, rfl, ?_⟩; have n0_ := Aside0.mk (blk_below (g := gb268) (o := .cells #[.slice A0_0 l0_0.length c0_0, .slice A0_1 l0_1.length c0_1, .slice A0_2 l0_2.length c0_2] 26 (0, 0)) bk hb); have n1_ := Aside0.mk (below_step bw hb); clear BK268; clear HB; have BK268 := n0_; have HB := n1_; clear n0_ n1_; (try clear hb); (try clear hb2); (try clear hk); (try clear hi); have hcz25_0 : w24.cell? ⟨gb268, 0, none⟩ = some (.slice A0_0 l0_0.length c0_0) := (blk_cell BK268.out 0).trans rfl; have hcz25_1 : w24.cell? ⟨gb268, 1, none⟩ = some (.slice A0_1 l0_1.length c0_1) := (blk_cell BK268.out 1).trans rfl; have hcz25_2 : w24.cell? ⟨gb268, 2, none⟩ = some (.slice A0_2 l0_2.length c0_2) := (blk_cell BK268.out 2).trans rfl; have hfz25_0 := blk_frozen BK268.out 0; have hfz25_1 := blk_frozen BK268.out 1; have hfz25_2 := blk_frozen BK268.out 2) | (go_at_call 21; (with_reducible refine (vesperref14_marksMay.calls k _ _ l0_0 _ _ l0_1 _ _ l0_2 false _ ?side1 ?side2 ?side3 ?side4 ?side5 ?side6 A4.out).mono ?_); (case side1 => repeat (first | exact (Kd.C_below HR0_0.out HB.out) | (with_reducible refine Kd.C_alloc ?_ _) | (with_reducible refine Kd.C_drewN ?_ _) | (with_reducible refine Kd.C_drew ?_))); (case side2 => exact HC0_0.out); (case side3 => repeat (first | exact (Kd.C_below HR0_1.out HB.out) | (with_reducible refine Kd.C_alloc ?_ _) | (with_reducible refine Kd.C_drewN ?_ _) | (with_reducible refine Kd.C_drew ?_))); (case side4 => exact HC0_1.out); (case side5 => repeat (first | exact (Kd.C_below HR0_2.out HB.out) | (with_reducible refine Kd.C_alloc ?_ _) | (with_reducible refine Kd.C_drewN ?_ _) | (with_reducible refine Kd.C_drew ?_))); (case side6 => exact HC0_2.out); rintro e w26 ⟨rfl, hb⟩; have n0_ := Aside0.mk (blk_below (g := gb268) (o := .cells #[.slice A0_0 l0_0.length c0_0, .slice A0_1 l0_1.length c0_1, .slice A0_2 l0_2.length c0_2] 26 (0, 0)) bk hb); have n1_ := Aside0.mk (below_step bw hb); clear BK268; clear HB; have BK268 := n0_; have HB := n1_; clear n0_ n1_; (try clear hb); (try clear hb2); (try clear hk); (try clear hi)))
  go_ret
  exact ⟨ew, bw⟩
 replace c3 := Bool.eq_false_iff.mpr c3
 subst c3
 have H1 : (some 1) = some r := by rw [if_neg (show ¬ (false = true) by decide)] at H; exact H
 clear H
 have H := H1
 clear H1
 obtain rfl := Option.some.inj H
 go_enter Tryd.func11, Tryd.ntmps11
 go_wp2_with (first | ((with_reducible refine gate_dst (N := 1) rfl ?_); refine box_event ?hg (N := 1) ?hd (cs := #[.slice A0_0 l0_0.length c0_0, .slice A0_1 l0_1.length c0_1, .slice A0_2 l0_2.length c0_2]) (t := 26) ?hr ?_; (case hd => rfl); (case hg => rfl); (case hr => first | (go_simp; done) | (go_simp; rfl)); intro gb268 hg w27 hbox hb; have n0_ := Aside0.mk (below_step bw hb); have n1_ := Aside0.mk (hbox); have n2_ := Aside0.mk (bz hg : w.heap.size ≤ gb268); have n3_ := Aside0.mk (bz hg : w.heap.size ≤ gb268); clear HB; have HB := n0_; have BK268 := n1_; have GW268 := n2_; have GE268 := n3_; clear n0_ n1_ n2_ n3_; clear hb hbox hg; have hcz28_0 : w27.cell? ⟨gb268, 0, none⟩ = some (.slice A0_0 l0_0.length c0_0) := (blk_cell BK268.out 0).trans rfl; have hcz28_1 : w27.cell? ⟨gb268, 1, none⟩ = some (.slice A0_1 l0_1.length c0_1) := (blk_cell BK268.out 1).trans rfl; have hcz28_2 : w27.cell? ⟨gb268, 2, none⟩ = some (.slice A0_2 l0_2.length c0_2) := (blk_cell BK268.out 2).trans rfl; have hfz28_0 := blk_frozen BK268.out 0; have hfz28_1 := blk_frozen BK268.out 1; have hfz28_2 := blk_frozen BK268.out 2) | ((with_reducible refine gate_callee (f := 20) rfl ?_); refine goesL_ (some 4) rfl rfl Tryd.func20 (by kernel_rfl) rfl #[.agg #[.slice A0_0 l0_0.length c0_0, .slice A0_1 l0_1.length c0_1, .slice A0_2 l0_2.length c0_2]] rfl sm ?_; (with_reducible refine (vesperref14_blocksMay.calls k _ _ l0_0 _ _ l0_1 _ _ l0_2 false _ ?side1 ?side2 ?side3 ?side4 ?side5 ?side6 A2.out).mono ?_); (case side1 => repeat (first | exact (Kd.C_below HR0_0.out HB.out) | (with_reducible refine Kd.C_alloc ?_ _) | (with_reducible refine Kd.C_drewN ?_ _) | (with_reducible refine Kd.C_drew ?_))); (case side2 => exact HC0_0.out); (case side3 => repeat (first | exact (Kd.C_below HR0_1.out HB.out) | (with_reducible refine Kd.C_alloc ?_ _) | (with_reducible refine Kd.C_drewN ?_ _) | (with_reducible refine Kd.C_drew ?_))); (case side4 => exact HC0_1.out); (case side5 => repeat (first | exact (Kd.C_below HR0_2.out HB.out) | (with_reducible refine Kd.C_alloc ?_ _) | (with_reducible refine Kd.C_drewN ?_ _) | (with_reducible refine Kd.C_drew ?_))); (case side6 => exact HC0_2.out); rintro e w29 ⟨rfl, hb⟩; refine ⟨_, rfl, ?_⟩; have n0_ := Aside0.mk (blk_below (g := gb268) (o := .cells #[.slice A0_0 l0_0.length c0_0, .slice A0_1 l0_1.length c0_1, .slice A0_2 l0_2.length c0_2] 26 (0, 0)) bk hb); have n1_ := Aside0.mk (below_step bw hb); clear BK268; clear HB; have BK268 := n0_; have HB := n1_; clear n0_ n1_; (try clear hb); (try clear hb2); (try clear hk); (try clear hi)))
 go_ret
 exact ⟨ew, bw⟩

/-! ### vesperref14_Bytes: function 8 -/
mutual
def vesperref14_Bytes.j0 : Nat → Int → Int → Bool → List (S42) → List (S52) → List (S47) → Option (List Int × Int)
 | 0, _, _, _, _, _, _ => none
 | k + 1, x1, x2, x27, x273000, x273001, x273002 => if x27 = true then (some (([] : List Int), 1)) else (if 0 ≤ (wrap64 (x2 - x1)) then (if (wrap64 (x2 - x1) : Int).toNat ≤ 281474976710656 then (vesperref14_Bytes.l0 k x1 x2 (List.replicate (wrap64 (x2 - x1) : Int).toNat 0) 0 x273000 x273001 x273002) else (none)) else (none))
def vesperref14_Bytes.l0 : Nat → Int → Int → List Int → Int → List (S42) → List (S52) → List (S47) → Option (List Int × Int)
 | 0, _, _, _, _, _, _, _ => none
 | k + 1, x1, x2, x8, x9, x273000, x273001, x273002 => if x9 < (x273000.length : Int) then (vesperref14_Bytes.l1 k x1 x2 x8 x9 0 x273000 x273001 x273002) else (some (x8, 0))
def vesperref14_Bytes.l1 : Nat → Int → Int → List Int → Int → Int → List (S42) → List (S52) → List (S47) → Option (List Int × Int)
 | 0, _, _, _, _, _, _, _, _ => none
 | k + 1, x1, x2, x8, x9, x10, x273000, x273001, x273002 => if 0 ≤ x9 then (if x9 < (x273000.length : Int) then (if x10 < (((rd_T42 x273000 x9).f1).length : Int) then (if (wrap64 (((rd_T42 x273000 x9).f0) + x10)) ≥ x1 then (if (wrap64 (((rd_T42 x273000 x9).f0) + x10)) < x2 then (if 0 ≤ x10 then (if 0 ≤ (wrap64 ((wrap64 (((rd_T42 x273000 x9).f0) + x10)) - x1)) then (if (wrap64 ((wrap64 (((rd_T42 x273000 x9).f0) + x10)) - x1)) < (x8.length : Int) then (vesperref14_Bytes.l1 k x1 x2 (x8.set ((wrap64 ((wrap64 (((rd_T42 x273000 x9).f0) + x10)) - x1)) : Int).toNat (rd ((rd_T42 x273000 x9).f1) x10)) x9 (wrap64 (x10 + 1)) x273000 x273001 x273002) else (none)) else (none)) else (none)) else (vesperref14_Bytes.l1 k x1 x2 x8 x9 (wrap64 (x10 + 1)) x273000 x273001 x273002)) else (vesperref14_Bytes.l1 k x1 x2 x8 x9 (wrap64 (x10 + 1)) x273000 x273001 x273002)) else (vesperref14_Bytes.l0 k x1 x2 x8 (wrap64 (x9 + 1)) x273000 x273001 x273002)) else (none)) else (none)
end
def vesperref14_Bytes.f (k : Nat) (l0_0 : List (S42)) (l0_1 : List (S52)) (l0_2 : List (S47)) (a1 : Int) (a2 : Int) : Option (List Int × Int) := (vesperref14_Check.f k l0_0 l0_1 l0_2).bind fun t273 => (if t273 = 0 then (if a1 < 0 then (vesperref14_Bytes.j0 k a1 a2 true l0_0 l0_1 l0_2) else (if a1 > a2 then (vesperref14_Bytes.j0 k a1 a2 true l0_0 l0_1 l0_2) else (vesperref14_Bytes.j0 k a1 a2 (decide (a2 > 65536)) l0_0 l0_1 l0_2))) else (vesperref14_Bytes.j0 k a1 a2 true l0_0 l0_1 l0_2))
theorem vesperref14_Bytes.mono_l : ∀ k, (∀ y0 y1 y2 y3 y4 y5, LeO (vesperref14_Bytes.j0 k y0 y1 y2 y3 y4 y5) (vesperref14_Bytes.j0 (k + 1) y0 y1 y2 y3 y4 y5)) ∧ (∀ y0 y1 y2 y3 y4 y5 y6, LeO (vesperref14_Bytes.l0 k y0 y1 y2 y3 y4 y5 y6) (vesperref14_Bytes.l0 (k + 1) y0 y1 y2 y3 y4 y5 y6)) ∧ (∀ y0 y1 y2 y3 y4 y5 y6 y7, LeO (vesperref14_Bytes.l1 k y0 y1 y2 y3 y4 y5 y6 y7) (vesperref14_Bytes.l1 (k + 1) y0 y1 y2 y3 y4 y5 y6 y7))
 | 0 => ⟨fun _ _ _ _ _ _ r h => by simp [vesperref14_Bytes.j0] at h, fun _ _ _ _ _ _ _ r h => by simp [vesperref14_Bytes.l0] at h, fun _ _ _ _ _ _ _ _ r h => by simp [vesperref14_Bytes.l1] at h⟩
 | k + 1 => by
  obtain ⟨ih0, ih1, ih2⟩ := vesperref14_Bytes.mono_l k
  refine ⟨?_, ?_, ?_⟩
  ·intro y0 y1 y2 y3 y4 y5
   unfold vesperref14_Bytes.j0
   repeat' first
   | (with_reducible exact ih0 _ _ _ _ _ _)
   | (with_reducible exact ih1 _ _ _ _ _ _ _)
   | (with_reducible exact ih2 _ _ _ _ _ _ _ _)
   | (with_reducible exact vesperref14_Check.mono _ _ _ _)
   | (with_reducible exact LeO.refl _)
   | (with_reducible exact LeO.none _)
   | (with_reducible refine LeO.ite ?_ ?_)
   | (with_reducible refine LeO.bind ?_ (fun _ => ?_))
   | exact ih0 _ _ _ _ _ _
   | exact ih1 _ _ _ _ _ _ _
   | exact ih2 _ _ _ _ _ _ _ _
   | exact vesperref14_Check.mono _ _ _ _
   | exact LeO.none _
   | refine LeO.ite ?_ ?_
   | refine LeO.bind ?_ (fun _ => ?_)
  ·intro y0 y1 y2 y3 y4 y5 y6
   unfold vesperref14_Bytes.l0
   repeat' first
   | (with_reducible exact ih0 _ _ _ _ _ _)
   | (with_reducible exact ih1 _ _ _ _ _ _ _)
   | (with_reducible exact ih2 _ _ _ _ _ _ _ _)
   | (with_reducible exact vesperref14_Check.mono _ _ _ _)
   | (with_reducible exact LeO.refl _)
   | (with_reducible exact LeO.none _)
   | (with_reducible refine LeO.ite ?_ ?_)
   | (with_reducible refine LeO.bind ?_ (fun _ => ?_))
   | exact ih0 _ _ _ _ _ _
   | exact ih1 _ _ _ _ _ _ _
   | exact ih2 _ _ _ _ _ _ _ _
   | exact vesperref14_Check.mono _ _ _ _
   | exact LeO.none _
   | refine LeO.ite ?_ ?_
   | refine LeO.bind ?_ (fun _ => ?_)
  intro y0 y1 y2 y3 y4 y5 y6 y7
  unfold vesperref14_Bytes.l1
  repeat' first
  | (with_reducible exact ih0 _ _ _ _ _ _)
  | (with_reducible exact ih1 _ _ _ _ _ _ _)
  | (with_reducible exact ih2 _ _ _ _ _ _ _ _)
  | (with_reducible exact vesperref14_Check.mono _ _ _ _)
  | (with_reducible exact LeO.refl _)
  | (with_reducible exact LeO.none _)
  | (with_reducible refine LeO.ite ?_ ?_)
  | (with_reducible refine LeO.bind ?_ (fun _ => ?_))
  | exact ih0 _ _ _ _ _ _
  | exact ih1 _ _ _ _ _ _ _
  | exact ih2 _ _ _ _ _ _ _ _
  | exact vesperref14_Check.mono _ _ _ _
  | exact LeO.none _
  | refine LeO.ite ?_ ?_
  | refine LeO.bind ?_ (fun _ => ?_)
theorem vesperref14_Bytes.mono : ∀ a0 a1 a2 a3 a4 k, LeO (vesperref14_Bytes.f k a0 a1 a2 a3 a4) (vesperref14_Bytes.f (k + 1) a0 a1 a2 a3 a4) := by
 intro a0 a1 a2 a3 a4 k
 obtain ⟨ih0, ih1, ih2⟩ := vesperref14_Bytes.mono_l k
 unfold vesperref14_Bytes.f
 repeat' first
  | (with_reducible exact ih0 _ _ _ _ _ _)
  | (with_reducible exact ih1 _ _ _ _ _ _ _)
  | (with_reducible exact ih2 _ _ _ _ _ _ _ _)
  | (with_reducible exact vesperref14_Check.mono _ _ _ _)
  | (with_reducible exact LeO.refl _)
  | (with_reducible exact LeO.none _)
  | (with_reducible refine LeO.ite ?_ ?_)
  | (with_reducible refine LeO.bind ?_ (fun _ => ?_))
  | exact ih0 _ _ _ _ _ _
  | exact ih1 _ _ _ _ _ _ _
  | exact ih2 _ _ _ _ _ _ _ _
  | exact vesperref14_Check.mono _ _ _ _
  | exact LeO.none _
  | refine LeO.ite ?_ ?_
  | refine LeO.bind ?_ (fun _ => ?_)
set_option maxHeartbeats 8000000 in
set_option maxRecDepth 100000 in
theorem vesperref14_Bytes.calls (k : Nat) (A0_0 : Option Addr) (c0_0 : Nat) (l0_0 : List (S42)) (A0_1 : Option Addr) (c0_1 : Nat) (l0_1 : List (S52)) (A0_2 : Option Addr) (c0_2 : Nat) (l0_2 : List (S47)) (a1 : Int) (a2 : Int) (r1 : List Int) (r2 : Int) (w : World) (hr0_0 : Kd.C k42 w A0_0 l0_0.length l0_0) (hc0_0 : l0_0.length ≤ c0_0) (hr0_1 : Kd.C k52 w A0_1 l0_1.length l0_1) (hc0_1 : l0_1.length ≤ c0_1) (hr0_2 : Kd.C k47 w A0_2 l0_2.length l0_2) (hc0_2 : l0_2.length ≤ c0_2) (h : vesperref14_Bytes.f k l0_0 l0_1 l0_2 a1 a2 = some (r1, r2)) :
 Calls Tryd.prog 8 #[.agg #[.slice A0_0 l0_0.length c0_0, .slice A0_1 l0_1.length c0_1, .slice A0_2 l0_2.length c0_2], .int .i64 a1, .int .i64 a2] w fun e w' => ∃ v0_ : Value, e = .returned (.tuple #[v0_, .int .i64 r2]) ∧ Kd.R (Kd.int .u8) 5 w' w.heap.size (fun _ => True) v0_ r1 ∧ Below w.heap.size w w' := by
 have hu26 := Tryd.underlying26
 have HR0_0 := Aside0.mk hr0_0
 have HC0_0 := Aside0.mk hc0_0
 clear hr0_0 hc0_0
 have HR0_1 := Aside0.mk hr0_1
 have HC0_1 := Aside0.mk hc0_1
 clear hr0_1 hc0_1
 have HR0_2 := Aside0.mk hr0_2
 have HC0_2 := Aside0.mk hc0_2
 clear hr0_2 hc0_2
 have HB := Aside0.mk (Below.refl w.heap.size w)
 have H : ((vesperref14_Check.f k l0_0 l0_1 l0_2).bind fun t273 => (if t273 = 0 then (if a1 < 0 then (vesperref14_Bytes.j0 k a1 a2 true l0_0 l0_1 l0_2) else (if a1 > a2 then (vesperref14_Bytes.j0 k a1 a2 true l0_0 l0_1 l0_2) else (vesperref14_Bytes.j0 k a1 a2 (decide (a2 > 65536)) l0_0 l0_1 l0_2))) else (vesperref14_Bytes.j0 k a1 a2 true l0_0 l0_1 l0_2))) = some (r1, r2) := h
 clear h
 have HC4 := Aside0.mk H
 clear H
 go_enter Tryd.func8, Tryd.ntmps8
 go_upto_region 1 with (first | ((with_reducible refine gate_dst (N := 3) rfl ?_); refine box_event ?hg (N := 3) ?hd (cs := #[.slice A0_0 l0_0.length c0_0, .slice A0_1 l0_1.length c0_1, .slice A0_2 l0_2.length c0_2]) (t := 26) ?hr ?_; (case hd => rfl); (case hg => rfl); (case hr => first | (go_simp; done) | (go_simp; rfl)); intro gb272 hg w5 hbox hb; have n0_ := Aside0.mk (below_step bw hb); have n1_ := Aside0.mk (hbox); have n2_ := Aside0.mk (bz hg : w.heap.size ≤ gb272); have n3_ := Aside0.mk (bz hg : w.heap.size ≤ gb272); clear HB; have HB := n0_; have BK272 := n1_; have GW272 := n2_; have GE272 := n3_; clear n0_ n1_ n2_ n3_; clear hb hbox hg))
 (try simp only [Act.put, List.setIfInBounds_toArray, List.set_cons_zero, List.set_cons_succ])
 go_cut [27] (fun v27 wc => ∃ (kq : Nat) (x27_3 : Bool), v27 = .bool x27_3 ∧ Aside0 (vesperref14_Bytes.j0 kq a1 a2 x27_3 l0_0 l0_1 l0_2 = some (r1, r2)) ∧ Aside0 (kq ≤ k) ∧ Aside0 (wc.heap[gb272]? = some (.cells #[(.slice A0_0 l0_0.length c0_0), (.slice A0_1 l0_1.length c0_1), (.slice A0_2 l0_2.length c0_2)] 26 (0, 0))) ∧ Aside0 (Below w.heap.size w wc))
 case first =>
  have H := HC4.out
  clear HC4
  replace H := Option.bind_eq_some_iff.mp H
  obtain ⟨t273, A60, H⟩ := H
  replace H : (if t273 = 0 then (if a1 < 0 then (vesperref14_Bytes.j0 k a1 a2 true l0_0 l0_1 l0_2) else (if a1 > a2 then (vesperref14_Bytes.j0 k a1 a2 true l0_0 l0_1 l0_2) else (vesperref14_Bytes.j0 k a1 a2 (decide (a2 > 65536)) l0_0 l0_1 l0_2))) else (vesperref14_Bytes.j0 k a1 a2 true l0_0 l0_1 l0_2)) = some (r1, r2) := H
  have A6 := Aside0.mk A60
  clear A60
  by_cases c7 : t273 = 0
  ·rw [if_pos c7] at H
   have c7b0 : (t273 == 0) = true := beq_iff_eq.mpr c7
   have c7b1 : (t273 != 0) = false := bne_eq_false_iff_eq.mpr c7
   clear c7
   (first | rw [c7b0] | (simp only [i64_w, i32_w]; rw [c7b0]) | skip)
   by_cases c8 : a1 < 0
   ·rw [if_pos c8] at H
    have c8b0 : decide (a1 < 0) = true := decide_eq_true c8
    clear c8
    have H' := Aside0.mk H
    clear H
    have hcz9_0 : w5.cell? ⟨gb272, 0, none⟩ = some (.slice A0_0 l0_0.length c0_0) := (blk_cell BK272.out 0).trans rfl
    have hcz9_1 : w5.cell? ⟨gb272, 1, none⟩ = some (.slice A0_1 l0_1.length c0_1) := (blk_cell BK272.out 1).trans rfl
    have hcz9_2 : w5.cell? ⟨gb272, 2, none⟩ = some (.slice A0_2 l0_2.length c0_2) := (blk_cell BK272.out 2).trans rfl
    have hfz9_0 := blk_frozen BK272.out 0
    have hfz9_1 := blk_frozen BK272.out 1
    have hfz9_2 := blk_frozen BK272.out 2
    go_wp2_with (first | ((with_reducible refine gate_callee (f := 11) rfl ?_); refine goesL_ (some 13) rfl rfl Tryd.func11 (by kernel_rfl) rfl #[.agg #[.slice A0_0 l0_0.length c0_0, .slice A0_1 l0_1.length c0_1, .slice A0_2 l0_2.length c0_2]] rfl sm ?_; (with_reducible refine (vesperref14_Check.calls k _ _ l0_0 _ _ l0_1 _ _ l0_2 t273 _ ?side1 ?side2 ?side3 ?side4 ?side5 ?side6 A6.out).mono ?_); (case side1 => repeat (first | exact (Kd.C_below HR0_0.out HB.out) | (with_reducible refine Kd.C_alloc ?_ _) | (with_reducible refine Kd.C_drewN ?_ _) | (with_reducible refine Kd.C_drew ?_))); (case side2 => exact HC0_0.out); (case side3 => repeat (first | exact (Kd.C_below HR0_1.out HB.out) | (with_reducible refine Kd.C_alloc ?_ _) | (with_reducible refine Kd.C_drewN ?_ _) | (with_reducible refine Kd.C_drew ?_))); (case side4 => exact HC0_1.out); (case side5 => repeat (first | exact (Kd.C_below HR0_2.out HB.out) | (with_reducible refine Kd.C_alloc ?_ _) | (with_reducible refine Kd.C_drewN ?_ _) | (with_reducible refine Kd.C_drew ?_))); (case side6 => exact HC0_2.out); rintro e w10 ⟨rfl, hb⟩; refine ⟨_, rfl, ?_⟩; have n0_ := Aside0.mk (blk_below (g := gb272) (o := .cells #[.slice A0_0 l0_0.length c0_0, .slice A0_1 l0_1.length c0_1, .slice A0_2 l0_2.length c0_2] 26 (0, 0)) bk hb); have n1_ := Aside0.mk (below_step bw hb); clear BK272; clear HB; have BK272 := n0_; have HB := n1_; clear n0_ n1_; (try clear hb); (try clear hb2); (try clear hk); (try clear hi)))
    go_meet
    case rel => exact ⟨_, (true), rs, H', ⟨by first | omega | exact Nat.le_refl _⟩, ⟨by (with_reducible repeat (first | refine blk_drewN ?_ _ | refine blk_drew ?_ | refine blk_alloc ?_ _)); exact BK272.out⟩, ⟨bw⟩⟩
   rw [if_neg c8] at H
   have c8b0 : decide (a1 < 0) = false := decide_eq_false c8
   clear c8
   by_cases c11 : a1 > a2
   ·rw [if_pos c11] at H
    have c11b0 : decide (a2 < a1) = true := decide_eq_true c11
    clear c11
    have H' := Aside0.mk H
    clear H
    have hcz12_0 : w5.cell? ⟨gb272, 0, none⟩ = some (.slice A0_0 l0_0.length c0_0) := (blk_cell BK272.out 0).trans rfl
    have hcz12_1 : w5.cell? ⟨gb272, 1, none⟩ = some (.slice A0_1 l0_1.length c0_1) := (blk_cell BK272.out 1).trans rfl
    have hcz12_2 : w5.cell? ⟨gb272, 2, none⟩ = some (.slice A0_2 l0_2.length c0_2) := (blk_cell BK272.out 2).trans rfl
    have hfz12_0 := blk_frozen BK272.out 0
    have hfz12_1 := blk_frozen BK272.out 1
    have hfz12_2 := blk_frozen BK272.out 2
    go_wp2_with (first | ((with_reducible refine gate_callee (f := 11) rfl ?_); refine goesL_ (some 13) rfl rfl Tryd.func11 (by kernel_rfl) rfl #[.agg #[.slice A0_0 l0_0.length c0_0, .slice A0_1 l0_1.length c0_1, .slice A0_2 l0_2.length c0_2]] rfl sm ?_; (with_reducible refine (vesperref14_Check.calls k _ _ l0_0 _ _ l0_1 _ _ l0_2 t273 _ ?side1 ?side2 ?side3 ?side4 ?side5 ?side6 A6.out).mono ?_); (case side1 => repeat (first | exact (Kd.C_below HR0_0.out HB.out) | (with_reducible refine Kd.C_alloc ?_ _) | (with_reducible refine Kd.C_drewN ?_ _) | (with_reducible refine Kd.C_drew ?_))); (case side2 => exact HC0_0.out); (case side3 => repeat (first | exact (Kd.C_below HR0_1.out HB.out) | (with_reducible refine Kd.C_alloc ?_ _) | (with_reducible refine Kd.C_drewN ?_ _) | (with_reducible refine Kd.C_drew ?_))); (case side4 => exact HC0_1.out); (case side5 => repeat (first | exact (Kd.C_below HR0_2.out HB.out) | (with_reducible refine Kd.C_alloc ?_ _) | (with_reducible refine Kd.C_drewN ?_ _) | (with_reducible refine Kd.C_drew ?_))); (case side6 => exact HC0_2.out); rintro e w13 ⟨rfl, hb⟩; refine ⟨_, rfl, ?_⟩; have n0_ := Aside0.mk (blk_below (g := gb272) (o := .cells #[.slice A0_0 l0_0.length c0_0, .slice A0_1 l0_1.length c0_1, .slice A0_2 l0_2.length c0_2] 26 (0, 0)) bk hb); have n1_ := Aside0.mk (below_step bw hb); clear BK272; clear HB; have BK272 := n0_; have HB := n1_; clear n0_ n1_; (try clear hb); (try clear hb2); (try clear hk); (try clear hi)))
    go_meet
    case rel => exact ⟨_, (true), rs, H', ⟨by first | omega | exact Nat.le_refl _⟩, ⟨by (with_reducible repeat (first | refine blk_drewN ?_ _ | refine blk_drew ?_ | refine blk_alloc ?_ _)); exact BK272.out⟩, ⟨bw⟩⟩
   rw [if_neg c11] at H
   have c11b0 : decide (a2 < a1) = false := decide_eq_false c11
   clear c11
   have H' := Aside0.mk H
   clear H
   have hcz14_0 : w5.cell? ⟨gb272, 0, none⟩ = some (.slice A0_0 l0_0.length c0_0) := (blk_cell BK272.out 0).trans rfl
   have hcz14_1 : w5.cell? ⟨gb272, 1, none⟩ = some (.slice A0_1 l0_1.length c0_1) := (blk_cell BK272.out 1).trans rfl
   have hcz14_2 : w5.cell? ⟨gb272, 2, none⟩ = some (.slice A0_2 l0_2.length c0_2) := (blk_cell BK272.out 2).trans rfl
   have hfz14_0 := blk_frozen BK272.out 0
   have hfz14_1 := blk_frozen BK272.out 1
   have hfz14_2 := blk_frozen BK272.out 2
   go_wp2_with (first | ((with_reducible refine gate_callee (f := 11) rfl ?_); refine goesL_ (some 13) rfl rfl Tryd.func11 (by kernel_rfl) rfl #[.agg #[.slice A0_0 l0_0.length c0_0, .slice A0_1 l0_1.length c0_1, .slice A0_2 l0_2.length c0_2]] rfl sm ?_; (with_reducible refine (vesperref14_Check.calls k _ _ l0_0 _ _ l0_1 _ _ l0_2 t273 _ ?side1 ?side2 ?side3 ?side4 ?side5 ?side6 A6.out).mono ?_); (case side1 => repeat (first | exact (Kd.C_below HR0_0.out HB.out) | (with_reducible refine Kd.C_alloc ?_ _) | (with_reducible refine Kd.C_drewN ?_ _) | (with_reducible refine Kd.C_drew ?_))); (case side2 => exact HC0_0.out); (case side3 => repeat (first | exact (Kd.C_below HR0_1.out HB.out) | (with_reducible refine Kd.C_alloc ?_ _) | (with_reducible refine Kd.C_drewN ?_ _) | (with_reducible refine Kd.C_drew ?_))); (case side4 => exact HC0_1.out); (case side5 => repeat (first | exact (Kd.C_below HR0_2.out HB.out) | (with_reducible refine Kd.C_alloc ?_ _) | (with_reducible refine Kd.C_drewN ?_ _) | (with_reducible refine Kd.C_drew ?_))); (case side6 => exact HC0_2.out); rintro e w15 ⟨rfl, hb⟩; refine ⟨_, rfl, ?_⟩; have n0_ := Aside0.mk (blk_below (g := gb272) (o := .cells #[.slice A0_0 l0_0.length c0_0, .slice A0_1 l0_1.length c0_1, .slice A0_2 l0_2.length c0_2] 26 (0, 0)) bk hb); have n1_ := Aside0.mk (below_step bw hb); clear BK272; clear HB; have BK272 := n0_; have HB := n1_; clear n0_ n1_; (try clear hb); (try clear hb2); (try clear hk); (try clear hi)))
   go_meet
   case rel => exact ⟨_, (decide (a2 > 65536)), rs, H', ⟨by first | omega | exact Nat.le_refl _⟩, ⟨by (with_reducible repeat (first | refine blk_drewN ?_ _ | refine blk_drew ?_ | refine blk_alloc ?_ _)); exact BK272.out⟩, ⟨bw⟩⟩
  rw [if_neg c7] at H
  have c7b0 : (t273 == 0) = false := beq_eq_false_iff_ne.mpr c7
  have c7b1 : (t273 != 0) = true := bne_iff_ne.mpr c7
  (first | rw [c7b0] | (simp only [i64_w, i32_w]; rw [c7b0]) | skip)
  have H' := Aside0.mk H
  clear H
  have hcz16_0 : w5.cell? ⟨gb272, 0, none⟩ = some (.slice A0_0 l0_0.length c0_0) := (blk_cell BK272.out 0).trans rfl
  have hcz16_1 : w5.cell? ⟨gb272, 1, none⟩ = some (.slice A0_1 l0_1.length c0_1) := (blk_cell BK272.out 1).trans rfl
  have hcz16_2 : w5.cell? ⟨gb272, 2, none⟩ = some (.slice A0_2 l0_2.length c0_2) := (blk_cell BK272.out 2).trans rfl
  have hfz16_0 := blk_frozen BK272.out 0
  have hfz16_1 := blk_frozen BK272.out 1
  have hfz16_2 := blk_frozen BK272.out 2
  go_wp2_with (first | ((with_reducible refine gate_callee (f := 11) rfl ?_); refine goesL_ (some 13) rfl rfl Tryd.func11 (by kernel_rfl) rfl #[.agg #[.slice A0_0 l0_0.length c0_0, .slice A0_1 l0_1.length c0_1, .slice A0_2 l0_2.length c0_2]] rfl sm ?_; (with_reducible refine (vesperref14_Check.calls k _ _ l0_0 _ _ l0_1 _ _ l0_2 t273 _ ?side1 ?side2 ?side3 ?side4 ?side5 ?side6 A6.out).mono ?_); (case side1 => repeat (first | exact (Kd.C_below HR0_0.out HB.out) | (with_reducible refine Kd.C_alloc ?_ _) | (with_reducible refine Kd.C_drewN ?_ _) | (with_reducible refine Kd.C_drew ?_))); (case side2 => exact HC0_0.out); (case side3 => repeat (first | exact (Kd.C_below HR0_1.out HB.out) | (with_reducible refine Kd.C_alloc ?_ _) | (with_reducible refine Kd.C_drewN ?_ _) | (with_reducible refine Kd.C_drew ?_))); (case side4 => exact HC0_1.out); (case side5 => repeat (first | exact (Kd.C_below HR0_2.out HB.out) | (with_reducible refine Kd.C_alloc ?_ _) | (with_reducible refine Kd.C_drewN ?_ _) | (with_reducible refine Kd.C_drew ?_))); (case side6 => exact HC0_2.out); rintro e w17 ⟨rfl, hb⟩; refine ⟨_, rfl, ?_⟩; have n0_ := Aside0.mk (blk_below (g := gb272) (o := .cells #[.slice A0_0 l0_0.length c0_0, .slice A0_1 l0_1.length c0_1, .slice A0_2 l0_2.length c0_2] 26 (0, 0)) bk hb); have n1_ := Aside0.mk (below_step bw hb); clear BK272; clear HB; have BK272 := n0_; have HB := n1_; clear n0_ n1_; (try clear hb); (try clear hb2); (try clear hk); (try clear hi)))
  go_meet
  case rel => exact ⟨_, (true), rs, H', ⟨by first | omega | exact Nat.le_refl _⟩, ⟨by (with_reducible repeat (first | refine blk_drewN ?_ _ | refine blk_drew ?_ | refine blk_alloc ?_ _)); exact BK272.out⟩, ⟨bw⟩⟩
 case rest =>
  clear HC4
  obtain ⟨kq, x27_3, rfl, HA, HJ3, BK272, HB⟩ := hcut
  cases kq with
  | zero => exact absurd HA.out (by simp [vesperref14_Bytes.j0])
  | succ kj3 =>
   have H := HA.out
   clear HA
   simp only [vesperref14_Bytes.j0] at H
   by_cases c18 : x27_3 = true
   ·subst c18
    have H1 : (some (([] : List Int), 1)) = some (r1, r2) := by rw [if_pos rfl] at H; exact H
    clear H
    have H := H1
    clear H1
    simp only [Option.some.injEq, Prod.mk.injEq] at H
    obtain ⟨rfl, rfl⟩ := H
    go_wp2
    go_ret2
    exact ⟨_, ew, by first | exact Kd.R_nil _ _ _ _ _ | exact Kd.N_nil _ _ _ _ _ | exact Kd.V_nil _ _ _ _ _ | exact Kd.Q_nil _ _ _ _ _ | exact Kd.S_nil _ _ _ _ _, bw⟩
   replace c18 := Bool.eq_false_iff.mpr c18
   subst c18
   have H1 : (if 0 ≤ (wrap64 (a2 - a1)) then (if (wrap64 (a2 - a1) : Int).toNat ≤ 281474976710656 then (vesperref14_Bytes.l0 kj3 a1 a2 (List.replicate (wrap64 (a2 - a1) : Int).toNat 0) 0 l0_0 l0_1 l0_2) else (none)) else (none)) = some (r1, r2) := by rw [if_neg (show ¬ (false = true) by decide)] at H; exact H
   clear H
   have H := H1
   clear H1
   obtain ⟨ji19, hji19⟩ : ∃ j_ : Int, (wrap64 (a2 - a1)) = j_ := ⟨_, rfl⟩
   replace H : (if 0 ≤ (ji19) then (if (ji19 : Int).toNat ≤ 281474976710656 then (vesperref14_Bytes.l0 kj3 a1 a2 (List.replicate (ji19 : Int).toNat 0) 0 l0_0 l0_1 l0_2) else (none)) else (none)) = some (r1, r2) := by first | (rw [hji19] at H; exact H) | (simp only [hji19] at H ⊢; exact H)
   have hji19w : (IntKind.i64.wrap (a2 - a1)) = ji19 := (i64_w _).trans hji19
   by_cases c20 : 0 ≤ (ji19)
   ·rw [if_pos c20] at H
    have c20b0 := eq_true c20
    have c20b1 : decide (0 ≤ (ji19)) = true := decide_eq_true c20
    clear c20
    by_cases c21 : (ji19 : Int).toNat ≤ 281474976710656
    ·rw [if_pos c21] at H
     have c21b0 := eq_true c21
     have c21b1 : decide ((ji19 : Int).toNat ≤ 281474976710656) = true := decide_eq_true c21
     clear c21
     obtain ⟨y274, hy274⟩ : ∃ y_ : List Int, y_ = (List.replicate (ji19 : Int).toNat 0) := ⟨_, rfl⟩
     replace H : (vesperref14_Bytes.l0 kj3 a1 a2 y274 0 l0_0 l0_1 l0_2) = some (r1, r2) := by first | (rw [hy274]; with_reducible exact H) | (have H2_ := (Option.bind_some _ _).symm.trans H; rw [hy274]; with_reducible exact H2_) | (have H2_ := (Option.bind_some _ _).symm.trans H; with_reducible exact H2_) | with_reducible exact H | (rw [hy274]; exact H) | exact H
     have Ny274 := Aside0.mk hy274
     clear hy274
     have H' := Aside0.mk H
     clear H
     go_wp2_with (first | ((with_reducible refine gate_dst (N := 31) rfl ?_); refine Kd.R_make (Kd.int .u8) _ 5 rfl (N := 31) rfl 33 _ _ rfl ji19 rfl rfl Tryd.underlying33 (.int .u8 0) 1 info5 rfl (by decide) (by omega) 0 (ok := fun _ => True) (okp := fun _ => True) rfl (fun _ hk => hk) trivial (oda) (Nat.le_trans (Nat.mul_le_mul_right _ (oda : ji19.toNat ≤ 281474976710656)) (by omega)) (Below.refl _ _) (Nat.le_refl _) ?_; intro v275 w22 ho23 hb hg_ hnew_; clear hg_ hnew_; (first | rw [← Ny274.out] at ho23 | (simp only [Int.reduceToNat] at ho23; rw [← Ny274.out] at ho23)); have n0_ := Aside0.mk (Kd.R_lower ho23 (below_size bw)); have n1_ := Aside0.mk (blk_below (g := gb272) (o := .cells #[.slice A0_0 l0_0.length c0_0, .slice A0_1 l0_1.length c0_1, .slice A0_2 l0_2.length c0_2] 26 (0, 0)) bk hb); have n2_ := Aside0.mk (below_step bw hb); clear BK272; clear HB; have HO276 := n0_; have BK272 := n1_; have HB := n2_; clear n0_ n1_ n2_; clear hb ho23))
     go_loopg [9] kj3 (fun kq v9 w' => ∃ (x8_2 : List Int) (x9_2 : Int), v9 = .int .i64 x9_2 ∧ Aside0 (vesperref14_Bytes.l0 kq a1 a2 x8_2 x9_2 l0_0 l0_1 l0_2 = some (r1, r2)) ∧ Aside0 (kq ≤ kj3) ∧ Aside0 (Kd.R (Kd.int .u8) 5 w' w.heap.size (fun _ => True) v275 x8_2) ∧ Aside0 (w'.heap[gb272]? = some (.cells #[(.slice A0_0 l0_0.length c0_0), (.slice A0_1 l0_1.length c0_1), (.slice A0_2 l0_2.length c0_2)] 26 (0, 0))) ∧ Aside0 (Below w.heap.size w w'))
     case atStart => exact ⟨(y274), (0), rs, H', ⟨Nat.le_refl _⟩, ⟨by (with_reducible repeat (first | apply Kd.R_alloc | apply Kd.R_drewN | apply Kd.R_drew)); exact HO276.out⟩, ⟨by (with_reducible repeat (first | refine blk_drewN ?_ _ | refine blk_drew ?_ | refine blk_alloc ?_ _)); exact BK272.out⟩, ⟨bw⟩⟩
     case round =>
      clear H'
      clear c20b0 c20b1 c21b0 c21b1
      obtain ⟨x8_2, x9_2, rfl, HA, HK2, HO_8, BK272, HB⟩ := hrel
      cases gk with
      | zero => exact absurd HA.out (by simp [vesperref14_Bytes.l0])
      | succ k2 =>
       have H := HA.out
       clear HA
       simp only [vesperref14_Bytes.l0] at H
       by_cases c24 : x9_2 < (l0_0.length : Int)
       ·rw [if_pos c24] at H
        have c24b0 : decide (x9_2 < (l0_0.length : Int)) = true := decide_eq_true c24
        clear c24
        have H' := Aside0.mk H
        clear H
        have hcz25_0 : wr.cell? ⟨gb272, 0, none⟩ = some (.slice A0_0 l0_0.length c0_0) := (blk_cell BK272.out 0).trans rfl
        have hcz25_1 : wr.cell? ⟨gb272, 1, none⟩ = some (.slice A0_1 l0_1.length c0_1) := (blk_cell BK272.out 1).trans rfl
        have hcz25_2 : wr.cell? ⟨gb272, 2, none⟩ = some (.slice A0_2 l0_2.length c0_2) := (blk_cell BK272.out 2).trans rfl
        have hfz25_0 := blk_frozen BK272.out 0
        have hfz25_1 := blk_frozen BK272.out 1
        have hfz25_2 := blk_frozen BK272.out 2
        go_wp2
        go_loopg [10] k2 (fun kq v10 w' => ∃ (x8_3 : List Int) (x10_3 : Int), v10 = .int .i64 x10_3 ∧ Aside0 (vesperref14_Bytes.l1 kq a1 a2 x8_3 x9_2 x10_3 l0_0 l0_1 l0_2 = some (r1, r2)) ∧ Aside0 (kq ≤ k2) ∧ Aside0 (Kd.R (Kd.int .u8) 5 w' w.heap.size (fun _ => True) v275 x8_3) ∧ Aside0 (w'.heap[gb272]? = some (.cells #[(.slice A0_0 l0_0.length c0_0), (.slice A0_1 l0_1.length c0_1), (.slice A0_2 l0_2.length c0_2)] 26 (0, 0))) ∧ Aside0 (Below w.heap.size w w'))
        case atStart => exact ⟨(x8_2), (0), rs, H', ⟨Nat.le_refl _⟩, ⟨by (with_reducible repeat (first | apply Kd.R_alloc | apply Kd.R_drewN | apply Kd.R_drew)); exact HO_8.out⟩, ⟨by (with_reducible repeat (first | refine blk_drewN ?_ _ | refine blk_drew ?_ | refine blk_alloc ?_ _)); exact BK272.out⟩, ⟨bw⟩⟩
        case round =>
         clear H'
         clear c24b0 hcz25_0 hcz25_1 hcz25_2 hfz25_0 hfz25_1 hfz25_2
         obtain ⟨x8_3, x10_3, rfl, HA, HK3, HO_8, BK272, HB⟩ := hrel
         cases gk with
         | zero => exact absurd HA.out (by simp [vesperref14_Bytes.l1])
         | succ k3 =>
          have H := HA.out
          clear HA
          simp only [vesperref14_Bytes.l1] at H
          by_cases c26 : 0 ≤ x9_2
          ·rw [if_pos c26] at H
           have c26b0 : decide (0 ≤ x9_2) = true := decide_eq_true c26
           clear c26
           by_cases c27 : x9_2 < (l0_0.length : Int)
           ·rw [if_pos c27] at H
            have c27b0 : decide (x9_2 < (l0_0.length : Int)) = true := decide_eq_true c27
            clear c27
            by_cases c28 : x10_3 < (((rd_T42 l0_0 x9_2).f1).length : Int)
            ·rw [if_pos c28] at H
             have c28b0 : decide (x10_3 < (((rd_T42 l0_0 x9_2).f1).length : Int)) = true := decide_eq_true c28
             clear c28
             by_cases c29 : (wrap64 (((rd_T42 l0_0 x9_2).f0) + x10_3)) ≥ a1
             ·rw [if_pos c29] at H
              have c29b0 : decide (a1 ≤ (wrap64 (((rd_T42 l0_0 x9_2).f0) + x10_3))) = true := decide_eq_true c29
              clear c29
              by_cases c30 : (wrap64 (((rd_T42 l0_0 x9_2).f0) + x10_3)) < a2
              ·rw [if_pos c30] at H
               have c30b0 : decide ((wrap64 (((rd_T42 l0_0 x9_2).f0) + x10_3)) < a2) = true := decide_eq_true c30
               clear c30
               by_cases c31 : 0 ≤ x10_3
               ·rw [if_pos c31] at H
                have c31b0 : decide (0 ≤ x10_3) = true := decide_eq_true c31
                clear c31
                obtain ⟨ji32, hji32⟩ : ∃ j_ : Int, (wrap64 ((wrap64 (((rd_T42 l0_0 x9_2).f0) + x10_3)) - a1)) = j_ := ⟨_, rfl⟩
                replace H : (if 0 ≤ (ji32) then (if (ji32) < (x8_3.length : Int) then (vesperref14_Bytes.l1 k3 a1 a2 (x8_3.set ((ji32) : Int).toNat (rd ((rd_T42 l0_0 x9_2).f1) x10_3)) x9_2 (wrap64 (x10_3 + 1)) l0_0 l0_1 l0_2) else (none)) else (none)) = some (r1, r2) := by first | (rw [hji32] at H; exact H) | (simp only [hji32] at H ⊢; exact H)
                have hji32w : (IntKind.i64.wrap ((wrap64 (((rd_T42 l0_0 x9_2).f0) + x10_3)) - a1)) = ji32 := (i64_w _).trans hji32
                by_cases c33 : 0 ≤ (ji32)
                ·rw [if_pos c33] at H
                 have c33b0 : decide (0 ≤ (ji32)) = true := decide_eq_true c33
                 clear c33
                 by_cases c34 : (ji32) < (x8_3.length : Int)
                 ·rw [if_pos c34] at H
                  have c34b0 : decide ((ji32) < (x8_3.length : Int)) = true := decide_eq_true c34
                  clear c34
                  obtain ⟨y281, hy281⟩ : ∃ y_ : List Int, y_ = (x8_3.set ((ji32) : Int).toNat (rd ((rd_T42 l0_0 x9_2).f1) x10_3)) := ⟨_, rfl⟩
                  replace H : (vesperref14_Bytes.l1 k3 a1 a2 y281 x9_2 (wrap64 (x10_3 + 1)) l0_0 l0_1 l0_2) = some (r1, r2) := by first | (rw [hy281]; with_reducible exact H) | (have H2_ := (Option.bind_some _ _).symm.trans H; rw [hy281]; with_reducible exact H2_) | (have H2_ := (Option.bind_some _ _).symm.trans H; with_reducible exact H2_) | with_reducible exact H | (rw [hy281]; exact H) | exact H
                  have Ny281 := Aside0.mk hy281
                  clear hy281
                  have H' := Aside0.mk H
                  clear H
                  have hcz36_0 : wr.cell? ⟨gb272, 0, none⟩ = some (.slice A0_0 l0_0.length c0_0) := (blk_cell BK272.out 0).trans rfl
                  have hcz36_1 : wr.cell? ⟨gb272, 1, none⟩ = some (.slice A0_1 l0_1.length c0_1) := (blk_cell BK272.out 1).trans rfl
                  have hcz36_2 : wr.cell? ⟨gb272, 2, none⟩ = some (.slice A0_2 l0_2.length c0_2) := (blk_cell BK272.out 2).trans rfl
                  have hfz36_0 := blk_frozen BK272.out 0
                  have hfz36_1 := blk_frozen BK272.out 1
                  have hfz36_2 := blk_frozen BK272.out 2
                  have p277 : 0 ≤ (x9_2 : Int) := oda
                  have q277 : x9_2 < (l0_0.length : Int) := oda
                  obtain ⟨ad277, A277_1, c277_1, e277, hx277_0, hx277_1, hl277_1, hi277_1⟩ := at_T42 HR0_0.out x9_2 p277 q277
                  cases e277
                  replace hx277_0 := up_ HB hx277_0
                  replace hx277_1 := up_ HB hx277_1
                  have HR277_1 := Aside0.mk hi277_1
                  have HC277_1 := Aside0.mk hl277_1
                  clear hi277_1 hl277_1
                  replace p277 := eq_true p277
                  replace q277 := eq_true q277
                  have p278 : 0 ≤ (x9_2 : Int) := oda
                  have q278 : x9_2 < (l0_0.length : Int) := oda
                  obtain ⟨ad278, A278_1, c278_1, e278, hx278_0, hx278_1, hl278_1, hi278_1⟩ := at_T42 HR0_0.out x9_2 p278 q278
                  obtain rfl : ad277 = ad278 := (by injection e278)
                  replace hx278_0 := up_ HB hx278_0
                  replace hx278_1 := up_ HB hx278_1
                  have HR278_1 := Aside0.mk hi278_1
                  have HC278_1 := Aside0.mk hl278_1
                  clear hi278_1 hl278_1
                  replace p278 := eq_true p278
                  replace q278 := eq_true q278
                  have ea_ := Option.some.inj (hx277_1.symm.trans hx278_1)
                  injection ea_ with ea_ en_ ec_
                  subst ea_
                  subst ec_
                  clear en_
                  have p279 : 0 ≤ (x9_2 : Int) := oda
                  have q279 : x9_2 < (l0_0.length : Int) := oda
                  obtain ⟨ad279, A279_1, c279_1, e279, hx279_0, hx279_1, hl279_1, hi279_1⟩ := at_T42 HR0_0.out x9_2 p279 q279
                  obtain rfl : ad277 = ad279 := (by injection e279)
                  replace hx279_0 := up_ HB hx279_0
                  replace hx279_1 := up_ HB hx279_1
                  have HR279_1 := Aside0.mk hi279_1
                  have HC279_1 := Aside0.mk hl279_1
                  clear hi279_1 hl279_1
                  replace p279 := eq_true p279
                  replace q279 := eq_true q279
                  have ea_ := Option.some.inj (hx277_1.symm.trans hx279_1)
                  injection ea_ with ea_ en_ ec_
                  subst ea_
                  subst ec_
                  clear en_
                  have p280 : 0 ≤ (x10_3 : Int) := oda
                  have q280 : x10_3 < (((rd_T42 l0_0 x9_2).f1).length : Int) := oda
                  obtain ⟨ad280, e280, hx280_0⟩ := Kd.at_int HR279_1.out x10_3 p280 q280
                  cases e280
                  replace hx280_0 := up_ HB hx280_0
                  replace p280 := eq_true p280
                  replace q280 := eq_true q280
                  have p35 : 0 ≤ ((ji32) : Int) := oda
                  have q35 : ((ji32) : Int) < ((x8_3.length : Int) : Int) := oda
                  obtain ⟨go35, co35, eo35, gb35, gl35, cl35, HG35⟩ := Kd.R_form HO_8.out (by omega)
                  (first | cases eo35 | (injection eo35 with ea_ en_ ec_; (first | subst ea_ | (injection ea_ with ea_; subst ea_)); subst ec_; clear en_))
                  have GB35 := Aside0.mk gb35
                  have GG35 := Aside0.mk HG35
                  clear gb35 gl35 HG35
                  obtain ⟨hx35_0, hf35_0⟩ := Kd.R_celln 0 HO_8.out ((ji32) : Int) p35 q35
                  replace p35 := eq_true p35
                  replace q35 := eq_true q35
                  have HP37 := Kd.R_putg HO_8.out ((ji32) : Int) (rd ((rd_T42 l0_0 x9_2).f1) x10_3)
                  go_wp2_with (first | ((with_reducible refine gate_store (t := 5) (p := 79) rfl ?_); refine store_event (t := 5) (p := 79) (v := ?vo_w38) (w1 := (wr.setCell ⟨go35, ((ji32) : Int).toNat, none⟩ (.int .u8 (rd ((rd_T42 l0_0 x9_2).f1) x10_3)))) ?hg ?ho ?hn ?hr ?_; (case ho => rfl); (case hg => rfl); (case hn => rfl); (case hr => first | (go_simp; done) | (go_simp; rfl)); intro w38 hw; have hg : wr.grownBy w38 (some go35) := (by rw [hw]; exact HP37.2); have hp_ : Kd.R (Kd.int .u8) 5 w38 w.heap.size (fun _ => True) (.slice (some ⟨go35, 0, none⟩) x8_3.length co35) y281 := (by rw [hw, Ny281.out]; exact HP37.1); clear HP37; have n0_ := Aside0.mk (hp_); have n1_ := Aside0.mk (blk_grown (g := gb272) (o := .cells #[.slice (some ad277) l0_0.length c0_0, .slice A0_1 l0_1.length c0_1, .slice A0_2 l0_2.length c0_2] 26 (0, 0)) bk hg (Kd.R_ne HO_8.out BK272.out (by decide))); have n2_ := Aside0.mk ((by rw [hw]; exact below_set (HB.out) GB35.out : Below w.heap.size w w38)); clear HO_8; clear BK272; clear HB; have HO_8 := n0_; have BK272 := n1_; have HB := n2_; clear n0_ n1_ n2_; clear hg hw hp_))
                  go_roundg k3
                  case measure => have := HJ3.out; have := HK2.out; have := HK3.out; omega
                  case rel => exact ⟨(y281), (wrap64 (x10_3 + 1)), rs, H', ⟨by have := HJ3.out; have := HK2.out; have := HK3.out; omega⟩, ⟨by (with_reducible repeat (first | apply Kd.R_alloc | apply Kd.R_drewN | apply Kd.R_drew)); exact HO_8.out⟩, ⟨by (with_reducible repeat (first | refine blk_drewN ?_ _ | refine blk_drew ?_ | refine blk_alloc ?_ _)); exact BK272.out⟩, ⟨bw⟩⟩
                 rw [if_neg c34] at H
                 exact absurd H (by simp)
                rw [if_neg c33] at H
                exact absurd H (by simp)
               rw [if_neg c31] at H
               exact absurd H (by simp)
              rw [if_neg c30] at H
              have c30b0 : decide ((wrap64 (((rd_T42 l0_0 x9_2).f0) + x10_3)) < a2) = false := decide_eq_false c30
              clear c30
              have H' := Aside0.mk H
              clear H
              have hcz39_0 : wr.cell? ⟨gb272, 0, none⟩ = some (.slice A0_0 l0_0.length c0_0) := (blk_cell BK272.out 0).trans rfl
              have hcz39_1 : wr.cell? ⟨gb272, 1, none⟩ = some (.slice A0_1 l0_1.length c0_1) := (blk_cell BK272.out 1).trans rfl
              have hcz39_2 : wr.cell? ⟨gb272, 2, none⟩ = some (.slice A0_2 l0_2.length c0_2) := (blk_cell BK272.out 2).trans rfl
              have hfz39_0 := blk_frozen BK272.out 0
              have hfz39_1 := blk_frozen BK272.out 1
              have hfz39_2 := blk_frozen BK272.out 2
              have p277 : 0 ≤ (x9_2 : Int) := oda
              have q277 : x9_2 < (l0_0.length : Int) := oda
              obtain ⟨ad277, A277_1, c277_1, e277, hx277_0, hx277_1, hl277_1, hi277_1⟩ := at_T42 HR0_0.out x9_2 p277 q277
              cases e277
              replace hx277_0 := up_ HB hx277_0
              replace hx277_1 := up_ HB hx277_1
              have HR277_1 := Aside0.mk hi277_1
              have HC277_1 := Aside0.mk hl277_1
              clear hi277_1 hl277_1
              replace p277 := eq_true p277
              replace q277 := eq_true q277
              have p278 : 0 ≤ (x9_2 : Int) := oda
              have q278 : x9_2 < (l0_0.length : Int) := oda
              obtain ⟨ad278, A278_1, c278_1, e278, hx278_0, hx278_1, hl278_1, hi278_1⟩ := at_T42 HR0_0.out x9_2 p278 q278
              obtain rfl : ad277 = ad278 := (by injection e278)
              replace hx278_0 := up_ HB hx278_0
              replace hx278_1 := up_ HB hx278_1
              have HR278_1 := Aside0.mk hi278_1
              have HC278_1 := Aside0.mk hl278_1
              clear hi278_1 hl278_1
              replace p278 := eq_true p278
              replace q278 := eq_true q278
              have ea_ := Option.some.inj (hx277_1.symm.trans hx278_1)
              injection ea_ with ea_ en_ ec_
              subst ea_
              subst ec_
              clear en_
              go_wp2
              go_roundg k3
              case measure => have := HJ3.out; have := HK2.out; have := HK3.out; omega
              case rel => exact ⟨(x8_3), (wrap64 (x10_3 + 1)), rs, H', ⟨by have := HJ3.out; have := HK2.out; have := HK3.out; omega⟩, ⟨by (with_reducible repeat (first | apply Kd.R_alloc | apply Kd.R_drewN | apply Kd.R_drew)); exact HO_8.out⟩, ⟨by (with_reducible repeat (first | refine blk_drewN ?_ _ | refine blk_drew ?_ | refine blk_alloc ?_ _)); exact BK272.out⟩, ⟨bw⟩⟩
             rw [if_neg c29] at H
             have c29b0 : decide (a1 ≤ (wrap64 (((rd_T42 l0_0 x9_2).f0) + x10_3))) = false := decide_eq_false c29
             clear c29
             have H' := Aside0.mk H
             clear H
             have hcz40_0 : wr.cell? ⟨gb272, 0, none⟩ = some (.slice A0_0 l0_0.length c0_0) := (blk_cell BK272.out 0).trans rfl
             have hcz40_1 : wr.cell? ⟨gb272, 1, none⟩ = some (.slice A0_1 l0_1.length c0_1) := (blk_cell BK272.out 1).trans rfl
             have hcz40_2 : wr.cell? ⟨gb272, 2, none⟩ = some (.slice A0_2 l0_2.length c0_2) := (blk_cell BK272.out 2).trans rfl
             have hfz40_0 := blk_frozen BK272.out 0
             have hfz40_1 := blk_frozen BK272.out 1
             have hfz40_2 := blk_frozen BK272.out 2
             have p277 : 0 ≤ (x9_2 : Int) := oda
             have q277 : x9_2 < (l0_0.length : Int) := oda
             obtain ⟨ad277, A277_1, c277_1, e277, hx277_0, hx277_1, hl277_1, hi277_1⟩ := at_T42 HR0_0.out x9_2 p277 q277
             cases e277
             replace hx277_0 := up_ HB hx277_0
             replace hx277_1 := up_ HB hx277_1
             have HR277_1 := Aside0.mk hi277_1
             have HC277_1 := Aside0.mk hl277_1
             clear hi277_1 hl277_1
             replace p277 := eq_true p277
             replace q277 := eq_true q277
             have p278 : 0 ≤ (x9_2 : Int) := oda
             have q278 : x9_2 < (l0_0.length : Int) := oda
             obtain ⟨ad278, A278_1, c278_1, e278, hx278_0, hx278_1, hl278_1, hi278_1⟩ := at_T42 HR0_0.out x9_2 p278 q278
             obtain rfl : ad277 = ad278 := (by injection e278)
             replace hx278_0 := up_ HB hx278_0
             replace hx278_1 := up_ HB hx278_1
             have HR278_1 := Aside0.mk hi278_1
             have HC278_1 := Aside0.mk hl278_1
             clear hi278_1 hl278_1
             replace p278 := eq_true p278
             replace q278 := eq_true q278
             have ea_ := Option.some.inj (hx277_1.symm.trans hx278_1)
             injection ea_ with ea_ en_ ec_
             subst ea_
             subst ec_
             clear en_
             go_wp2
             go_roundg k3
             case measure => have := HJ3.out; have := HK2.out; have := HK3.out; omega
             case rel => exact ⟨(x8_3), (wrap64 (x10_3 + 1)), rs, H', ⟨by have := HJ3.out; have := HK2.out; have := HK3.out; omega⟩, ⟨by (with_reducible repeat (first | apply Kd.R_alloc | apply Kd.R_drewN | apply Kd.R_drew)); exact HO_8.out⟩, ⟨by (with_reducible repeat (first | refine blk_drewN ?_ _ | refine blk_drew ?_ | refine blk_alloc ?_ _)); exact BK272.out⟩, ⟨bw⟩⟩
            rw [if_neg c28] at H
            have c28b0 : decide (x10_3 < (((rd_T42 l0_0 x9_2).f1).length : Int)) = false := decide_eq_false c28
            clear c28
            have H' := Aside0.mk H
            clear H
            have hcz41_0 : wr.cell? ⟨gb272, 0, none⟩ = some (.slice A0_0 l0_0.length c0_0) := (blk_cell BK272.out 0).trans rfl
            have hcz41_1 : wr.cell? ⟨gb272, 1, none⟩ = some (.slice A0_1 l0_1.length c0_1) := (blk_cell BK272.out 1).trans rfl
            have hcz41_2 : wr.cell? ⟨gb272, 2, none⟩ = some (.slice A0_2 l0_2.length c0_2) := (blk_cell BK272.out 2).trans rfl
            have hfz41_0 := blk_frozen BK272.out 0
            have hfz41_1 := blk_frozen BK272.out 1
            have hfz41_2 := blk_frozen BK272.out 2
            have p277 : 0 ≤ (x9_2 : Int) := oda
            have q277 : x9_2 < (l0_0.length : Int) := oda
            obtain ⟨ad277, A277_1, c277_1, e277, hx277_0, hx277_1, hl277_1, hi277_1⟩ := at_T42 HR0_0.out x9_2 p277 q277
            cases e277
            replace hx277_0 := up_ HB hx277_0
            replace hx277_1 := up_ HB hx277_1
            have HR277_1 := Aside0.mk hi277_1
            have HC277_1 := Aside0.mk hl277_1
            clear hi277_1 hl277_1
            replace p277 := eq_true p277
            replace q277 := eq_true q277
            go_wp2
            go_roundg k3
            case measure => have := HJ3.out; have := HK2.out; have := HK3.out; omega
            case rel => exact ⟨(x8_3), (wrap64 (x9_2 + 1)), rs, H', ⟨by have := HJ3.out; have := HK2.out; have := HK3.out; omega⟩, ⟨by (with_reducible repeat (first | apply Kd.R_alloc | apply Kd.R_drewN | apply Kd.R_drew)); exact HO_8.out⟩, ⟨by (with_reducible repeat (first | refine blk_drewN ?_ _ | refine blk_drew ?_ | refine blk_alloc ?_ _)); exact BK272.out⟩, ⟨bw⟩⟩
           rw [if_neg c27] at H
           exact absurd H (by simp)
          rw [if_neg c26] at H
          exact absurd H (by simp)
       rw [if_neg c24] at H
       have c24b0 : decide (x9_2 < (l0_0.length : Int)) = false := decide_eq_false c24
       clear c24
       simp only [Option.some.injEq, Prod.mk.injEq] at H
       obtain ⟨rfl, rfl⟩ := H
       have hcz42_0 : wr.cell? ⟨gb272, 0, none⟩ = some (.slice A0_0 l0_0.length c0_0) := (blk_cell BK272.out 0).trans rfl
       have hcz42_1 : wr.cell? ⟨gb272, 1, none⟩ = some (.slice A0_1 l0_1.length c0_1) := (blk_cell BK272.out 1).trans rfl
       have hcz42_2 : wr.cell? ⟨gb272, 2, none⟩ = some (.slice A0_2 l0_2.length c0_2) := (blk_cell BK272.out 2).trans rfl
       have hfz42_0 := blk_frozen BK272.out 0
       have hfz42_1 := blk_frozen BK272.out 1
       have hfz42_2 := blk_frozen BK272.out 2
       go_wp2
       go_ret2
       exact ⟨_, by first | rfl | (simp [errW_none, errW_some] <;> rfl) | (simp only [← hji19]; first | rfl | (simp [errW_none, errW_some] <;> rfl)) | (simp [*, errW_none, errW_some] <;> rfl), by (with_reducible repeat (first | apply Kd.R_alloc | apply Kd.R_drewN | apply Kd.R_drew)); exact HO_8.out, bw⟩
    rw [if_neg c21] at H
    exact absurd H (by simp)
   rw [if_neg c20] at H
   exact absurd H (by simp)

/-! ### asm_Find: function 9 -/
def asm_Find.l0 : Nat → ByteArray → List (S47) → Int → Int → Option (Int × Bool)
 | 0, _, _, _, _ => none
 | k + 1, x1, x9, x10, x11 => if x11 < x10 then (if 0 ≤ x11 then (if x11 < (x9.length : Int) then (if ((rd_T47 x9 x11).f0).toList = x1.toList then (some ((rd_T47 x9 x11).f1, true)) else (asm_Find.l0 k x1 x9 x10 (wrap64 (x11 + 1)))) else (none)) else (none)) else (some (0, false))
def asm_Find.f (k : Nat) (l0_0 : List (S42)) (l0_1 : List (S52)) (l0_2 : List (S47)) (a1 : ByteArray) : Option (Int × Bool) := asm_Find.l0 k a1 l0_2 (l0_2.length : Int) 0
theorem asm_Find.mono_l : ∀ k, (∀ y0 y1 y2 y3, LeO (asm_Find.l0 k y0 y1 y2 y3) (asm_Find.l0 (k + 1) y0 y1 y2 y3))
 | 0 => fun _ _ _ _ r h => by simp [asm_Find.l0] at h
 | k + 1 => by
  have ih0 := asm_Find.mono_l k
  intro y0 y1 y2 y3
  unfold asm_Find.l0
  repeat' first
  | (with_reducible exact ih0 _ _ _ _)
  | (with_reducible exact LeO.refl _)
  | (with_reducible exact LeO.none _)
  | (with_reducible refine LeO.ite ?_ ?_)
  | (with_reducible refine LeO.bind ?_ (fun _ => ?_))
  | exact ih0 _ _ _ _
  | exact LeO.none _
  | refine LeO.ite ?_ ?_
  | refine LeO.bind ?_ (fun _ => ?_)
theorem asm_Find.mono : ∀ a0 a1 a2 a3 k, LeO (asm_Find.f k a0 a1 a2 a3) (asm_Find.f (k + 1) a0 a1 a2 a3) := by
 intro a0 a1 a2 a3 k
 have ih0 := asm_Find.mono_l k
 unfold asm_Find.f
 repeat' first
  | (with_reducible exact ih0 _ _ _ _)
  | (with_reducible exact LeO.refl _)
  | (with_reducible exact LeO.none _)
  | (with_reducible refine LeO.ite ?_ ?_)
  | (with_reducible refine LeO.bind ?_ (fun _ => ?_))
  | exact ih0 _ _ _ _
  | exact LeO.none _
  | refine LeO.ite ?_ ?_
  | refine LeO.bind ?_ (fun _ => ?_)
set_option maxHeartbeats 8000000 in
set_option maxRecDepth 100000 in
theorem asm_Find.calls (k : Nat) (A0_0 : Option Addr) (c0_0 : Nat) (l0_0 : List (S42)) (A0_1 : Option Addr) (c0_1 : Nat) (l0_1 : List (S52)) (A0_2 : Option Addr) (c0_2 : Nat) (l0_2 : List (S47)) (a1 : ByteArray) (r1 : Int) (r2 : Bool) (w : World) (hr0_0 : Kd.C k42 w A0_0 l0_0.length l0_0) (hc0_0 : l0_0.length ≤ c0_0) (hr0_1 : Kd.C k52 w A0_1 l0_1.length l0_1) (hc0_1 : l0_1.length ≤ c0_1) (hr0_2 : Kd.C k47 w A0_2 l0_2.length l0_2) (hc0_2 : l0_2.length ≤ c0_2) (h : asm_Find.f k l0_0 l0_1 l0_2 a1 = some (r1, r2)) :
 Calls Tryd.prog 9 #[.agg #[.slice A0_0 l0_0.length c0_0, .slice A0_1 l0_1.length c0_1, .slice A0_2 l0_2.length c0_2], .string a1] w fun e w' => e = .returned (.tuple #[.int .i64 r1, .bool r2]) ∧ Below w.heap.size w w' := by
 have hu26 := Tryd.underlying26
 have hu47 := Tryd.underlying47
 have HR0_0 := Aside0.mk hr0_0
 have HC0_0 := Aside0.mk hc0_0
 clear hr0_0 hc0_0
 have HR0_1 := Aside0.mk hr0_1
 have HC0_1 := Aside0.mk hc0_1
 clear hr0_1 hc0_1
 have HR0_2 := Aside0.mk hr0_2
 have HC0_2 := Aside0.mk hc0_2
 clear hr0_2 hc0_2
 have HB := Aside0.mk (Below.refl w.heap.size w)
 have H : (asm_Find.l0 k a1 l0_2 (l0_2.length : Int) 0) = some (r1, r2) := h
 clear h
 have H' := Aside0.mk H
 clear H
 go_enter Tryd.func9, Tryd.ntmps9
 go_wp2_with (first | ((with_reducible refine gate_dst (N := 2) rfl ?_); refine box_event ?hg (N := 2) ?hd (cs := #[.slice A0_0 l0_0.length c0_0, .slice A0_1 l0_1.length c0_1, .slice A0_2 l0_2.length c0_2]) (t := 26) ?hr ?_; (case hd => rfl); (case hg => rfl); (case hr => first | (go_simp; done) | (go_simp; rfl)); intro gb282 hg w3 hbox hb; have n0_ := Aside0.mk (below_step bw hb); have n1_ := Aside0.mk (hbox); have n2_ := Aside0.mk (bz hg : w.heap.size ≤ gb282); have n3_ := Aside0.mk (bz hg : w.heap.size ≤ gb282); clear HB; have HB := n0_; have BK282 := n1_; have GW282 := n2_; have GE282 := n3_; clear n0_ n1_ n2_ n3_; clear hb hbox hg; have hcz4_0 : w3.cell? ⟨gb282, 0, none⟩ = some (.slice A0_0 l0_0.length c0_0) := (blk_cell BK282.out 0).trans rfl; have hcz4_1 : w3.cell? ⟨gb282, 1, none⟩ = some (.slice A0_1 l0_1.length c0_1) := (blk_cell BK282.out 1).trans rfl; have hcz4_2 : w3.cell? ⟨gb282, 2, none⟩ = some (.slice A0_2 l0_2.length c0_2) := (blk_cell BK282.out 2).trans rfl; have hfz4_0 := blk_frozen BK282.out 0; have hfz4_1 := blk_frozen BK282.out 1; have hfz4_2 := blk_frozen BK282.out 2))
 go_loopg [11] k (fun kq v11 w' => ∃ (x11_1 : Int), v11 = .int .i64 x11_1 ∧ Aside0 (asm_Find.l0 kq a1 l0_2 (l0_2.length : Int) x11_1 = some (r1, r2)) ∧ Aside0 (kq ≤ k) ∧ Aside0 (w'.heap[gb282]? = some (.cells #[(.slice A0_0 l0_0.length c0_0), (.slice A0_1 l0_1.length c0_1), (.slice A0_2 l0_2.length c0_2)] 26 (0, 0))) ∧ Aside0 (Below w.heap.size w w'))
 case atStart => exact ⟨(0), rs, H', ⟨Nat.le_refl _⟩, ⟨by (with_reducible repeat (first | refine blk_drewN ?_ _ | refine blk_drew ?_ | refine blk_alloc ?_ _)); exact BK282.out⟩, ⟨bw⟩⟩
 case round =>
  clear H'
  clear hcz4_0 hcz4_1 hcz4_2 hfz4_0 hfz4_1 hfz4_2
  obtain ⟨x11_1, rfl, HA, HK1, BK282, HB⟩ := hrel
  cases gk with
  | zero => exact absurd HA.out (by simp [asm_Find.l0])
  | succ k1 =>
   have H := HA.out
   clear HA
   simp only [asm_Find.l0] at H
   by_cases c5 : x11_1 < (l0_2.length : Int)
   ·rw [if_pos c5] at H
    have c5b0 : decide (x11_1 < (l0_2.length : Int)) = true := decide_eq_true c5
    clear c5
    by_cases c6 : 0 ≤ x11_1
    ·rw [if_pos c6] at H
     have c6b0 : decide (0 ≤ x11_1) = true := decide_eq_true c6
     clear c6
     by_cases c7 : x11_1 < (l0_2.length : Int)
     ·rw [if_pos c7] at H
      have c7b0 : decide (x11_1 < (l0_2.length : Int)) = true := decide_eq_true c7
      clear c7
      by_cases c8 : ((rd_T47 l0_2 x11_1).f0).toList = a1.toList
      ·rw [if_pos c8] at H
       have c8b0 : (((rd_T47 l0_2 x11_1).f0).toList == a1.toList) = true := beq_iff_eq.mpr c8
       have c8b1 : (((rd_T47 l0_2 x11_1).f0).toList != a1.toList) = false := bne_eq_false_iff_eq.mpr c8
       clear c8
       simp only [Option.some.injEq, Prod.mk.injEq] at H
       obtain ⟨rfl, rfl⟩ := H
       have p283 : 0 ≤ (x11_1 : Int) := oda
       have q283 : x11_1 < (l0_2.length : Int) := oda
       obtain ⟨ad283, e283, hx283_0, hx283_1⟩ := at_T47 HR0_2.out x11_1 p283 q283
       cases e283
       replace hx283_0 := up_ HB hx283_0
       replace hx283_1 := up_ HB hx283_1
       replace p283 := eq_true p283
       replace q283 := eq_true q283
       go_wp2_with (first | ((with_reducible refine gate_dst (N := 7) rfl ?_); refine box_event ?hg (N := 7) ?hd (cs := #[.string (⟨#[]⟩ : ByteArray), .int .i64 0]) (t := 47) ?hr ?_; (case hd => rfl); (case hg => rfl); (case hr => first | (go_simp; done) | (go_simp; rfl)); intro gb284 hg w9 hbox hb; have n0_ := Aside0.mk (blk_below (g := gb282) (o := .cells #[.slice A0_0 l0_0.length c0_0, .slice A0_1 l0_1.length c0_1, .slice (some ad283) l0_2.length c0_2] 26 (0, 0)) bk hb); have n1_ := Aside0.mk (below_step bw hb); have n2_ := Aside0.mk (hbox); have n3_ := Aside0.mk (bz hg : w.heap.size ≤ gb284); have n4_ := Aside0.mk (bz hg : w.heap.size ≤ gb284); have n5_ := Aside0.mk ((by rw [hg]; exact Nat.ne_of_lt (blk_lt (g := gb282) (o := .cells #[.slice A0_0 l0_0.length c0_0, .slice A0_1 l0_1.length c0_1, .slice (some ad283) l0_2.length c0_2] 26 (0, 0)) bk) : gb282 ≠ gb284)); have n6_ := Aside0.mk ((by rw [hg]; exact Nat.ne_of_gt (blk_lt (g := gb282) (o := .cells #[.slice A0_0 l0_0.length c0_0, .slice A0_1 l0_1.length c0_1, .slice (some ad283) l0_2.length c0_2] 26 (0, 0)) bk) : gb284 ≠ gb282)); clear BK282; clear HB; have BK282 := n0_; have HB := n1_; have BK284 := n2_; have GW284 := n3_; have GE284 := n4_; have NB282_284 := n5_; have NB284_282 := n6_; clear n0_ n1_ n2_ n3_ n4_ n5_ n6_; clear hb hbox hg; have hnb10 := NB284_282.out; have hnc10 := NB282_284.out; have hcz11_0 : w9.cell? ⟨gb284, 0, none⟩ = some (.string (⟨#[]⟩ : ByteArray)) := (blk_cell BK284.out 0).trans rfl; have hcz11_1 : w9.cell? ⟨gb284, 1, none⟩ = some (.int .i64 0) := (blk_cell BK284.out 1).trans rfl; have hfz11_0 := blk_frozen BK284.out 0; have hfz11_1 := blk_frozen BK284.out 1))
       go_ret2
       exact ⟨ew, bw⟩
      rw [if_neg c8] at H
      have c8b0 : (((rd_T47 l0_2 x11_1).f0).toList == a1.toList) = false := beq_eq_false_iff_ne.mpr c8
      have c8b1 : (((rd_T47 l0_2 x11_1).f0).toList != a1.toList) = true := bne_iff_ne.mpr c8
      have H' := Aside0.mk H
      clear H
      have p283 : 0 ≤ (x11_1 : Int) := oda
      have q283 : x11_1 < (l0_2.length : Int) := oda
      obtain ⟨ad283, e283, hx283_0, hx283_1⟩ := at_T47 HR0_2.out x11_1 p283 q283
      cases e283
      replace hx283_0 := up_ HB hx283_0
      replace hx283_1 := up_ HB hx283_1
      replace p283 := eq_true p283
      replace q283 := eq_true q283
      go_wp2_with (first | ((with_reducible refine gate_dst (N := 7) rfl ?_); refine box_event ?hg (N := 7) ?hd (cs := #[.string (⟨#[]⟩ : ByteArray), .int .i64 0]) (t := 47) ?hr ?_; (case hd => rfl); (case hg => rfl); (case hr => first | (go_simp; done) | (go_simp; rfl)); intro gb284 hg w12 hbox hb; have n0_ := Aside0.mk (blk_below (g := gb282) (o := .cells #[.slice A0_0 l0_0.length c0_0, .slice A0_1 l0_1.length c0_1, .slice (some ad283) l0_2.length c0_2] 26 (0, 0)) bk hb); have n1_ := Aside0.mk (below_step bw hb); have n2_ := Aside0.mk (hbox); have n3_ := Aside0.mk (bz hg : w.heap.size ≤ gb284); have n4_ := Aside0.mk (bz hg : w.heap.size ≤ gb284); have n5_ := Aside0.mk ((by rw [hg]; exact Nat.ne_of_lt (blk_lt (g := gb282) (o := .cells #[.slice A0_0 l0_0.length c0_0, .slice A0_1 l0_1.length c0_1, .slice (some ad283) l0_2.length c0_2] 26 (0, 0)) bk) : gb282 ≠ gb284)); have n6_ := Aside0.mk ((by rw [hg]; exact Nat.ne_of_gt (blk_lt (g := gb282) (o := .cells #[.slice A0_0 l0_0.length c0_0, .slice A0_1 l0_1.length c0_1, .slice (some ad283) l0_2.length c0_2] 26 (0, 0)) bk) : gb284 ≠ gb282)); clear BK282; clear HB; have BK282 := n0_; have HB := n1_; have BK284 := n2_; have GW284 := n3_; have GE284 := n4_; have NB282_284 := n5_; have NB284_282 := n6_; clear n0_ n1_ n2_ n3_ n4_ n5_ n6_; clear hb hbox hg; have hnb13 := NB284_282.out; have hnc13 := NB282_284.out; have hcz14_0 : w12.cell? ⟨gb284, 0, none⟩ = some (.string (⟨#[]⟩ : ByteArray)) := (blk_cell BK284.out 0).trans rfl; have hcz14_1 : w12.cell? ⟨gb284, 1, none⟩ = some (.int .i64 0) := (blk_cell BK284.out 1).trans rfl; have hfz14_0 := blk_frozen BK284.out 0; have hfz14_1 := blk_frozen BK284.out 1))
      go_roundg k1
      case measure => have := HK1.out; omega
      case rel => exact ⟨(wrap64 (x11_1 + 1)), rs, H', ⟨by have := HK1.out; omega⟩, ⟨by (with_reducible repeat (first | refine blk_drewN ?_ _ | refine blk_drew ?_ | refine blk_alloc ?_ _)); refine blk_far ?_ NB282_284.out _; (with_reducible repeat (first | refine blk_drewN ?_ _ | refine blk_drew ?_ | refine blk_alloc ?_ _)); refine blk_far ?_ NB282_284.out _; (with_reducible repeat (first | refine blk_drewN ?_ _ | refine blk_drew ?_ | refine blk_alloc ?_ _)); exact BK282.out⟩, ⟨bw⟩⟩
     rw [if_neg c7] at H
     exact absurd H (by simp)
    rw [if_neg c6] at H
    exact absurd H (by simp)
   rw [if_neg c5] at H
   have c5b0 : decide (x11_1 < (l0_2.length : Int)) = false := decide_eq_false c5
   clear c5
   simp only [Option.some.injEq, Prod.mk.injEq] at H
   obtain ⟨rfl, rfl⟩ := H
   go_wp2
   go_ret2
   exact ⟨ew, bw⟩

end Go.Proofs.YtbffmfeflcdgbaaDoor.POb
