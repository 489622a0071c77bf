/- Written by a program of this session (gprint.py, over the kit's printer): functions of the seat YtjedbamcjgabpaaDoor and their contracts. No condition but each contract's own. -/
import Derived.Test.YtjedbamcjgabpaaDoorPSox0
import Derived.Test.YtjedbamcjgabpaaDoorPSoCodeFirst
import Derived.Test.YtjedbamcjgabpaaDoorPSoCodes
import Derived.Test.YtjedbamcjgabpaaDoorSrcG
namespace Go.Proofs.YtjedbamcjgabpaaDoor.PSo
open Go.RowKit Go.Proofs.YtjedbamcjgabpaaDoorW.PrintWords Go.Proofs.YtjedbamcjgabpaaDoorW.PrintLast Go.Proofs.YtjedbamcjgabpaaDoorW.PrintMore
open Go.Proofs.YtjedbamcjgabpaaDoor.Src (GOk)
attribute [local go_sem] max2_int min2_int max_two min_two max_three min_three max_four min_four   -- for this text's walks alone
set_option linter.unusedVariables false
set_option linter.unusedSimpArgs false

/-! ### code_Encode: function 56 -/
mutual
def code_Encode.j1 : Nat → Int → Int → Int → Int → ByteArray → Int → Option (List Int × Int)
 | 0, _, _, _, _, _, _ => none
 | k + 1, x4, x5, x6, x7, x110000, x110001 => if x110001 < x6 then (code_Encode.j2 k x4 x5 true x110000 x110001) else (code_Encode.j2 k x4 x5 (decide (x110001 > x7)) x110000 x110001)
def code_Encode.j2 : Nat → Int → Int → Bool → ByteArray → Int → Option (List Int × Int)
 | 0, _, _, _, _, _ => none
 | k + 1, x4, x5, x39, x110000, x110001 => if x39 = true then (some (([] : List Int), 21)) else (if x5 = 2 then (code_Encode.j3 k x4 x5 (x5 == 2) x110000 x110001) else (code_Encode.j3 k x4 x5 (x5 == 3) x110000 x110001))
def code_Encode.j3 : Nat → Int → Int → Bool → ByteArray → Int → Option (List Int × Int)
 | 0, _, _, _, _, _ => none
 | k + 1, x4, x40, x41, x110000, x110001 => if x41 = true then (some ((([(wrap64 (x4 + x110001)) % 256] : List Int)), 0)) else (if x40 = 4 then (code_Encode.j4 k x4 x40 (x40 == 4) x110000 x110001) else (code_Encode.j4 k x4 x40 (x40 == 5) x110000 x110001))
def code_Encode.j4 : Nat → Int → Int → Bool → ByteArray → Int → Option (List Int × Int)
 | 0, _, _, _, _, _ => none
 | k + 1, x4, x40, x50, x110000, x110001 => if x50 = true then (some ((([(x4) % 256, (x110001) % 256] : List Int)), 0)) else (if x40 = 6 then ((bits_High.f (IntKind.u16.wrap (x110001))).bind fun t118 => ((bits_Low.f (IntKind.u16.wrap (x110001))).bind fun t119 => (some ((([(x4) % 256, t118, t119] : List Int)), 0)))) else (some ((([(x4) % 256] : List Int)), 0)))
def code_Encode.j0 : Nat → Int → Int → Int → Int → Int → Bool → ByteArray → Int → Option (List Int × Int)
 | 0, _, _, _, _, _, _, _, _ => none
 | k + 1, x4, x5, x6, x7, x16, x25, x110000, x110001 => if x25 = true then (code_Encode.j1 k x4 x5 x6 255 x110000 x110001) else (if x16 = 6 then (code_Encode.j1 k x4 x5 x6 65535 x110000 x110001) else (code_Encode.j1 k x4 x5 x6 x7 x110000 x110001))
end
def code_Encode.f (k : Nat) (a0_0 : ByteArray) (a0_1 : Int) : Option (List Int × Int) := (code_first.f k a0_0).bind fun t110 => (if t110 < 0 then (some (([] : List Int), 20)) else ((code_form.f k ((t110) % 256)).bind fun t111 => (if t111 = 2 then (if t110 < 16 then (code_Encode.j1 k 0 t111 1 15 a0_0 a0_1) else (code_Encode.j1 k t110 t111 0 15 a0_0 a0_1)) else (if t111 = 3 then (code_Encode.j1 k (wrap64 (t110 - 1)) t111 1 7 a0_0 a0_1) else (if t111 = 4 then (code_Encode.j0 k t110 t111 0 0 t111 (t111 == 4) a0_0 a0_1) else (code_Encode.j0 k t110 t111 0 0 t111 (t111 == 5) a0_0 a0_1))))))
theorem code_Encode.mono_l : ∀ k, (∀ y0 y1 y2 y3 y4 y5, LeO (code_Encode.j1 k y0 y1 y2 y3 y4 y5) (code_Encode.j1 (k + 1) y0 y1 y2 y3 y4 y5)) ∧ (∀ y0 y1 y2 y3 y4, LeO (code_Encode.j2 k y0 y1 y2 y3 y4) (code_Encode.j2 (k + 1) y0 y1 y2 y3 y4)) ∧ (∀ y0 y1 y2 y3 y4, LeO (code_Encode.j3 k y0 y1 y2 y3 y4) (code_Encode.j3 (k + 1) y0 y1 y2 y3 y4)) ∧ (∀ y0 y1 y2 y3 y4, LeO (code_Encode.j4 k y0 y1 y2 y3 y4) (code_Encode.j4 (k + 1) y0 y1 y2 y3 y4)) ∧ (∀ y0 y1 y2 y3 y4 y5 y6 y7, LeO (code_Encode.j0 k y0 y1 y2 y3 y4 y5 y6 y7) (code_Encode.j0 (k + 1) y0 y1 y2 y3 y4 y5 y6 y7))
 | 0 => ⟨fun _ _ _ _ _ _ r h => by simp [code_Encode.j1] at h, fun _ _ _ _ _ r h => by simp [code_Encode.j2] at h, fun _ _ _ _ _ r h => by simp [code_Encode.j3] at h, fun _ _ _ _ _ r h => by simp [code_Encode.j4] at h, fun _ _ _ _ _ _ _ _ r h => by simp [code_Encode.j0] at h⟩
 | k + 1 => by
  obtain ⟨ih0, ih1, ih2, ih3, ih4⟩ := code_Encode.mono_l k
  refine ⟨?_, ?_, ?_, ?_, ?_⟩
  ·intro y0 y1 y2 y3 y4 y5
   unfold code_Encode.j1
   repeat' first
   | (with_reducible exact ih0 _ _ _ _ _ _)
   | (with_reducible exact ih1 _ _ _ _ _)
   | (with_reducible exact ih2 _ _ _ _ _)
   | (with_reducible exact ih3 _ _ _ _ _)
   | (with_reducible exact ih4 _ _ _ _ _ _ _ _)
   | (with_reducible exact code_first.mono _ _)
   | (with_reducible exact code_form.mono _ _)
   | (with_reducible exact LeO.refl _)
   | (with_reducible exact LeO.none _)
   | (with_reducible refine LeO.ite ?_ ?_)
   | (with_reducible refine LeO.bind ?_ (fun _ => ?_))
   | exact ih0 _ _ _ _ _ _
   | exact ih1 _ _ _ _ _
   | exact ih2 _ _ _ _ _
   | exact ih3 _ _ _ _ _
   | exact ih4 _ _ _ _ _ _ _ _
   | exact code_first.mono _ _
   | exact code_form.mono _ _
   | exact LeO.none _
   | refine LeO.ite ?_ ?_
   | refine LeO.bind ?_ (fun _ => ?_)
  ·intro y0 y1 y2 y3 y4
   unfold code_Encode.j2
   repeat' first
   | (with_reducible exact ih0 _ _ _ _ _ _)
   | (with_reducible exact ih1 _ _ _ _ _)
   | (with_reducible exact ih2 _ _ _ _ _)
   | (with_reducible exact ih3 _ _ _ _ _)
   | (with_reducible exact ih4 _ _ _ _ _ _ _ _)
   | (with_reducible exact code_first.mono _ _)
   | (with_reducible exact code_form.mono _ _)
   | (with_reducible exact LeO.refl _)
   | (with_reducible exact LeO.none _)
   | (with_reducible refine LeO.ite ?_ ?_)
   | (with_reducible refine LeO.bind ?_ (fun _ => ?_))
   | exact ih0 _ _ _ _ _ _
   | exact ih1 _ _ _ _ _
   | exact ih2 _ _ _ _ _
   | exact ih3 _ _ _ _ _
   | exact ih4 _ _ _ _ _ _ _ _
   | exact code_first.mono _ _
   | exact code_form.mono _ _
   | exact LeO.none _
   | refine LeO.ite ?_ ?_
   | refine LeO.bind ?_ (fun _ => ?_)
  ·intro y0 y1 y2 y3 y4
   unfold code_Encode.j3
   repeat' first
   | (with_reducible exact ih0 _ _ _ _ _ _)
   | (with_reducible exact ih1 _ _ _ _ _)
   | (with_reducible exact ih2 _ _ _ _ _)
   | (with_reducible exact ih3 _ _ _ _ _)
   | (with_reducible exact ih4 _ _ _ _ _ _ _ _)
   | (with_reducible exact code_first.mono _ _)
   | (with_reducible exact code_form.mono _ _)
   | (with_reducible exact LeO.refl _)
   | (with_reducible exact LeO.none _)
   | (with_reducible refine LeO.ite ?_ ?_)
   | (with_reducible refine LeO.bind ?_ (fun _ => ?_))
   | exact ih0 _ _ _ _ _ _
   | exact ih1 _ _ _ _ _
   | exact ih2 _ _ _ _ _
   | exact ih3 _ _ _ _ _
   | exact ih4 _ _ _ _ _ _ _ _
   | exact code_first.mono _ _
   | exact code_form.mono _ _
   | exact LeO.none _
   | refine LeO.ite ?_ ?_
   | refine LeO.bind ?_ (fun _ => ?_)
  ·intro y0 y1 y2 y3 y4
   unfold code_Encode.j4
   repeat' first
   | (with_reducible exact ih0 _ _ _ _ _ _)
   | (with_reducible exact ih1 _ _ _ _ _)
   | (with_reducible exact ih2 _ _ _ _ _)
   | (with_reducible exact ih3 _ _ _ _ _)
   | (with_reducible exact ih4 _ _ _ _ _ _ _ _)
   | (with_reducible exact code_first.mono _ _)
   | (with_reducible exact code_form.mono _ _)
   | (with_reducible exact LeO.refl _)
   | (with_reducible exact LeO.none _)
   | (with_reducible refine LeO.ite ?_ ?_)
   | (with_reducible refine LeO.bind ?_ (fun _ => ?_))
   | exact ih0 _ _ _ _ _ _
   | exact ih1 _ _ _ _ _
   | exact ih2 _ _ _ _ _
   | exact ih3 _ _ _ _ _
   | exact ih4 _ _ _ _ _ _ _ _
   | exact code_first.mono _ _
   | exact code_form.mono _ _
   | exact LeO.none _
   | refine LeO.ite ?_ ?_
   | refine LeO.bind ?_ (fun _ => ?_)
  ·intro y0 y1 y2 y3 y4 y5 y6 y7
   unfold code_Encode.j0
   repeat' first
   | (with_reducible exact ih0 _ _ _ _ _ _)
   | (with_reducible exact ih1 _ _ _ _ _)
   | (with_reducible exact ih2 _ _ _ _ _)
   | (with_reducible exact ih3 _ _ _ _ _)
   | (with_reducible exact ih4 _ _ _ _ _ _ _ _)
   | (with_reducible exact code_first.mono _ _)
   | (with_reducible exact code_form.mono _ _)
   | (with_reducible exact LeO.refl _)
   | (with_reducible exact LeO.none _)
   | (with_reducible refine LeO.ite ?_ ?_)
   | (with_reducible refine LeO.bind ?_ (fun _ => ?_))
   | exact ih0 _ _ _ _ _ _
   | exact ih1 _ _ _ _ _
   | exact ih2 _ _ _ _ _
   | exact ih3 _ _ _ _ _
   | exact ih4 _ _ _ _ _ _ _ _
   | exact code_first.mono _ _
   | exact code_form.mono _ _
   | exact LeO.none _
   | refine LeO.ite ?_ ?_
   | refine LeO.bind ?_ (fun _ => ?_)
theorem code_Encode.mono : ∀ a0 a1 k, LeO (code_Encode.f k a0 a1) (code_Encode.f (k + 1) a0 a1) := by
 intro a0 a1 k
 obtain ⟨ih0, ih1, ih2, ih3, ih4⟩ := code_Encode.mono_l k
 unfold code_Encode.f
 repeat' first
  | (with_reducible exact ih0 _ _ _ _ _ _)
  | (with_reducible exact ih1 _ _ _ _ _)
  | (with_reducible exact ih2 _ _ _ _ _)
  | (with_reducible exact ih3 _ _ _ _ _)
  | (with_reducible exact ih4 _ _ _ _ _ _ _ _)
  | (with_reducible exact code_first.mono _ _)
  | (with_reducible exact code_form.mono _ _)
  | (with_reducible exact LeO.refl _)
  | (with_reducible exact LeO.none _)
  | (with_reducible refine LeO.ite ?_ ?_)
  | (with_reducible refine LeO.bind ?_ (fun _ => ?_))
  | exact ih0 _ _ _ _ _ _
  | exact ih1 _ _ _ _ _
  | exact ih2 _ _ _ _ _
  | exact ih3 _ _ _ _ _
  | exact ih4 _ _ _ _ _ _ _ _
  | exact code_first.mono _ _
  | exact code_form.mono _ _
  | exact LeO.none _
  | refine LeO.ite ?_ ?_
  | refine LeO.bind ?_ (fun _ => ?_)
def code_Encode.T30 : Bool × List (List Nat × List Nat) := (true, [([], []), ([0], [0]), ([], []), ([2], [2]), ([3], [3]), ([4], [4]), ([], []), ([6], [6]), ([7], [7]), ([8, 5], [8]), ([1, 5, 9], [1, 5, 9]), ([10, 9, 0, 1, 2, 3, 4, 5, 6, 7, 8, 9, 10], [10]), ([11, 0, 1, 2, 3, 4, 5, 6, 7, 8, 9, 10, 11], [])])
def code_Encode.B30 : List Nat := [0, 1, 0, 4, 12, 28, 0, 64, 192, 508, 1023, 2047, 4095]
theorem code_Encode.tab30 : rtab .any (opsOf Tryd.f56 30) = code_Encode.T30 := by kernel_rfl
theorem code_Encode.bits30 : waitsOk code_Encode.T30.2 code_Encode.B30 = true := by kernel_rfl
set_option maxHeartbeats 8000000 in
set_option maxRecDepth 100000 in
theorem code_Encode.calls (k : Nat) (a0_0 : ByteArray) (a0_1 : Int) (r1 : List Int) (r2 : Int) (w : World) (h : code_Encode.f k a0_0 a0_1 = some (r1, r2)) (hG : GOk w := by first | exact HG.out | exact GOk.below HG.out HB.out | exact GOk.below HG.out (by repeat (first | (with_reducible first | exact HB.out | apply below_alloc | apply pw_below_drewN | apply below_drew1 | refine below_set ?_ (Aside0.out (by assumption))) | exact HB.out))) :
 Calls Tryd.prog 56 #[.agg #[.string a0_0, .int .i64 a0_1]] w fun e w' => ∃ v0_ : Value, e = .returned (.tuple #[v0_, .int .i64 r2]) ∧ Kd.R (Kd.int .u8) 5 w' w.heap.size (fun _ => True) v0_ r1 ∧ Below w.heap.size w w' := by
 have HG := Aside0.mk hG
 clear hG
 have hu80 := Tryd.underlying80
 have HB := Aside0.mk (Below.refl w.heap.size w)
 have H : ((code_first.f k a0_0).bind fun t110 => (if t110 < 0 then (some (([] : List Int), 20)) else ((code_form.f k ((t110) % 256)).bind fun t111 => (if t111 = 2 then (if t110 < 16 then (code_Encode.j1 k 0 t111 1 15 a0_0 a0_1) else (code_Encode.j1 k t110 t111 0 15 a0_0 a0_1)) else (if t111 = 3 then (code_Encode.j1 k (wrap64 (t110 - 1)) t111 1 7 a0_0 a0_1) else (if t111 = 4 then (code_Encode.j0 k t110 t111 0 0 t111 (t111 == 4) a0_0 a0_1) else (code_Encode.j0 k t110 t111 0 0 t111 (t111 == 5) a0_0 a0_1))))))) = some (r1, r2) := h
 clear h
 replace H := Option.bind_eq_some_iff.mp H
 obtain ⟨t110, A20, H⟩ := H
 replace H : (if t110 < 0 then (some (([] : List Int), 20)) else ((code_form.f k ((t110) % 256)).bind fun t111 => (if t111 = 2 then (if t110 < 16 then (code_Encode.j1 k 0 t111 1 15 a0_0 a0_1) else (code_Encode.j1 k t110 t111 0 15 a0_0 a0_1)) else (if t111 = 3 then (code_Encode.j1 k (wrap64 (t110 - 1)) t111 1 7 a0_0 a0_1) else (if t111 = 4 then (code_Encode.j0 k t110 t111 0 0 t111 (t111 == 4) a0_0 a0_1) else (code_Encode.j0 k t110 t111 0 0 t111 (t111 == 5) a0_0 a0_1)))))) = some (r1, r2) := H
 have A2 := Aside0.mk A20
 clear A20
 by_cases c3 : t110 < 0
 ·rw [if_pos c3] at H
  have c3b0 : decide (t110 < 0) = true := decide_eq_true c3
  clear c3
  simp only [Option.some.injEq, Prod.mk.injEq] at H
  obtain ⟨rfl, rfl⟩ := H
  go_enter Tryd.func56, Tryd.ntmps56
  go_wp2_with (first | ((with_reducible refine gate_dst (N := 1) rfl ?_); refine box_event ?hg (N := 1) ?hd (cs := #[.string a0_0, .int .i64 a0_1]) (t := 80) ?hr ?_; (case hd => rfl); (case hg => rfl); (case hr => first | (go_simp; done) | (go_simp; rfl)); intro gb109 hg w4 hbox hb; have n0_ := Aside0.mk (below_step (by repeat (first | (with_reducible first | exact HB.out | apply below_alloc | apply pw_below_drewN | apply below_drew1) | exact HB.out)) hb); have n1_ := Aside0.mk (hbox); have n2_ := Aside0.mk ((by rw [hg]; exact (below_size (by repeat (first | (with_reducible first | exact HB.out | apply below_alloc | apply pw_below_drewN | apply below_drew1) | exact HB.out))) : w.heap.size ≤ gb109)); have n3_ := Aside0.mk ((by rw [hg]; exact (below_size (by repeat (first | (with_reducible first | exact HB.out | apply below_alloc | apply pw_below_drewN | apply below_drew1) | exact HB.out))) : w.heap.size ≤ gb109)); clear HB; have HB := n0_; have BK109 := n1_; have GW109 := n2_; have GE109 := n3_; clear n0_ n1_ n2_ n3_; clear hb hbox hg; have hcz5_0 : w4.cell? ⟨gb109, 0, none⟩ = some (.string a0_0) := (blk_cell BK109.out 0).trans rfl; have hcz5_1 : w4.cell? ⟨gb109, 1, none⟩ = some (.int .i64 a0_1) := (blk_cell BK109.out 1).trans rfl; have hfz5_0 := blk_frozen BK109.out 0; have hfz5_1 := blk_frozen BK109.out 1) | ((with_reducible refine gate_callee (f := 52) rfl ?_); refine goesL_ (some 10) rfl rfl Tryd.func52 (by kernel_rfl) rfl #[.string a0_0] rfl (by (try simp only [List.map_toArray, List.map_cons, List.map_nil]); first | done | rfl | (simp only [List.length_drop, List.length_take]; rfl)) ?_; (with_reducible refine (code_first.calls k a0_0 t110 _ A2.out).mono ?_); rintro e w6 ⟨rfl, hb⟩; refine ⟨_, rfl, ?_⟩; have n0_ := Aside0.mk (blk_below (g := gb109) (o := .cells #[.string a0_0, .int .i64 a0_1] 80 (0, 0)) (by (with_reducible repeat (first | refine blk_drewN ?_ _ | refine blk_drew ?_ | refine blk_alloc ?_ _)); exact BK109.out) hb); have n1_ := Aside0.mk (below_step (by repeat (first | (with_reducible first | exact HB.out | apply below_alloc | apply pw_below_drewN | apply below_drew1 | refine below_set ?_ GE109.out) | exact HB.out)) hb); clear BK109; clear HB; have BK109 := n0_; have HB := n1_; clear n0_ n1_; (try clear hb); (try clear hb2); (try clear hk); (try clear hi)))
  go_ret2
  exact ⟨_, by first | rfl | (simp [errW_none, errW_some] <;> rfl) | (simp [*, errW_none, errW_some] <;> rfl), by first | exact Kd.R_nil _ _ _ _ _ | exact Kd.N_nil _ _ _ _ _ | exact Kd.V_nil _ _ _ _ _ | exact Kd.Q_nil _ _ _ _ _ | exact Kd.S_nil _ _ _ _ _, by repeat (first | (with_reducible first | exact HB.out | apply below_alloc | apply pw_below_drewN | apply below_drew1 | refine below_set ?_ GE109.out) | exact HB.out)⟩
 ·rw [if_neg c3] at H
  have c3b0 : decide (t110 < 0) = false := decide_eq_false c3
  clear c3
  replace H := Option.bind_eq_some_iff.mp H
  obtain ⟨t111, A70, H⟩ := H
  replace H : (if t111 = 2 then (if t110 < 16 then (code_Encode.j1 k 0 t111 1 15 a0_0 a0_1) else (code_Encode.j1 k t110 t111 0 15 a0_0 a0_1)) else (if t111 = 3 then (code_Encode.j1 k (wrap64 (t110 - 1)) t111 1 7 a0_0 a0_1) else (if t111 = 4 then (code_Encode.j0 k t110 t111 0 0 t111 (t111 == 4) a0_0 a0_1) else (code_Encode.j0 k t110 t111 0 0 t111 (t111 == 5) a0_0 a0_1)))) = some (r1, r2) := H
  have A7 := Aside0.mk A70
  clear A70
  have HC8 := Aside0.mk H
  clear H
  go_enter Tryd.func56, Tryd.ntmps56
  go_upto_block 0 with (first | ((with_reducible refine gate_dst (N := 1) rfl ?_); refine box_event ?hg (N := 1) ?hd (cs := #[.string a0_0, .int .i64 a0_1]) (t := 80) ?hr ?_; (case hd => rfl); (case hg => rfl); (case hr => first | (go_simp; done) | (go_simp; rfl)); intro gb109 hg w9 hbox hb; have n0_ := Aside0.mk (below_step (by repeat (first | (with_reducible first | exact HB.out | apply below_alloc | apply pw_below_drewN | apply below_drew1) | exact HB.out)) hb); have n1_ := Aside0.mk (hbox); have n2_ := Aside0.mk ((by rw [hg]; exact (below_size (by repeat (first | (with_reducible first | exact HB.out | apply below_alloc | apply pw_below_drewN | apply below_drew1) | exact HB.out))) : w.heap.size ≤ gb109)); have n3_ := Aside0.mk ((by rw [hg]; exact (below_size (by repeat (first | (with_reducible first | exact HB.out | apply below_alloc | apply pw_below_drewN | apply below_drew1) | exact HB.out))) : w.heap.size ≤ gb109)); clear HB; have HB := n0_; have BK109 := n1_; have GW109 := n2_; have GE109 := n3_; clear n0_ n1_ n2_ n3_; clear hb hbox hg; have hcz10_0 : w9.cell? ⟨gb109, 0, none⟩ = some (.string a0_0) := (blk_cell BK109.out 0).trans rfl; have hcz10_1 : w9.cell? ⟨gb109, 1, none⟩ = some (.int .i64 a0_1) := (blk_cell BK109.out 1).trans rfl; have hfz10_0 := blk_frozen BK109.out 0; have hfz10_1 := blk_frozen BK109.out 1) | ((with_reducible refine gate_callee (f := 52) rfl ?_); refine goesL_ (some 10) rfl rfl Tryd.func52 (by kernel_rfl) rfl #[.string a0_0] rfl (by (try simp only [List.map_toArray, List.map_cons, List.map_nil]); first | done | rfl | (simp only [List.length_drop, List.length_take]; rfl)) ?_; (with_reducible refine (code_first.calls k a0_0 t110 _ A2.out).mono ?_); rintro e w11 ⟨rfl, hb⟩; refine ⟨_, rfl, ?_⟩; have n0_ := Aside0.mk (blk_below (g := gb109) (o := .cells #[.string a0_0, .int .i64 a0_1] 80 (0, 0)) (by (with_reducible repeat (first | refine blk_drewN ?_ _ | refine blk_drew ?_ | refine blk_alloc ?_ _)); exact BK109.out) hb); have n1_ := Aside0.mk (below_step (by repeat (first | (with_reducible first | exact HB.out | apply below_alloc | apply pw_below_drewN | apply below_drew1 | refine below_set ?_ GE109.out) | exact HB.out)) hb); clear BK109; clear HB; have BK109 := n0_; have HB := n1_; clear n0_ n1_; (try clear hb); (try clear hb2); (try clear hk); (try clear hi)) | ((with_reducible refine gate_callee (f := 70) rfl ?_); refine goesL_ (some 15) rfl rfl Tryd.func70 (by kernel_rfl) rfl #[.int .u8 ((t110) % 256)] rfl (by (try simp only [List.map_toArray, List.map_cons, List.map_nil]); first | done | rfl | (simp only [List.length_drop, List.length_take]; rfl)) ?_; (with_reducible refine (code_form.calls k ((t110) % 256) t111 _ A7.out).mono ?_); rintro e w' ⟨rfl, ⟨nd, rfl⟩⟩; refine ⟨_, rfl, ?_⟩))
  (try simp only [Act.put, List.setIfInBounds_toArray, List.set_cons_zero, List.set_cons_succ])
  go_cut [4, 6, 7] (fun v4 v6 v7 wc => ∃ (kq : Nat) (x4_7 : Int) (x6_7 : Int) (x7_7 : Int), v4 = .int .i64 x4_7 ∧ v6 = .int .i64 x6_7 ∧ v7 = .int .i64 x7_7 ∧ Aside0 (code_Encode.j1 kq x4_7 t111 x6_7 x7_7 a0_0 a0_1 = some (r1, r2)) ∧ Aside0 (kq ≤ k) ∧ Aside0 (wc.heap[gb109]? = some (.cells #[.string a0_0, .int .i64 a0_1] 80 (0, 0))) ∧ Aside0 (Below w.heap.size w wc))
  case first =>
   have H := HC8.out
   clear HC8
   by_cases c12 : t111 = 2
   ·rw [if_pos c12] at H
    have c12b0 : (t111 == 2) = true := beq_iff_eq.mpr c12
    have c12b1 : (t111 != 2) = false := bne_eq_false_iff_eq.mpr c12
    clear c12
    (first | rw [c12b0] | (simp only [i64_w, i32_w]; rw [c12b0]) | skip)
    by_cases c13 : t110 < 16
    ·rw [if_pos c13] at H
     have c13b0 : decide (t110 < 16) = true := decide_eq_true c13
     clear c13
     have H' := Aside0.mk H
     clear H
     go_wp2
     go_meet
     case rel => exact ⟨_, (0), (1), (15), (by first | rfl | (simp; done) | (simp [*]; done)), (by first | rfl | (simp; done) | (simp [*]; done)), (by first | rfl | (simp; done) | (simp [*]; done)), H', ⟨by first | omega | exact Nat.le_refl _⟩, ⟨by (with_reducible repeat (first | refine blk_drewN ?_ _ | refine blk_drew ?_ | refine blk_alloc ?_ _)); exact BK109.out⟩, ⟨by repeat (first | (with_reducible first | exact HB.out | apply below_alloc | apply pw_below_drewN | apply below_drew1 | refine below_set ?_ GE109.out) | exact HB.out)⟩⟩
    ·rw [if_neg c13] at H
     have c13b0 : decide (t110 < 16) = false := decide_eq_false c13
     clear c13
     have H' := Aside0.mk H
     clear H
     go_wp2
     go_meet
     case rel => exact ⟨_, (t110), (0), (15), (by first | rfl | (simp; done) | (simp [*]; done)), (by first | rfl | (simp; done) | (simp [*]; done)), (by first | rfl | (simp; done) | (simp [*]; done)), H', ⟨by first | omega | exact Nat.le_refl _⟩, ⟨by (with_reducible repeat (first | refine blk_drewN ?_ _ | refine blk_drew ?_ | refine blk_alloc ?_ _)); exact BK109.out⟩, ⟨by repeat (first | (with_reducible first | exact HB.out | apply below_alloc | apply pw_below_drewN | apply below_drew1 | refine below_set ?_ GE109.out) | exact HB.out)⟩⟩
   ·rw [if_neg c12] at H
    have c12b0 : (t111 == 2) = false := beq_eq_false_iff_ne.mpr c12
    have c12b1 : (t111 != 2) = true := bne_iff_ne.mpr c12
    (first | rw [c12b0] | (simp only [i64_w, i32_w]; rw [c12b0]) | skip)
    by_cases c14 : t111 = 3
    ·rw [if_pos c14] at H
     have c14b0 : (t111 == 3) = true := beq_iff_eq.mpr c14
     have c14b1 : (t111 != 3) = false := bne_eq_false_iff_eq.mpr c14
     clear c14
     have H' := Aside0.mk H
     clear H
     go_wp2
     go_meet
     case rel => exact ⟨_, (wrap64 (t110 - 1)), (1), (7), (by first | rfl | (simp; done) | (simp [*]; done)), (by first | rfl | (simp; done) | (simp [*]; done)), (by first | rfl | (simp; done) | (simp [*]; done)), H', ⟨by first | omega | exact Nat.le_refl _⟩, ⟨by (with_reducible repeat (first | refine blk_drewN ?_ _ | refine blk_drew ?_ | refine blk_alloc ?_ _)); exact BK109.out⟩, ⟨by repeat (first | (with_reducible first | exact HB.out | apply below_alloc | apply pw_below_drewN | apply below_drew1 | refine below_set ?_ GE109.out) | exact HB.out)⟩⟩
    ·rw [if_neg c14] at H
     have c14b0 : (t111 == 3) = false := beq_eq_false_iff_ne.mpr c14
     have c14b1 : (t111 != 3) = true := bne_iff_ne.mpr c14
     have HC15 := Aside0.mk H
     clear H
     go_upto_if 25 with (fail)
     go_cut [25] (fun v25 wc => ∃ (kq : Nat) (x25_14 : Bool), v25 = .bool x25_14 ∧ Aside0 (code_Encode.j0 kq t110 t111 0 0 t111 x25_14 a0_0 a0_1 = some (r1, r2)) ∧ Aside0 (kq ≤ k) ∧ Aside0 (wc.heap[gb109]? = some (.cells #[.string a0_0, .int .i64 a0_1] 80 (0, 0))) ∧ Aside0 (Below w.heap.size w wc))
     case first =>
      have H := HC15.out
      clear HC15
      by_cases c16 : t111 = 4
      ·rw [if_pos c16] at H
       have c16b0 : (t111 == 4) = true := beq_iff_eq.mpr c16
       have c16b1 : (t111 != 4) = false := bne_eq_false_iff_eq.mpr c16
       clear c16
       (first | rw [c16b0] | (simp only [i64_w, i32_w]; rw [c16b0]) | skip)
       have H' := Aside0.mk H
       clear H
       go_wp2
       go_meet
       case rel => exact ⟨_, ((t111 == 4)), (by first | rfl | (simp; done) | (simp [*]; done)), H', ⟨by first | omega | exact Nat.le_refl _⟩, ⟨by (with_reducible repeat (first | refine blk_drewN ?_ _ | refine blk_drew ?_ | refine blk_alloc ?_ _)); exact BK109.out⟩, ⟨by repeat (first | (with_reducible first | exact HB.out | apply below_alloc | apply pw_below_drewN | apply below_drew1 | refine below_set ?_ GE109.out) | exact HB.out)⟩⟩
      ·rw [if_neg c16] at H
       have c16b0 : (t111 == 4) = false := beq_eq_false_iff_ne.mpr c16
       have c16b1 : (t111 != 4) = true := bne_iff_ne.mpr c16
       (first | rw [c16b0] | (simp only [i64_w, i32_w]; rw [c16b0]) | skip)
       have H' := Aside0.mk H
       clear H
       go_wp2
       go_meet
       case rel => exact ⟨_, ((t111 == 5)), (by first | rfl | (simp; done) | (simp [*]; done)), H', ⟨by first | omega | exact Nat.le_refl _⟩, ⟨by (with_reducible repeat (first | refine blk_drewN ?_ _ | refine blk_drew ?_ | refine blk_alloc ?_ _)); exact BK109.out⟩, ⟨by repeat (first | (with_reducible first | exact HB.out | apply below_alloc | apply pw_below_drewN | apply below_drew1 | refine below_set ?_ GE109.out) | exact HB.out)⟩⟩
     case rest =>
      clear HC15
      try clear c1
      try clear p2
      try clear c3
      try clear c3b0
      try clear c5
      try clear p6
      try clear c7
      try clear c12
      try clear c12b0
      try clear c12b1
      try clear c13
      try clear c13b0
      try clear c14
      try clear c14b0
      try clear c14b1
      try clear c16
      try clear c16b0
      try clear c16b1
      try clear hcz10_0
      try clear hcz10_1
      try clear hcz5_0
      try clear hcz5_1
      try clear hfz10_0
      try clear hfz10_1
      try clear hfz5_0
      try clear hfz5_1
      obtain ⟨kq, x25_14, rfl, HA, HJ14, BK109, HB⟩ := hcut
      cases kq with
      | zero => exact absurd HA.out (by simp [code_Encode.j0])
      | succ kj14 =>
       have H := HA.out
       clear HA
       simp only [code_Encode.j0] at H
       by_cases c17 : x25_14 = true
       ·subst c17
        have H1 : (code_Encode.j1 kj14 t110 t111 0 255 a0_0 a0_1) = some (r1, r2) := by rw [if_pos rfl] at H; exact H
        clear H
        have H := H1
        clear H1
        have H' := Aside0.mk H
        clear H
        go_wp2
        go_meet
        case rel => exact ⟨_, (t110), (0), (255), (by first | rfl | (simp; done) | (simp [*]; done)), (by first | rfl | (simp; done) | (simp [*]; done)), (by first | rfl | (simp; done) | (simp [*]; done)), H', ⟨by have := HJ14.out; first | omega | exact Nat.le_refl _⟩, ⟨by (with_reducible repeat (first | refine blk_drewN ?_ _ | refine blk_drew ?_ | refine blk_alloc ?_ _)); exact BK109.out⟩, ⟨by repeat (first | (with_reducible first | exact HB.out | apply below_alloc | apply pw_below_drewN | apply below_drew1 | refine below_set ?_ GE109.out) | exact HB.out)⟩⟩
       ·replace c17 := Bool.eq_false_iff.mpr c17
        subst c17
        have H1 : (if t111 = 6 then (code_Encode.j1 kj14 t110 t111 0 65535 a0_0 a0_1) else (code_Encode.j1 kj14 t110 t111 0 0 a0_0 a0_1)) = some (r1, r2) := by rw [if_neg (show ¬ (false = true) by decide)] at H; exact H
        clear H
        have H := H1
        clear H1
        by_cases c18 : t111 = 6
        ·rw [if_pos c18] at H
         have c18b0 : (t111 == 6) = true := beq_iff_eq.mpr c18
         have c18b1 : (t111 != 6) = false := bne_eq_false_iff_eq.mpr c18
         clear c18
         have H' := Aside0.mk H
         clear H
         go_wp2
         go_meet
         case rel => exact ⟨_, (t110), (0), (65535), (by first | rfl | (simp; done) | (simp [*]; done)), (by first | rfl | (simp; done) | (simp [*]; done)), (by first | rfl | (simp; done) | (simp [*]; done)), H', ⟨by have := HJ14.out; first | omega | exact Nat.le_refl _⟩, ⟨by (with_reducible repeat (first | refine blk_drewN ?_ _ | refine blk_drew ?_ | refine blk_alloc ?_ _)); exact BK109.out⟩, ⟨by repeat (first | (with_reducible first | exact HB.out | apply below_alloc | apply pw_below_drewN | apply below_drew1 | refine below_set ?_ GE109.out) | exact HB.out)⟩⟩
        ·rw [if_neg c18] at H
         have c18b0 : (t111 == 6) = false := beq_eq_false_iff_ne.mpr c18
         have c18b1 : (t111 != 6) = true := bne_iff_ne.mpr c18
         have H' := Aside0.mk H
         clear H
         go_wp2
         go_meet
         case rel => exact ⟨_, (t110), (0), (0), (by first | rfl | (simp; done) | (simp [*]; done)), (by first | rfl | (simp; done) | (simp [*]; done)), (by first | rfl | (simp; done) | (simp [*]; done)), H', ⟨by have := HJ14.out; first | omega | exact Nat.le_refl _⟩, ⟨by (with_reducible repeat (first | refine blk_drewN ?_ _ | refine blk_drew ?_ | refine blk_alloc ?_ _)); exact BK109.out⟩, ⟨by repeat (first | (with_reducible first | exact HB.out | apply below_alloc | apply pw_below_drewN | apply below_drew1 | refine below_set ?_ GE109.out) | exact HB.out)⟩⟩
  case rest =>
   clear HC8
   try clear c1
   try clear p2
   try clear c3
   try clear c3b0
   try clear c5
   try clear p6
   try clear c7
   try clear c12
   try clear c12b0
   try clear c12b1
   try clear c13
   try clear c13b0
   try clear c14
   try clear c14b0
   try clear c14b1
   try clear c16
   try clear c16b0
   try clear c16b1
   try clear c17
   try clear c18
   try clear c18b0
   try clear c18b1
   try clear hcz10_0
   try clear hcz10_1
   try clear hcz5_0
   try clear hcz5_1
   try clear hfz10_0
   try clear hfz10_1
   try clear hfz5_0
   try clear hfz5_1
   try clear p2
   try clear p6
   obtain ⟨kq, x4_7, x6_7, x7_7, rfl, rfl, rfl, HA, HJ7, BK109, HB⟩ := hcut
   cases kq with
   | zero => exact absurd HA.out (by simp [code_Encode.j1])
   | succ kj7 =>
    have H := HA.out
    clear HA
    simp only [code_Encode.j1] at H
    have HC19 := Aside0.mk H
    clear H
    go_upto_region 20 with (fail)
    go_cut [39] (fun v39 wc => ∃ (kq : Nat) (x39_18 : Bool), v39 = .bool x39_18 ∧ Aside0 (code_Encode.j2 kq x4_7 t111 x39_18 a0_0 a0_1 = some (r1, r2)) ∧ Aside0 (kq ≤ kj7) ∧ Aside0 (wc.heap[gb109]? = some (.cells #[.string a0_0, .int .i64 a0_1] 80 (0, 0))) ∧ Aside0 (Below w.heap.size w wc))
    case first =>
     have H := HC19.out
     clear HC19
     by_cases c20 : a0_1 < x6_7
     ·rw [if_pos c20] at H
      have c20b0 : decide (a0_1 < x6_7) = true := decide_eq_true c20
      clear c20
      (first | rw [c20b0] | (simp only [i64_w, i32_w]; rw [c20b0]) | skip)
      have H' := Aside0.mk H
      clear H
      have hcz21_0 : wc.cell? ⟨gb109, 0, none⟩ = some (.string a0_0) := (blk_cell BK109.out 0).trans rfl
      have hcz21_1 : wc.cell? ⟨gb109, 1, none⟩ = some (.int .i64 a0_1) := (blk_cell BK109.out 1).trans rfl
      have hfz21_0 := blk_frozen BK109.out 0
      have hfz21_1 := blk_frozen BK109.out 1
      go_wp2
      go_meet
      case rel => exact ⟨_, (true), (by first | rfl | (simp; done) | (simp [*]; done)), H', ⟨by have := HJ7.out; first | omega | exact Nat.le_refl _⟩, ⟨by (with_reducible repeat (first | refine blk_drewN ?_ _ | refine blk_drew ?_ | refine blk_alloc ?_ _)); exact BK109.out⟩, ⟨by repeat (first | (with_reducible first | exact HB.out | apply below_alloc | apply pw_below_drewN | apply below_drew1 | refine below_set ?_ GE109.out) | exact HB.out)⟩⟩
     ·rw [if_neg c20] at H
      have c20b0 : decide (a0_1 < x6_7) = false := decide_eq_false c20
      clear c20
      (first | rw [c20b0] | (simp only [i64_w, i32_w]; rw [c20b0]) | skip)
      have H' := Aside0.mk H
      clear H
      have hcz22_0 : wc.cell? ⟨gb109, 0, none⟩ = some (.string a0_0) := (blk_cell BK109.out 0).trans rfl
      have hcz22_1 : wc.cell? ⟨gb109, 1, none⟩ = some (.int .i64 a0_1) := (blk_cell BK109.out 1).trans rfl
      have hfz22_0 := blk_frozen BK109.out 0
      have hfz22_1 := blk_frozen BK109.out 1
      go_wp2
      go_meet
      case rel => exact ⟨_, (decide (a0_1 > x7_7)), (by first | rfl | (simp; done) | (simp [*]; done)), H', ⟨by have := HJ7.out; first | omega | exact Nat.le_refl _⟩, ⟨by (with_reducible repeat (first | refine blk_drewN ?_ _ | refine blk_drew ?_ | refine blk_alloc ?_ _)); exact BK109.out⟩, ⟨by repeat (first | (with_reducible first | exact HB.out | apply below_alloc | apply pw_below_drewN | apply below_drew1 | refine below_set ?_ GE109.out) | exact HB.out)⟩⟩
    case rest =>
     clear HC19
     try clear c1
     try clear c2
     try clear p2
     try clear c3
     try clear c3b0
     try clear c5
     try clear p6
     try clear c7
     try clear c12
     try clear c12b0
     try clear c12b1
     try clear c13
     try clear c13b0
     try clear c14
     try clear c14b0
     try clear c14b1
     try clear c16
     try clear c16b0
     try clear c16b1
     try clear c17
     try clear c18
     try clear c18b0
     try clear c18b1
     try clear c20
     try clear c20b0
     try clear hcz10_0
     try clear hcz10_1
     try clear hcz21_0
     try clear hcz21_1
     try clear hcz22_0
     try clear hcz22_1
     try clear hcz5_0
     try clear hcz5_1
     try clear hfz10_0
     try clear hfz10_1
     try clear hfz21_0
     try clear hfz21_1
     try clear hfz22_0
     try clear hfz22_1
     try clear hfz5_0
     try clear hfz5_1
     try clear p2
     try clear p6
     obtain ⟨kq, x39_18, rfl, HA, HJ18, BK109, HB⟩ := hcut
     cases kq with
     | zero => exact absurd HA.out (by simp [code_Encode.j2])
     | succ kj18 =>
      have H := HA.out
      clear HA
      simp only [code_Encode.j2] at H
      by_cases c23 : x39_18 = true
      ·subst c23
       have H1 : (some (([] : List Int), 21)) = some (r1, r2) := by rw [if_pos rfl] at H; exact H
       clear H
       have H := H1
       clear H1
       simp only [Option.some.injEq, Prod.mk.injEq] at H
       obtain ⟨rfl, rfl⟩ := H
       go_wp2
       go_ret2
       exact ⟨_, by first | rfl | (simp [errW_none, errW_some] <;> rfl) | (simp [*, errW_none, errW_some] <;> rfl), by first | exact Kd.R_nil _ _ _ _ _ | exact Kd.N_nil _ _ _ _ _ | exact Kd.V_nil _ _ _ _ _ | exact Kd.Q_nil _ _ _ _ _ | exact Kd.S_nil _ _ _ _ _, by repeat (first | (with_reducible first | exact HB.out | apply below_alloc | apply pw_below_drewN | apply below_drew1 | refine below_set ?_ GE109.out) | exact HB.out)⟩
      ·replace c23 := Bool.eq_false_iff.mpr c23
       subst c23
       have H1 : (if t111 = 2 then (code_Encode.j3 kj18 x4_7 t111 (t111 == 2) a0_0 a0_1) else (code_Encode.j3 kj18 x4_7 t111 (t111 == 3) a0_0 a0_1)) = some (r1, r2) := by rw [if_neg (show ¬ (false = true) by decide)] at H; exact H
       clear H
       have H := H1
       clear H1
       have HC24 := Aside0.mk H
       clear H
       go_upto_if 41 with (fail)
       go_cut [41] (fun v41 wc => ∃ (kq : Nat) (x41_23 : Bool), v41 = .bool x41_23 ∧ Aside0 (code_Encode.j3 kq x4_7 t111 x41_23 a0_0 a0_1 = some (r1, r2)) ∧ Aside0 (kq ≤ kj18) ∧ Aside0 (wc.heap[gb109]? = some (.cells #[.string a0_0, .int .i64 a0_1] 80 (0, 0))) ∧ Aside0 (Below w.heap.size w wc))
       case first =>
        have H := HC24.out
        clear HC24
        by_cases c25 : t111 = 2
        ·rw [if_pos c25] at H
         have c25b0 : (t111 == 2) = true := beq_iff_eq.mpr c25
         have c25b1 : (t111 != 2) = false := bne_eq_false_iff_eq.mpr c25
         clear c25
         (first | rw [c25b0] | (simp only [i64_w, i32_w]; rw [c25b0]) | skip)
         have H' := Aside0.mk H
         clear H
         go_wp2
         go_meet
         case rel => exact ⟨_, ((t111 == 2)), (by first | rfl | (simp; done) | (simp [*]; done)), H', ⟨by have := HJ7.out; have := HJ18.out; first | omega | exact Nat.le_refl _⟩, ⟨by (with_reducible repeat (first | refine blk_drewN ?_ _ | refine blk_drew ?_ | refine blk_alloc ?_ _)); exact BK109.out⟩, ⟨by repeat (first | (with_reducible first | exact HB.out | apply below_alloc | apply pw_below_drewN | apply below_drew1 | refine below_set ?_ GE109.out) | exact HB.out)⟩⟩
        ·rw [if_neg c25] at H
         have c25b0 : (t111 == 2) = false := beq_eq_false_iff_ne.mpr c25
         have c25b1 : (t111 != 2) = true := bne_iff_ne.mpr c25
         (first | rw [c25b0] | (simp only [i64_w, i32_w]; rw [c25b0]) | skip)
         have H' := Aside0.mk H
         clear H
         go_wp2
         go_meet
         case rel => exact ⟨_, ((t111 == 3)), (by first | rfl | (simp; done) | (simp [*]; done)), H', ⟨by have := HJ7.out; have := HJ18.out; first | omega | exact Nat.le_refl _⟩, ⟨by (with_reducible repeat (first | refine blk_drewN ?_ _ | refine blk_drew ?_ | refine blk_alloc ?_ _)); exact BK109.out⟩, ⟨by repeat (first | (with_reducible first | exact HB.out | apply below_alloc | apply pw_below_drewN | apply below_drew1 | refine below_set ?_ GE109.out) | exact HB.out)⟩⟩
       case rest =>
        clear HC24
        try clear c1
        try clear c2
        try clear p2
        try clear c3
        try clear c3b0
        try clear c5
        try clear p6
        try clear c7
        try clear c12
        try clear c12b0
        try clear c12b1
        try clear c13
        try clear c13b0
        try clear c14
        try clear c14b0
        try clear c14b1
        try clear c16
        try clear c16b0
        try clear c16b1
        try clear c17
        try clear c18
        try clear c18b0
        try clear c18b1
        try clear c20
        try clear c20b0
        try clear c23
        try clear c25
        try clear c25b0
        try clear c25b1
        try clear hcz10_0
        try clear hcz10_1
        try clear hcz21_0
        try clear hcz21_1
        try clear hcz22_0
        try clear hcz22_1
        try clear hcz5_0
        try clear hcz5_1
        try clear hfz10_0
        try clear hfz10_1
        try clear hfz21_0
        try clear hfz21_1
        try clear hfz22_0
        try clear hfz22_1
        try clear hfz5_0
        try clear hfz5_1
        try clear p2
        try clear p6
        obtain ⟨kq, x41_23, rfl, HA, HJ23, BK109, HB⟩ := hcut
        cases kq with
        | zero => exact absurd HA.out (by simp [code_Encode.j3])
        | succ kj23 =>
         have H := HA.out
         clear HA
         simp only [code_Encode.j3] at H
         by_cases c26 : x41_23 = true
         ·subst c26
          have H1 : (some ((([(wrap64 (x4_7 + a0_1)) % 256] : List Int)), 0)) = some (r1, r2) := by rw [if_pos rfl] at H; exact H
          clear H
          have H := H1
          clear H1
          obtain ⟨y112, hy112⟩ : ∃ y_ : List Int, y_ = (([(wrap64 (x4_7 + a0_1)) % 256] : List Int)) := ⟨_, rfl⟩
          replace H : (some (y112, 0)) = some (r1, r2) := by first | (rw [hy112]; with_reducible exact H) | (have H2_ := (Option.bind_some _ _).symm.trans H; rw [hy112]; with_reducible exact H2_) | (have H2_ := (Option.bind_some _ _).symm.trans H; with_reducible exact H2_) | with_reducible exact H | (rw [hy112]; exact H) | exact H
          have Ny112 := Aside0.mk hy112
          clear hy112
          simp only [Option.some.injEq, Prod.mk.injEq] at H
          obtain ⟨rfl, rfl⟩ := H
          have hcz27_0 : wc.cell? ⟨gb109, 0, none⟩ = some (.string a0_0) := (blk_cell BK109.out 0).trans rfl
          have hcz27_1 : wc.cell? ⟨gb109, 1, none⟩ = some (.int .i64 a0_1) := (blk_cell BK109.out 1).trans rfl
          have hfz27_0 := blk_frozen BK109.out 0
          have hfz27_1 := blk_frozen BK109.out 1
          go_wp2_with (first | ((with_reducible refine gate_dst (N := 49) rfl ?_); refine Kd.R_lit (Kd.int .u8) _ 5 ?hg (N := 49) ?hd (xs := ([(wrap64 (x4_7 + a0_1)) % 256] : List Int)) (inner := [.int .u8 ((wrap64 (x4_7 + a0_1)) % 256)]) (ok := fun _ => True) (okp := fun _ => True) ?hr ?hp (fun _ hk => hk) trivial (Below.refl _ _) (Nat.le_refl _) (by simp) ?_; (case hd => rfl); (case hg => rfl); (case hr => first | (go_simp; done) | (go_simp; rfl)); (case hp => exact (Reps.one (show Kd.M (Kd.int .u8) _ _ _ ((wrap64 (x4_7 + a0_1)) % 256) [.int .u8 ((wrap64 (x4_7 + a0_1)) % 256)] from rfl) (Reps.none _ _))); intro v113 w28 ho29 hb hg_ hnew_; clear hg_ hnew_; (first | rw [← Ny112.out] at ho29 | (simp only [Int.reduceToNat] at ho29; rw [← Ny112.out] at ho29)); have n0_ := Aside0.mk (Kd.R_lower ho29 (below_size (by repeat (first | (with_reducible first | exact HB.out | apply below_alloc | apply pw_below_drewN | apply below_drew1 | refine below_set ?_ GE109.out) | exact HB.out)))); have n1_ := Aside0.mk (blk_below (g := gb109) (o := .cells #[.string a0_0, .int .i64 a0_1] 80 (0, 0)) (by (with_reducible repeat (first | refine blk_drewN ?_ _ | refine blk_drew ?_ | refine blk_alloc ?_ _)); exact BK109.out) hb); have n2_ := Aside0.mk (below_step (by repeat (first | (with_reducible first | exact HB.out | apply below_alloc | apply pw_below_drewN | apply below_drew1 | refine below_set ?_ GE109.out) | exact HB.out)) hb); clear BK109; clear HB; have HO114 := n0_; have BK109 := n1_; have HB := n2_; clear n0_ n1_ n2_; clear hb ho29))
          go_ret2
          exact ⟨_, by first | rfl | (simp [errW_none, errW_some] <;> rfl) | (simp [*, errW_none, errW_some] <;> rfl), by (with_reducible repeat (first | apply Kd.R_alloc | apply Kd.R_drewN | apply Kd.R_drew)); exact HO114.out, by repeat (first | (with_reducible first | exact HB.out | apply below_alloc | apply pw_below_drewN | apply below_drew1 | refine below_set ?_ GE109.out) | exact HB.out)⟩
         ·replace c26 := Bool.eq_false_iff.mpr c26
          subst c26
          have H1 : (if t111 = 4 then (code_Encode.j4 kj23 x4_7 t111 (t111 == 4) a0_0 a0_1) else (code_Encode.j4 kj23 x4_7 t111 (t111 == 5) a0_0 a0_1)) = some (r1, r2) := by rw [if_neg (show ¬ (false = true) by decide)] at H; exact H
          clear H
          have H := H1
          clear H1
          have HC30 := Aside0.mk H
          clear H
          go_upto_if 50 with (fail)
          go_cut [50] (fun v50 wc => ∃ (kq : Nat) (x50_29 : Bool), v50 = .bool x50_29 ∧ Aside0 (code_Encode.j4 kq x4_7 t111 x50_29 a0_0 a0_1 = some (r1, r2)) ∧ Aside0 (kq ≤ kj23) ∧ Aside0 (wc.heap[gb109]? = some (.cells #[.string a0_0, .int .i64 a0_1] 80 (0, 0))) ∧ Aside0 (Below w.heap.size w wc))
          case first =>
           have H := HC30.out
           clear HC30
           by_cases c31 : t111 = 4
           ·rw [if_pos c31] at H
            have c31b0 : (t111 == 4) = true := beq_iff_eq.mpr c31
            have c31b1 : (t111 != 4) = false := bne_eq_false_iff_eq.mpr c31
            clear c31
            (first | rw [c31b0] | (simp only [i64_w, i32_w]; rw [c31b0]) | skip)
            have H' := Aside0.mk H
            clear H
            go_wp2
            go_meet
            case rel => exact ⟨_, ((t111 == 4)), (by first | rfl | (simp; done) | (simp [*]; done)), H', ⟨by have := HJ7.out; have := HJ18.out; have := HJ23.out; first | omega | exact Nat.le_refl _⟩, ⟨by (with_reducible repeat (first | refine blk_drewN ?_ _ | refine blk_drew ?_ | refine blk_alloc ?_ _)); exact BK109.out⟩, ⟨by repeat (first | (with_reducible first | exact HB.out | apply below_alloc | apply pw_below_drewN | apply below_drew1 | refine below_set ?_ GE109.out) | exact HB.out)⟩⟩
           ·rw [if_neg c31] at H
            have c31b0 : (t111 == 4) = false := beq_eq_false_iff_ne.mpr c31
            have c31b1 : (t111 != 4) = true := bne_iff_ne.mpr c31
            (first | rw [c31b0] | (simp only [i64_w, i32_w]; rw [c31b0]) | skip)
            have H' := Aside0.mk H
            clear H
            go_wp2
            go_meet
            case rel => exact ⟨_, ((t111 == 5)), (by first | rfl | (simp; done) | (simp [*]; done)), H', ⟨by have := HJ7.out; have := HJ18.out; have := HJ23.out; first | omega | exact Nat.le_refl _⟩, ⟨by (with_reducible repeat (first | refine blk_drewN ?_ _ | refine blk_drew ?_ | refine blk_alloc ?_ _)); exact BK109.out⟩, ⟨by repeat (first | (with_reducible first | exact HB.out | apply below_alloc | apply pw_below_drewN | apply below_drew1 | refine below_set ?_ GE109.out) | exact HB.out)⟩⟩
          case rest =>
           clear HC30
           try clear c1
           try clear c2
           try clear p2
           try clear c3
           try clear c3b0
           try clear c5
           try clear p6
           try clear c7
           try clear c12
           try clear c12b0
           try clear c12b1
           try clear c13
           try clear c13b0
           try clear c14
           try clear c14b0
           try clear c14b1
           try clear c16
           try clear c16b0
           try clear c16b1
           try clear c17
           try clear c18
           try clear c18b0
           try clear c18b1
           try clear c20
           try clear c20b0
           try clear c23
           try clear c25
           try clear c25b0
           try clear c25b1
           try clear c26
           try clear c31
           try clear c31b0
           try clear c31b1
           try clear hcz10_0
           try clear hcz10_1
           try clear hcz21_0
           try clear hcz21_1
           try clear hcz22_0
           try clear hcz22_1
           try clear hcz27_0
           try clear hcz27_1
           try clear hcz5_0
           try clear hcz5_1
           try clear hfz10_0
           try clear hfz10_1
           try clear hfz21_0
           try clear hfz21_1
           try clear hfz22_0
           try clear hfz22_1
           try clear hfz27_0
           try clear hfz27_1
           try clear hfz5_0
           try clear hfz5_1
           try clear p2
           try clear p6
           obtain ⟨kq, x50_29, rfl, HA, HJ29, BK109, HB⟩ := hcut
           cases kq with
           | zero => exact absurd HA.out (by simp [code_Encode.j4])
           | succ kj29 =>
            have H := HA.out
            clear HA
            simp only [code_Encode.j4] at H
            by_cases c32 : x50_29 = true
            ·subst c32
             have H1 : (some ((([(x4_7) % 256, (a0_1) % 256] : List Int)), 0)) = some (r1, r2) := by rw [if_pos rfl] at H; exact H
             clear H
             have H := H1
             clear H1
             obtain ⟨y115, hy115⟩ : ∃ y_ : List Int, y_ = (([(x4_7) % 256, (a0_1) % 256] : List Int)) := ⟨_, rfl⟩
             replace H : (some (y115, 0)) = some (r1, r2) := by first | (rw [hy115]; with_reducible exact H) | (have H2_ := (Option.bind_some _ _).symm.trans H; rw [hy115]; with_reducible exact H2_) | (have H2_ := (Option.bind_some _ _).symm.trans H; with_reducible exact H2_) | with_reducible exact H | (rw [hy115]; exact H) | exact H
             have Ny115 := Aside0.mk hy115
             clear hy115
             simp only [Option.some.injEq, Prod.mk.injEq] at H
             obtain ⟨rfl, rfl⟩ := H
             have hcz33_0 : wc.cell? ⟨gb109, 0, none⟩ = some (.string a0_0) := (blk_cell BK109.out 0).trans rfl
             have hcz33_1 : wc.cell? ⟨gb109, 1, none⟩ = some (.int .i64 a0_1) := (blk_cell BK109.out 1).trans rfl
             have hfz33_0 := blk_frozen BK109.out 0
             have hfz33_1 := blk_frozen BK109.out 1
             go_wp2_with (first | ((with_reducible refine gate_dst (N := 58) rfl ?_); refine Kd.R_lit (Kd.int .u8) _ 5 ?hg (N := 58) ?hd (xs := ([(x4_7) % 256, (a0_1) % 256] : List Int)) (inner := [.int .u8 ((x4_7) % 256), .int .u8 ((a0_1) % 256)]) (ok := fun _ => True) (okp := fun _ => True) ?hr ?hp (fun _ hk => hk) trivial (Below.refl _ _) (Nat.le_refl _) (by simp) ?_; (case hd => rfl); (case hg => rfl); (case hr => first | (go_simp; done) | (go_simp; rfl)); (case hp => exact (Reps.one (show Kd.M (Kd.int .u8) _ _ _ ((x4_7) % 256) [.int .u8 ((x4_7) % 256)] from rfl) (Reps.one (show Kd.M (Kd.int .u8) _ _ _ ((a0_1) % 256) [.int .u8 ((a0_1) % 256)] from rfl) (Reps.none _ _)))); intro v116 w34 ho35 hb hg_ hnew_; clear hg_ hnew_; (first | rw [← Ny115.out] at ho35 | (simp only [Int.reduceToNat] at ho35; rw [← Ny115.out] at ho35)); have n0_ := Aside0.mk (Kd.R_lower ho35 (below_size (by repeat (first | (with_reducible first | exact HB.out | apply below_alloc | apply pw_below_drewN | apply below_drew1 | refine below_set ?_ GE109.out) | exact HB.out)))); have n1_ := Aside0.mk (blk_below (g := gb109) (o := .cells #[.string a0_0, .int .i64 a0_1] 80 (0, 0)) (by (with_reducible repeat (first | refine blk_drewN ?_ _ | refine blk_drew ?_ | refine blk_alloc ?_ _)); exact BK109.out) hb); have n2_ := Aside0.mk (below_step (by repeat (first | (with_reducible first | exact HB.out | apply below_alloc | apply pw_below_drewN | apply below_drew1 | refine below_set ?_ GE109.out) | exact HB.out)) hb); clear BK109; clear HB; have HO117 := n0_; have BK109 := n1_; have HB := n2_; clear n0_ n1_ n2_; clear hb ho35))
             go_ret2
             exact ⟨_, by first | rfl | (simp [errW_none, errW_some] <;> rfl) | (simp [*, errW_none, errW_some] <;> rfl), by (with_reducible repeat (first | apply Kd.R_alloc | apply Kd.R_drewN | apply Kd.R_drew)); exact HO117.out, by repeat (first | (with_reducible first | exact HB.out | apply below_alloc | apply pw_below_drewN | apply below_drew1 | refine below_set ?_ GE109.out) | exact HB.out)⟩
            ·replace c32 := Bool.eq_false_iff.mpr c32
             subst c32
             have H1 : (if t111 = 6 then ((bits_High.f (IntKind.u16.wrap (a0_1))).bind fun t118 => ((bits_Low.f (IntKind.u16.wrap (a0_1))).bind fun t119 => (some ((([(x4_7) % 256, t118, t119] : List Int)), 0)))) else (some ((([(x4_7) % 256] : List Int)), 0))) = some (r1, r2) := by rw [if_neg (show ¬ (false = true) by decide)] at H; exact H
             clear H
             have H := H1
             clear H1
             by_cases c36 : t111 = 6
             ·rw [if_pos c36] at H
              have c36b0 : (t111 == 6) = true := beq_iff_eq.mpr c36
              have c36b1 : (t111 != 6) = false := bne_eq_false_iff_eq.mpr c36
              clear c36
              replace H := Option.bind_eq_some_iff.mp H
              obtain ⟨t118, A370, H⟩ := H
              replace H : ((bits_Low.f (IntKind.u16.wrap (a0_1))).bind fun t119 => (some ((([(x4_7) % 256, t118, t119] : List Int)), 0))) = some (r1, r2) := H
              have A37 := Aside0.mk A370
              clear A370
              replace H := Option.bind_eq_some_iff.mp H
              obtain ⟨t119, A380, H⟩ := H
              replace H : (some ((([(x4_7) % 256, t118, t119] : List Int)), 0)) = some (r1, r2) := H
              have A38 := Aside0.mk A380
              clear A380
              obtain ⟨y120, hy120⟩ : ∃ y_ : List Int, y_ = (([(x4_7) % 256, t118, t119] : List Int)) := ⟨_, rfl⟩
              replace H : (some (y120, 0)) = some (r1, r2) := by first | (rw [hy120]; with_reducible exact H) | (have H2_ := (Option.bind_some _ _).symm.trans H; rw [hy120]; with_reducible exact H2_) | (have H2_ := (Option.bind_some _ _).symm.trans H; with_reducible exact H2_) | with_reducible exact H | (rw [hy120]; exact H) | exact H
              have Ny120 := Aside0.mk hy120
              clear hy120
              simp only [Option.some.injEq, Prod.mk.injEq] at H
              obtain ⟨rfl, rfl⟩ := H
              try go_wp2
              have n0_ := Aside0.mk (blk_drew BK109.out)
              have n1_ := Aside0.mk (below_drew1 HB.out)
              clear BK109
              clear HB
              have BK109 := n0_
              have HB := n1_
              clear n0_ n1_
              refine start_ (n := 13) (S := fun w' => w'.cell? ⟨gb109, 0, none⟩ = some (.string a0_0) ∧ w'.cell? ⟨gb109, 1, none⟩ = some (.int .i64 a0_1)) (ds := []) #[false, false, false, false, false, false, false, false, false, false, false, false, false] (by kernel_rfl) rfl rfl ⟨(blk_cell BK109.out 0).trans rfl, (blk_cell BK109.out 1).trans rfl⟩ (fun hHeld => ?_); refine with_tabW code_Encode.tab30 code_Encode.bits30 (fun HT_ HW_ => ?_)
              generalize wc.drew = w39 at BK109 HB hHeld ⊢
              refine pure_ (i := 0) (N := some 61) (v := ?_) (a' := ?_) #[true, false, false, false, false, false, false, false, false, false, false, false, false] rfl rfl (any_of HT_.out (by kernel_rfl)) (fun _ _ _ h => h) (Or.inl ⟨by rfl, ?_⟩) ?_ ?_
              rotate_left
              ·intro w'
               go_simp
               with_reducible rfl
              rotate_left
              ·simp only [Act.put, List.setIfInBounds_toArray, List.set_cons_zero, List.set_cons_succ, i64_w, i32_w]
               rfl
              refine pure_ (i := 1) (N := some 62) (v := ?_) (a' := ?_) #[true, true, false, false, false, false, false, false, false, false, false, false, false] rfl rfl (any_of HT_.out (by kernel_rfl)) (fun _ _ _ h => h) (Or.inl ⟨by rfl, ?_⟩) ?_ ?_
              rotate_left
              ·intro w'
               go_simp
               with_reducible rfl
              rotate_left
              ·simp only [Act.put, List.setIfInBounds_toArray, List.set_cons_zero, List.set_cons_succ, i64_w, i32_w]
               rfl
              refine pure_ (i := 2) (N := some 63) (v := ?_) (a' := ?_) #[true, true, true, false, false, false, false, false, false, false, false, false, false] rfl rfl (any_of HT_.out (by kernel_rfl)) (fun _ _ _ h => h) (Or.inl ⟨by rfl, ?_⟩) ?_ ?_
              rotate_left
              ·intro w'
               go_simp
               with_reducible rfl
              rotate_left
              ·simp only [Act.put, List.setIfInBounds_toArray, List.set_cons_zero, List.set_cons_succ, i64_w, i32_w]
               rfl
              refine pure_ (i := 6) (N := some 67) (v := ?_) (a' := ?_) #[true, true, true, false, false, false, true, false, false, false, false, false, false] rfl rfl (any_of HT_.out (by kernel_rfl)) (fun _ _ _ h => h) (Or.inl ⟨by rfl, ?_⟩) ?_ ?_
              rotate_left
              ·intro w'
               go_simp
               with_reducible rfl
              rotate_left
              ·simp only [Act.put, List.setIfInBounds_toArray, List.set_cons_zero, List.set_cons_succ, i64_w, i32_w]
               rfl
              refine take_ (i := 3) (N := some 64) (v := ?_) (a' := ?_) #[true, true, true, true, false, false, true, false, false, false, false, false, false] rfl rfl (take_ofW HT_.out HW_.out (by kernel_rfl)) (fun _ _ _ h => h) (Or.inl ⟨by rfl, ?_⟩) hHeld ?_ ?_
              rotate_left
              ·rintro w' ⟨s0, s1⟩
               go_simp
               with_reducible rfl
              rotate_left
              ·simp only [Act.put, List.setIfInBounds_toArray, List.set_cons_zero, List.set_cons_succ, i64_w, i32_w]
               rfl
              refine pure_ (i := 4) (N := some 65) (v := ?_) (a' := ?_) #[true, true, true, true, true, false, true, false, false, false, false, false, false] rfl rfl (any_of HT_.out (by kernel_rfl)) (fun _ _ _ h => h) (Or.inl ⟨by rfl, ?_⟩) ?_ ?_
              rotate_left
              ·intro w'
               go_simp
               with_reducible rfl
              rotate_left
              ·simp only [Act.put, List.setIfInBounds_toArray, List.set_cons_zero, List.set_cons_succ, i64_w, i32_w]
               rfl
              refine take_ (i := 7) (N := some 68) (v := ?_) (a' := ?_) #[true, true, true, true, true, false, true, true, false, false, false, false, false] rfl rfl (take_ofW HT_.out HW_.out (by kernel_rfl)) (fun _ _ _ h => h) (Or.inl ⟨by rfl, ?_⟩) hHeld ?_ ?_
              rotate_left
              ·rintro w' ⟨s0, s1⟩
               go_simp
               with_reducible rfl
              rotate_left
              ·simp only [Act.put, List.setIfInBounds_toArray, List.set_cons_zero, List.set_cons_succ, i64_w, i32_w]
               rfl
              refine pure_ (i := 8) (N := some 69) (v := ?_) (a' := ?_) #[true, true, true, true, true, false, true, true, true, false, false, false, false] rfl rfl (any_of HT_.out (by kernel_rfl)) (fun _ _ _ h => h) (Or.inl ⟨by rfl, ?_⟩) ?_ ?_
              rotate_left
              ·intro w'
               go_simp
               with_reducible rfl
              rotate_left
              ·simp only [Act.put, List.setIfInBounds_toArray, List.set_cons_zero, List.set_cons_succ, i64_w, i32_w]
               rfl
              refine one_ (i := 5) (N := some 66) #[true, true, true, true, true, true, true, true, true, false, false, false, false] rfl rfl (one_of HT_.out (by kernel_rfl)) (by decide) (fun K hK => ?_)
              refine goes_ Tryd.func76 (by kernel_rfl) rfl #[.int .u16 (IntKind.u16.wrap (a0_1))] (by rfl) rfl rfl (by (try simp only [List.map_toArray, List.map_cons, List.map_nil]); first | done | rfl | (simp only [List.length_drop, List.length_take]; rfl)) ?_
              with_reducible refine (bits_High.calls (IntKind.u16.wrap (a0_1)) t118 _ A37.out).mono ?_
              rintro e w' ⟨rfl, ⟨nd, rfl⟩⟩
              refine ⟨_, rfl, ?_⟩
              refine hK.out _ _ ⟨(blk_cell BK109.out 0).trans rfl, (blk_cell BK109.out 1).trans rfl⟩ (fun hHeld => ?_)
              clear hK K
              refine norm_ (a' := ?_) ?_ ?_
              rotate_left
              ·show Act.put _ (some 66) _ = _
               simp only [Act.put, List.setIfInBounds_toArray, List.set_cons_zero, List.set_cons_succ, i64_w, i32_w]
               rfl
              refine one_ (i := 9) (N := some 70) #[true, true, true, true, true, true, true, true, true, true, false, false, false] rfl rfl (one_of HT_.out (by kernel_rfl)) (by decide) (fun K hK => ?_)
              refine goes_ Tryd.func77 (by kernel_rfl) rfl #[.int .u16 (IntKind.u16.wrap (a0_1))] (by rfl) rfl rfl (by (try simp only [List.map_toArray, List.map_cons, List.map_nil]); first | done | rfl | (simp only [List.length_drop, List.length_take]; rfl)) ?_
              with_reducible refine (bits_Low.calls (IntKind.u16.wrap (a0_1)) t119 _ A38.out).mono ?_
              rintro e w' ⟨rfl, ⟨nd, rfl⟩⟩
              refine ⟨_, rfl, ?_⟩
              refine hK.out _ _ ⟨(blk_cell BK109.out 0).trans rfl, (blk_cell BK109.out 1).trans rfl⟩ (fun hHeld => ?_)
              clear hK K
              refine norm_ (a' := ?_) ?_ ?_
              rotate_left
              ·show Act.put _ (some 70) _ = _
               simp only [Act.put, List.setIfInBounds_toArray, List.set_cons_zero, List.set_cons_succ, i64_w, i32_w]
               rfl
              refine one_ (i := 10) (N := some 71) #[true, true, true, true, true, true, true, true, true, true, true, false, false] rfl rfl (one_of HT_.out (by kernel_rfl)) (by decide) (fun K hK => ?_)
              refine Kd.R_lit_step (Kd.int .u8) _ 5 ?hg (N := 71) ?hd (xs := ([(x4_7) % 256, t118, t119] : List Int)) (inner := [.int .u8 ((x4_7) % 256), .int .u8 t118, .int .u8 t119]) (ok := fun _ => True) (okp := fun _ => True) ?hr ?hp (fun _ hk => hk) trivial (Below.refl _ _) (Nat.le_refl _) (by simp) ?_; (case hd => rfl); (case hg => rfl); (case hr => first | (go_simp; done) | (go_simp; rfl)); (case hp => exact (Reps.one (show Kd.M (Kd.int .u8) _ _ _ ((x4_7) % 256) [.int .u8 ((x4_7) % 256)] from rfl) (Reps.one (show Kd.M (Kd.int .u8) _ _ _ t118 [.int .u8 t118] from rfl) (Reps.one (show Kd.M (Kd.int .u8) _ _ _ t119 [.int .u8 t119] from rfl) (Reps.none _ _)))))
              intro v121 w40 ho41 hb hg_ hnew_
              clear hg_ hnew_
              (first | rw [← Ny120.out] at ho41 | (simp only [Int.reduceToNat] at ho41; rw [← Ny120.out] at ho41))
              have n0_ := Aside0.mk (Kd.R_lower ho41 (below_size (by repeat (first | (with_reducible first | exact HB.out | apply below_alloc | apply pw_below_drewN | apply below_drew1 | refine below_set ?_ GE109.out) | exact HB.out))))
              have n1_ := Aside0.mk (blk_below (g := gb109) (o := .cells #[.string a0_0, .int .i64 a0_1] 80 (0, 0)) (by (with_reducible repeat (first | refine blk_drewN ?_ _ | refine blk_drew ?_ | refine blk_alloc ?_ _)); exact BK109.out) hb)
              have n2_ := Aside0.mk (below_step (by repeat (first | (with_reducible first | exact HB.out | apply below_alloc | apply pw_below_drewN | apply below_drew1 | refine below_set ?_ GE109.out) | exact HB.out)) hb)
              clear BK109
              clear HB
              have HO122 := n0_
              have BK109 := n1_
              have HB := n2_
              clear n0_ n1_ n2_
              clear hb ho41
              refine hK.out _ _ ⟨(blk_cell BK109.out 0).trans rfl, (blk_cell BK109.out 1).trans rfl⟩ (fun hHeld => ?_)
              clear hK K
              refine norm_ (a' := ?_) ?_ ?_
              rotate_left
              ·show Act.put _ (some 71) _ = _
               simp only [Act.put, List.setIfInBounds_toArray, List.set_cons_zero, List.set_cons_succ, i64_w, i32_w]
               rfl
              refine pure_ (i := 11) (N := some 2) (v := ?_) (a' := ?_) #[true, true, true, true, true, true, true, true, true, true, true, true, false] rfl rfl (any_of HT_.out (by kernel_rfl)) (fun _ _ _ h => h) (Or.inl ⟨by rfl, ?_⟩) ?_ ?_
              rotate_left
              ·intro w'
               go_simp
               with_reducible rfl
              rotate_left
              ·simp only [Act.put, List.setIfInBounds_toArray, List.set_cons_zero, List.set_cons_succ, i64_w, i32_w]
               rfl
              refine pure_ (i := 12) (N := some 3) (v := ?_) (a' := ?_) #[true, true, true, true, true, true, true, true, true, true, true, true, true] rfl rfl (any_of HT_.out (by kernel_rfl)) (fun _ _ _ h => h) (Or.inl ⟨by rfl, ?_⟩) ?_ ?_
              rotate_left
              ·intro w'
               go_simp
               with_reducible rfl
              rotate_left
              ·simp only [Act.put, List.setIfInBounds_toArray, List.set_cons_zero, List.set_cons_succ, i64_w, i32_w]
               rfl
              refine done_ (done_of HT_.out (by kernel_rfl)) ?_
              try go_wp2
              go_ret2
              exact ⟨_, by first | rfl | (simp [errW_none, errW_some] <;> rfl) | (simp [*, errW_none, errW_some] <;> rfl), by (with_reducible repeat (first | apply Kd.R_alloc | apply Kd.R_drewN | apply Kd.R_drew)); exact HO122.out, by repeat (first | (with_reducible first | exact HB.out | apply below_alloc | apply pw_below_drewN | apply below_drew1 | refine below_set ?_ GE109.out) | exact HB.out)⟩
             ·rw [if_neg c36] at H
              have c36b0 : (t111 == 6) = false := beq_eq_false_iff_ne.mpr c36
              have c36b1 : (t111 != 6) = true := bne_iff_ne.mpr c36
              obtain ⟨y123, hy123⟩ : ∃ y_ : List Int, y_ = (([(x4_7) % 256] : List Int)) := ⟨_, rfl⟩
              replace H : (some (y123, 0)) = some (r1, r2) := by first | (rw [hy123]; with_reducible exact H) | (have H2_ := (Option.bind_some _ _).symm.trans H; rw [hy123]; with_reducible exact H2_) | (have H2_ := (Option.bind_some _ _).symm.trans H; with_reducible exact H2_) | with_reducible exact H | (rw [hy123]; exact H) | exact H
              have Ny123 := Aside0.mk hy123
              clear hy123
              simp only [Option.some.injEq, Prod.mk.injEq] at H
              obtain ⟨rfl, rfl⟩ := H
              go_wp2_with (first | ((with_reducible refine gate_dst (N := 74) rfl ?_); refine Kd.R_lit (Kd.int .u8) _ 5 ?hg (N := 74) ?hd (xs := ([(x4_7) % 256] : List Int)) (inner := [.int .u8 ((x4_7) % 256)]) (ok := fun _ => True) (okp := fun _ => True) ?hr ?hp (fun _ hk => hk) trivial (Below.refl _ _) (Nat.le_refl _) (by simp) ?_; (case hd => rfl); (case hg => rfl); (case hr => first | (go_simp; done) | (go_simp; rfl)); (case hp => exact (Reps.one (show Kd.M (Kd.int .u8) _ _ _ ((x4_7) % 256) [.int .u8 ((x4_7) % 256)] from rfl) (Reps.none _ _))); intro v124 w42 ho43 hb hg_ hnew_; clear hg_ hnew_; (first | rw [← Ny123.out] at ho43 | (simp only [Int.reduceToNat] at ho43; rw [← Ny123.out] at ho43)); have n0_ := Aside0.mk (Kd.R_lower ho43 (below_size (by repeat (first | (with_reducible first | exact HB.out | apply below_alloc | apply pw_below_drewN | apply below_drew1 | refine below_set ?_ GE109.out) | exact HB.out)))); have n1_ := Aside0.mk (blk_below (g := gb109) (o := .cells #[.string a0_0, .int .i64 a0_1] 80 (0, 0)) (by (with_reducible repeat (first | refine blk_drewN ?_ _ | refine blk_drew ?_ | refine blk_alloc ?_ _)); exact BK109.out) hb); have n2_ := Aside0.mk (below_step (by repeat (first | (with_reducible first | exact HB.out | apply below_alloc | apply pw_below_drewN | apply below_drew1 | refine below_set ?_ GE109.out) | exact HB.out)) hb); clear BK109; clear HB; have HO125 := n0_; have BK109 := n1_; have HB := n2_; clear n0_ n1_ n2_; clear hb ho43))
              go_ret2
              exact ⟨_, by first | rfl | (simp [errW_none, errW_some] <;> rfl) | (simp [*, errW_none, errW_some] <;> rfl), by (with_reducible repeat (first | apply Kd.R_alloc | apply Kd.R_drewN | apply Kd.R_drew)); exact HO125.out, by repeat (first | (with_reducible first | exact HB.out | apply below_alloc | apply pw_below_drewN | apply below_drew1 | refine below_set ?_ GE109.out) | exact HB.out)⟩
end Go.Proofs.YtjedbamcjgabpaaDoor.PSo
