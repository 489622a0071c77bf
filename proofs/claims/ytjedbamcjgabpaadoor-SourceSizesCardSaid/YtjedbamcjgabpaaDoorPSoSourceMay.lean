/- Written by a program of this session (gprint.py, over the kit's printer): functions of the seat YtjedbamcjgabpaaDoor and their contracts. No condition but each contract's own. -/
import Derived.Test.YtjedbamcjgabpaaDoorPSox0
import Derived.Test.YtjedbamcjgabpaaDoorPSoSourceInstruction
import Derived.Test.YtjedbamcjgabpaaDoorSrcAll
import Derived.Test.YtjedbamcjgabpaaDoorSrcG
namespace Go.Proofs.YtjedbamcjgabpaaDoor.PSo
open Go.RowKit Go.Proofs.YtjedbamcjgabpaaDoorW.PrintWords Go.Proofs.YtjedbamcjgabpaaDoorW.PrintLast Go.Proofs.YtjedbamcjgabpaaDoorW.PrintMore
open Go.Proofs.YtjedbamcjgabpaaDoor.Src (GOk)
attribute [local go_sem] max2_int min2_int max_two min_two max_three min_three max_four min_four   -- for this text's walks alone
set_option linter.unusedVariables false
set_option linter.unusedSimpArgs false

/-! ### source_may: function 22 -/
def source_may.j0 : Nat → Bool → Int → ByteArray → Int → ByteArray → Int → List Int → Option (Bool)
 | 0, _, _, _, _, _, _, _ => none
 | k + 1, x51, x139000, x139001, x139002, x139003, x139004, x139005 => if x51 = true then (some false) else (if x139000 = 1 then ((source_name.f x139001).bind fun t140 => (some t140)) else (if x139000 = 3 then (if (x139005.length : Int) ≥ 1 then (some (decide ((x139005.length : Int) ≤ 256))) else (some false)) else (if x139000 = 4 then (if x139002 ≥ 0 then (some (decide (x139002 ≤ 65535))) else (some false)) else (if x139000 = 5 then ((source_name.f x139003).bind fun t141 => (some t141)) else (some false)))))
def source_may.f (k : Nat) (a0_0 : Int) (a0_1 : ByteArray) (a0_2 : Int) (a0_3 : ByteArray) (a0_4 : Int) (l0_5 : List Int) : Option (Bool) := if a0_0 = 2 then ((source_instruction.f k a0_0 a0_1 a0_2 a0_3 a0_4 l0_5).bind fun t139 => (some t139)) else (if a0_4 = 0 then (if a0_0 = 1 then (if a0_0 = 4 then (if a0_0 = 5 then (if a0_0 = 3 then (source_may.j0 k false a0_0 a0_1 a0_2 a0_3 a0_4 l0_5) else (source_may.j0 k (decide ((l0_5.length : Int) > 0)) a0_0 a0_1 a0_2 a0_3 a0_4 l0_5)) else (if a0_3.toList = ([] : List UInt8) then (if a0_0 = 3 then (source_may.j0 k false a0_0 a0_1 a0_2 a0_3 a0_4 l0_5) else (source_may.j0 k (decide ((l0_5.length : Int) > 0)) a0_0 a0_1 a0_2 a0_3 a0_4 l0_5)) else (source_may.j0 k true a0_0 a0_1 a0_2 a0_3 a0_4 l0_5))) else (if a0_2 = 0 then (if a0_0 = 5 then (if a0_0 = 3 then (source_may.j0 k false a0_0 a0_1 a0_2 a0_3 a0_4 l0_5) else (source_may.j0 k (decide ((l0_5.length : Int) > 0)) a0_0 a0_1 a0_2 a0_3 a0_4 l0_5)) else (if a0_3.toList = ([] : List UInt8) then (if a0_0 = 3 then (source_may.j0 k false a0_0 a0_1 a0_2 a0_3 a0_4 l0_5) else (source_may.j0 k (decide ((l0_5.length : Int) > 0)) a0_0 a0_1 a0_2 a0_3 a0_4 l0_5)) else (source_may.j0 k true a0_0 a0_1 a0_2 a0_3 a0_4 l0_5))) else (source_may.j0 k true a0_0 a0_1 a0_2 a0_3 a0_4 l0_5))) else (if a0_1.toList = ([] : List UInt8) then (if a0_0 = 4 then (if a0_0 = 5 then (if a0_0 = 3 then (source_may.j0 k false a0_0 a0_1 a0_2 a0_3 a0_4 l0_5) else (source_may.j0 k (decide ((l0_5.length : Int) > 0)) a0_0 a0_1 a0_2 a0_3 a0_4 l0_5)) else (if a0_3.toList = ([] : List UInt8) then (if a0_0 = 3 then (source_may.j0 k false a0_0 a0_1 a0_2 a0_3 a0_4 l0_5) else (source_may.j0 k (decide ((l0_5.length : Int) > 0)) a0_0 a0_1 a0_2 a0_3 a0_4 l0_5)) else (source_may.j0 k true a0_0 a0_1 a0_2 a0_3 a0_4 l0_5))) else (if a0_2 = 0 then (if a0_0 = 5 then (if a0_0 = 3 then (source_may.j0 k false a0_0 a0_1 a0_2 a0_3 a0_4 l0_5) else (source_may.j0 k (decide ((l0_5.length : Int) > 0)) a0_0 a0_1 a0_2 a0_3 a0_4 l0_5)) else (if a0_3.toList = ([] : List UInt8) then (if a0_0 = 3 then (source_may.j0 k false a0_0 a0_1 a0_2 a0_3 a0_4 l0_5) else (source_may.j0 k (decide ((l0_5.length : Int) > 0)) a0_0 a0_1 a0_2 a0_3 a0_4 l0_5)) else (source_may.j0 k true a0_0 a0_1 a0_2 a0_3 a0_4 l0_5))) else (source_may.j0 k true a0_0 a0_1 a0_2 a0_3 a0_4 l0_5))) else (source_may.j0 k true a0_0 a0_1 a0_2 a0_3 a0_4 l0_5))) else (source_may.j0 k true a0_0 a0_1 a0_2 a0_3 a0_4 l0_5))
theorem source_may.mono_l : ∀ k, (∀ y0 y1 y2 y3 y4 y5 y6, LeO (source_may.j0 k y0 y1 y2 y3 y4 y5 y6) (source_may.j0 (k + 1) y0 y1 y2 y3 y4 y5 y6))
 | 0 => fun _ _ _ _ _ _ _ r h => by simp [source_may.j0] at h
 | k + 1 => by
  have ih0 := source_may.mono_l k
  ·intro y0 y1 y2 y3 y4 y5 y6
   unfold source_may.j0
   repeat' first
   | (with_reducible exact ih0 _ _ _ _ _ _ _)
   | (with_reducible exact source_instruction.mono _ _ _ _ _ _ _)
   | (with_reducible exact LeO.refl _)
   | (with_reducible exact LeO.none _)
   | (with_reducible refine LeO.ite ?_ ?_)
   | (with_reducible refine LeO.bind ?_ (fun _ => ?_))
   | exact ih0 _ _ _ _ _ _ _
   | exact source_instruction.mono _ _ _ _ _ _ _
   | exact LeO.none _
   | refine LeO.ite ?_ ?_
   | refine LeO.bind ?_ (fun _ => ?_)
theorem source_may.mono : ∀ a0 a1 a2 a3 a4 a5 k, LeO (source_may.f k a0 a1 a2 a3 a4 a5) (source_may.f (k + 1) a0 a1 a2 a3 a4 a5) := by
 intro a0 a1 a2 a3 a4 a5 k
 have ih0 := source_may.mono_l k
 unfold source_may.f
 repeat' first
  | (with_reducible exact ih0 _ _ _ _ _ _ _)
  | (with_reducible exact source_instruction.mono _ _ _ _ _ _ _)
  | (with_reducible exact LeO.refl _)
  | (with_reducible exact LeO.none _)
  | (with_reducible refine LeO.ite ?_ ?_)
  | (with_reducible refine LeO.bind ?_ (fun _ => ?_))
  | exact ih0 _ _ _ _ _ _ _
  | exact source_instruction.mono _ _ _ _ _ _ _
  | exact LeO.none _
  | refine LeO.ite ?_ ?_
  | refine LeO.bind ?_ (fun _ => ?_)
set_option maxHeartbeats 8000000 in
set_option maxRecDepth 100000 in
theorem source_may.calls (k : Nat) (a0_0 : Int) (a0_1 : ByteArray) (a0_2 : Int) (a0_3 : ByteArray) (a0_4 : Int) (A0_5 : Option Addr) (c0_5 : Nat) (l0_5 : List Int) (r : Bool) (w : World) (hr0_5 : Kd.C (Kd.int .u8) w A0_5 l0_5.length l0_5) (hc0_5 : l0_5.length ≤ c0_5) (h : source_may.f k a0_0 a0_1 a0_2 a0_3 a0_4 l0_5 = some r) (hG : GOk w := by first | exact HG.out | exact GOk.below HG.out HB.out | exact GOk.below HG.out (by repeat (first | (with_reducible first | exact HB.out | apply below_alloc | apply pw_below_drewN | apply below_drew1 | refine below_set ?_ (Aside0.out (by assumption))) | exact HB.out))) :
 Calls Tryd.prog 22 #[.agg #[.int .u8 a0_0, .string a0_1, .int .i64 a0_2, .string a0_3, .int .u8 a0_4, .slice A0_5 l0_5.length c0_5]] w fun e w' => e = .returned (.bool r) ∧ Below w.heap.size w w' := by
 have HG := Aside0.mk hG
 clear hG
 have hu43 := Tryd.underlying43
 have HR0_5 := Aside0.mk hr0_5
 have HC0_5 := Aside0.mk hc0_5
 clear hr0_5 hc0_5
 have HB := Aside0.mk (Below.refl w.heap.size w)
 have H : (if a0_0 = 2 then ((source_instruction.f k a0_0 a0_1 a0_2 a0_3 a0_4 l0_5).bind fun t139 => (some t139)) else (if a0_4 = 0 then (if a0_0 = 1 then (if a0_0 = 4 then (if a0_0 = 5 then (if a0_0 = 3 then (source_may.j0 k false a0_0 a0_1 a0_2 a0_3 a0_4 l0_5) else (source_may.j0 k (decide ((l0_5.length : Int) > 0)) a0_0 a0_1 a0_2 a0_3 a0_4 l0_5)) else (if a0_3.toList = ([] : List UInt8) then (if a0_0 = 3 then (source_may.j0 k false a0_0 a0_1 a0_2 a0_3 a0_4 l0_5) else (source_may.j0 k (decide ((l0_5.length : Int) > 0)) a0_0 a0_1 a0_2 a0_3 a0_4 l0_5)) else (source_may.j0 k true a0_0 a0_1 a0_2 a0_3 a0_4 l0_5))) else (if a0_2 = 0 then (if a0_0 = 5 then (if a0_0 = 3 then (source_may.j0 k false a0_0 a0_1 a0_2 a0_3 a0_4 l0_5) else (source_may.j0 k (decide ((l0_5.length : Int) > 0)) a0_0 a0_1 a0_2 a0_3 a0_4 l0_5)) else (if a0_3.toList = ([] : List UInt8) then (if a0_0 = 3 then (source_may.j0 k false a0_0 a0_1 a0_2 a0_3 a0_4 l0_5) else (source_may.j0 k (decide ((l0_5.length : Int) > 0)) a0_0 a0_1 a0_2 a0_3 a0_4 l0_5)) else (source_may.j0 k true a0_0 a0_1 a0_2 a0_3 a0_4 l0_5))) else (source_may.j0 k true a0_0 a0_1 a0_2 a0_3 a0_4 l0_5))) else (if a0_1.toList = ([] : List UInt8) then (if a0_0 = 4 then (if a0_0 = 5 then (if a0_0 = 3 then (source_may.j0 k false a0_0 a0_1 a0_2 a0_3 a0_4 l0_5) else (source_may.j0 k (decide ((l0_5.length : Int) > 0)) a0_0 a0_1 a0_2 a0_3 a0_4 l0_5)) else (if a0_3.toList = ([] : List UInt8) then (if a0_0 = 3 then (source_may.j0 k false a0_0 a0_1 a0_2 a0_3 a0_4 l0_5) else (source_may.j0 k (decide ((l0_5.length : Int) > 0)) a0_0 a0_1 a0_2 a0_3 a0_4 l0_5)) else (source_may.j0 k true a0_0 a0_1 a0_2 a0_3 a0_4 l0_5))) else (if a0_2 = 0 then (if a0_0 = 5 then (if a0_0 = 3 then (source_may.j0 k false a0_0 a0_1 a0_2 a0_3 a0_4 l0_5) else (source_may.j0 k (decide ((l0_5.length : Int) > 0)) a0_0 a0_1 a0_2 a0_3 a0_4 l0_5)) else (if a0_3.toList = ([] : List UInt8) then (if a0_0 = 3 then (source_may.j0 k false a0_0 a0_1 a0_2 a0_3 a0_4 l0_5) else (source_may.j0 k (decide ((l0_5.length : Int) > 0)) a0_0 a0_1 a0_2 a0_3 a0_4 l0_5)) else (source_may.j0 k true a0_0 a0_1 a0_2 a0_3 a0_4 l0_5))) else (source_may.j0 k true a0_0 a0_1 a0_2 a0_3 a0_4 l0_5))) else (source_may.j0 k true a0_0 a0_1 a0_2 a0_3 a0_4 l0_5))) else (source_may.j0 k true a0_0 a0_1 a0_2 a0_3 a0_4 l0_5))) = some r := h
 clear h
 by_cases c2 : a0_0 = 2
 ·rw [if_pos c2] at H
  have c2b0 : (a0_0 == 2) = true := beq_iff_eq.mpr c2
  have c2b1 : (a0_0 != 2) = false := bne_eq_false_iff_eq.mpr c2
  clear c2
  replace H := Option.bind_eq_some_iff.mp H
  obtain ⟨t139, A30, H⟩ := H
  replace H : (some t139) = some r := H
  have A3 := Aside0.mk A30
  clear A30
  obtain rfl := Option.some.inj H
  go_enter Tryd.func22, Tryd.ntmps22
  go_wp2_with (first | ((with_reducible refine gate_dst (N := 1) rfl ?_); (try (refine gate_guard (by rfl) ?_; dsimp only)); refine box_event ?hg (N := 1) ?hd (cs := #[.int .u8 a0_0, .string a0_1, .int .i64 a0_2, .string a0_3, .int .u8 a0_4, .slice A0_5 l0_5.length c0_5]) (t := 43) ?hr ?_; (case hd => rfl); (case hg => rfl); (case hr => first | (go_simp; done) | (go_simp; rfl)); intro gb138 hg w4 hbox hb; have n0_ := Aside0.mk (below_step (by repeat (first | (with_reducible first | exact HB.out | apply below_alloc | apply pw_below_drewN | apply below_drew1) | exact HB.out)) hb); have n1_ := Aside0.mk (hbox); have n2_ := Aside0.mk ((by rw [hg]; exact (below_size (by repeat (first | (with_reducible first | exact HB.out | apply below_alloc | apply pw_below_drewN | apply below_drew1) | exact HB.out))) : w.heap.size ≤ gb138)); have n3_ := Aside0.mk ((by rw [hg]; exact (below_size (by repeat (first | (with_reducible first | exact HB.out | apply below_alloc | apply pw_below_drewN | apply below_drew1) | exact HB.out))) : w.heap.size ≤ gb138)); clear HB; have HB := n0_; have BK138 := n1_; have GW138 := n2_; have GE138 := n3_; clear n0_ n1_ n2_ n3_; clear hb hbox hg; have hcz5_0 : w4.cell? ⟨gb138, 0, none⟩ = some (.int .u8 a0_0) := (blk_cell BK138.out 0).trans rfl; have hcz5_1 : w4.cell? ⟨gb138, 1, none⟩ = some (.string a0_1) := (blk_cell BK138.out 1).trans rfl; have hcz5_2 : w4.cell? ⟨gb138, 2, none⟩ = some (.int .i64 a0_2) := (blk_cell BK138.out 2).trans rfl; have hcz5_3 : w4.cell? ⟨gb138, 3, none⟩ = some (.string a0_3) := (blk_cell BK138.out 3).trans rfl; have hcz5_4 : w4.cell? ⟨gb138, 4, none⟩ = some (.int .u8 a0_4) := (blk_cell BK138.out 4).trans rfl; have hcz5_5 : w4.cell? ⟨gb138, 5, none⟩ = some (.slice A0_5 l0_5.length c0_5) := (blk_cell BK138.out 5).trans rfl; have hfz5_0 := blk_frozen BK138.out 0; have hfz5_1 := blk_frozen BK138.out 1; have hfz5_2 := blk_frozen BK138.out 2; have hfz5_3 := blk_frozen BK138.out 3; have hfz5_4 := blk_frozen BK138.out 4; have hfz5_5 := blk_frozen BK138.out 5) | ((with_reducible refine gate_callee (f := 36) rfl ?_); refine goesL_ (some 7) rfl rfl Tryd.func36 (by kernel_rfl) rfl #[.agg #[.int .u8 a0_0, .string a0_1, .int .i64 a0_2, .string a0_3, .int .u8 a0_4, .slice A0_5 l0_5.length c0_5]] rfl (by (try simp only [List.map_toArray, List.map_cons, List.map_nil]); first | done | rfl | (simp only [List.length_drop, List.length_take]; rfl)) ?_; (with_reducible refine (source_instruction.calls k a0_0 a0_1 a0_2 a0_3 a0_4 _ _ l0_5 t139 _ ?side1 ?side2 A3.out).mono ?_); (case side1 => repeat (first | exact (Kd.C_below HR0_5.out HB.out) | (with_reducible refine Kd.C_alloc ?_ _) | (with_reducible refine Kd.C_drewN ?_ _) | (with_reducible refine Kd.C_drew ?_))); (case side2 => exact HC0_5.out); rintro e w6 ⟨rfl, hb⟩; refine ⟨_, rfl, ?_⟩; have n0_ := Aside0.mk (blk_below (g := gb138) (o := .cells #[.int .u8 a0_0, .string a0_1, .int .i64 a0_2, .string a0_3, .int .u8 a0_4, .slice A0_5 l0_5.length c0_5] 43 (0, 0)) (by (with_reducible repeat (first | refine blk_drewN ?_ _ | refine blk_drew ?_ | refine blk_alloc ?_ _)); exact BK138.out) hb); have n1_ := Aside0.mk (below_step (by repeat (first | (with_reducible first | exact HB.out | apply below_alloc | apply pw_below_drewN | apply below_drew1 | refine below_set ?_ GE138.out) | exact HB.out)) hb); clear BK138; clear HB; have BK138 := n0_; have HB := n1_; clear n0_ n1_; (try clear hb); (try clear hb2); (try clear hk); (try clear hi)))
  go_ret
  exact ⟨by first | rfl | (simp [errW_none, errW_some] <;> rfl) | (simp [*, errW_none, errW_some] <;> rfl), by repeat (first | (with_reducible first | exact HB.out | apply below_alloc | apply pw_below_drewN | apply below_drew1 | refine below_set ?_ GE138.out) | exact HB.out)⟩
 ·rw [if_neg c2] at H
  have c2b0 : (a0_0 == 2) = false := beq_eq_false_iff_ne.mpr c2
  have c2b1 : (a0_0 != 2) = true := bne_iff_ne.mpr c2
  have HC7 := Aside0.mk H
  clear H
  go_enter Tryd.func22, Tryd.ntmps22
  go_upto_region 3 with (first | ((with_reducible refine gate_dst (N := 1) rfl ?_); (try (refine gate_guard (by rfl) ?_; dsimp only)); refine box_event ?hg (N := 1) ?hd (cs := #[.int .u8 a0_0, .string a0_1, .int .i64 a0_2, .string a0_3, .int .u8 a0_4, .slice A0_5 l0_5.length c0_5]) (t := 43) ?hr ?_; (case hd => rfl); (case hg => rfl); (case hr => first | (go_simp; done) | (go_simp; rfl)); intro gb138 hg w8 hbox hb; have n0_ := Aside0.mk (below_step (by repeat (first | (with_reducible first | exact HB.out | apply below_alloc | apply pw_below_drewN | apply below_drew1) | exact HB.out)) hb); have n1_ := Aside0.mk (hbox); have n2_ := Aside0.mk ((by rw [hg]; exact (below_size (by repeat (first | (with_reducible first | exact HB.out | apply below_alloc | apply pw_below_drewN | apply below_drew1) | exact HB.out))) : w.heap.size ≤ gb138)); have n3_ := Aside0.mk ((by rw [hg]; exact (below_size (by repeat (first | (with_reducible first | exact HB.out | apply below_alloc | apply pw_below_drewN | apply below_drew1) | exact HB.out))) : w.heap.size ≤ gb138)); clear HB; have HB := n0_; have BK138 := n1_; have GW138 := n2_; have GE138 := n3_; clear n0_ n1_ n2_ n3_; clear hb hbox hg; have hcz9_0 : w8.cell? ⟨gb138, 0, none⟩ = some (.int .u8 a0_0) := (blk_cell BK138.out 0).trans rfl; have hcz9_1 : w8.cell? ⟨gb138, 1, none⟩ = some (.string a0_1) := (blk_cell BK138.out 1).trans rfl; have hcz9_2 : w8.cell? ⟨gb138, 2, none⟩ = some (.int .i64 a0_2) := (blk_cell BK138.out 2).trans rfl; have hcz9_3 : w8.cell? ⟨gb138, 3, none⟩ = some (.string a0_3) := (blk_cell BK138.out 3).trans rfl; have hcz9_4 : w8.cell? ⟨gb138, 4, none⟩ = some (.int .u8 a0_4) := (blk_cell BK138.out 4).trans rfl; have hcz9_5 : w8.cell? ⟨gb138, 5, none⟩ = some (.slice A0_5 l0_5.length c0_5) := (blk_cell BK138.out 5).trans rfl; have hfz9_0 := blk_frozen BK138.out 0; have hfz9_1 := blk_frozen BK138.out 1; have hfz9_2 := blk_frozen BK138.out 2; have hfz9_3 := blk_frozen BK138.out 3; have hfz9_4 := blk_frozen BK138.out 4; have hfz9_5 := blk_frozen BK138.out 5))
  (try simp only [Act.put, List.setIfInBounds_toArray, List.set_cons_zero, List.set_cons_succ])
  go_cut [51] (fun v51 wc => ∃ (kq : Nat) (x51_6 : Bool), v51 = .bool x51_6 ∧ Aside0 (source_may.j0 kq x51_6 a0_0 a0_1 a0_2 a0_3 a0_4 l0_5 = some r) ∧ Aside0 (kq ≤ k) ∧ Aside0 (wc.heap[gb138]? = some (.cells #[.int .u8 a0_0, .string a0_1, .int .i64 a0_2, .string a0_3, .int .u8 a0_4, (.slice A0_5 l0_5.length c0_5)] 43 (0, 0))) ∧ Aside0 (Below w.heap.size w wc))
  case first =>
   have H := HC7.out
   clear HC7
   by_cases c10 : a0_4 = 0
   ·rw [if_pos c10] at H
    have c10b0 : (a0_4 == 0) = true := beq_iff_eq.mpr c10
    have c10b1 : (a0_4 != 0) = false := bne_eq_false_iff_eq.mpr c10
    clear c10
    (first | rw [c10b0] | (simp only [i64_w, i32_w]; rw [c10b0]) | skip)
    by_cases c11 : a0_0 = 1
    ·rw [if_pos c11] at H
     have c11b0 : (a0_0 == 1) = true := beq_iff_eq.mpr c11
     have c11b1 : (a0_0 != 1) = false := bne_eq_false_iff_eq.mpr c11
     clear c11
     by_cases c12 : a0_0 = 4
     ·rw [if_pos c12] at H
      have c12b0 : (a0_0 == 4) = true := beq_iff_eq.mpr c12
      have c12b1 : (a0_0 != 4) = false := bne_eq_false_iff_eq.mpr c12
      clear c12
      by_cases c13 : a0_0 = 5
      ·rw [if_pos c13] at H
       have c13b0 : (a0_0 == 5) = true := beq_iff_eq.mpr c13
       have c13b1 : (a0_0 != 5) = false := bne_eq_false_iff_eq.mpr c13
       clear c13
       by_cases c14 : a0_0 = 3
       ·rw [if_pos c14] at H
        have c14b0 : (a0_0 == 3) = true := beq_iff_eq.mpr c14
        have c14b1 : (a0_0 != 3) = false := bne_eq_false_iff_eq.mpr c14
        clear c14
        have H' := Aside0.mk H
        clear H
        have hcz15_0 : w8.cell? ⟨gb138, 0, none⟩ = some (.int .u8 a0_0) := (blk_cell BK138.out 0).trans rfl
        have hcz15_1 : w8.cell? ⟨gb138, 1, none⟩ = some (.string a0_1) := (blk_cell BK138.out 1).trans rfl
        have hcz15_2 : w8.cell? ⟨gb138, 2, none⟩ = some (.int .i64 a0_2) := (blk_cell BK138.out 2).trans rfl
        have hcz15_3 : w8.cell? ⟨gb138, 3, none⟩ = some (.string a0_3) := (blk_cell BK138.out 3).trans rfl
        have hcz15_4 : w8.cell? ⟨gb138, 4, none⟩ = some (.int .u8 a0_4) := (blk_cell BK138.out 4).trans rfl
        have hcz15_5 : w8.cell? ⟨gb138, 5, none⟩ = some (.slice A0_5 l0_5.length c0_5) := (blk_cell BK138.out 5).trans rfl
        have hfz15_0 := blk_frozen BK138.out 0
        have hfz15_1 := blk_frozen BK138.out 1
        have hfz15_2 := blk_frozen BK138.out 2
        have hfz15_3 := blk_frozen BK138.out 3
        have hfz15_4 := blk_frozen BK138.out 4
        have hfz15_5 := blk_frozen BK138.out 5
        go_wp2
        go_meet
        case rel => exact ⟨_, (false), (by first | rfl | (simp; done) | (simp [*]; done)), H', ⟨by first | omega | exact Nat.le_refl _⟩, ⟨by (with_reducible repeat (first | refine blk_drewN ?_ _ | refine blk_drew ?_ | refine blk_alloc ?_ _)); exact BK138.out⟩, ⟨by repeat (first | (with_reducible first | exact HB.out | apply below_alloc | apply pw_below_drewN | apply below_drew1 | refine below_set ?_ GE138.out) | exact HB.out)⟩⟩
       ·rw [if_neg c14] at H
        have c14b0 : (a0_0 == 3) = false := beq_eq_false_iff_ne.mpr c14
        have c14b1 : (a0_0 != 3) = true := bne_iff_ne.mpr c14
        have H' := Aside0.mk H
        clear H
        have hcz16_0 : w8.cell? ⟨gb138, 0, none⟩ = some (.int .u8 a0_0) := (blk_cell BK138.out 0).trans rfl
        have hcz16_1 : w8.cell? ⟨gb138, 1, none⟩ = some (.string a0_1) := (blk_cell BK138.out 1).trans rfl
        have hcz16_2 : w8.cell? ⟨gb138, 2, none⟩ = some (.int .i64 a0_2) := (blk_cell BK138.out 2).trans rfl
        have hcz16_3 : w8.cell? ⟨gb138, 3, none⟩ = some (.string a0_3) := (blk_cell BK138.out 3).trans rfl
        have hcz16_4 : w8.cell? ⟨gb138, 4, none⟩ = some (.int .u8 a0_4) := (blk_cell BK138.out 4).trans rfl
        have hcz16_5 : w8.cell? ⟨gb138, 5, none⟩ = some (.slice A0_5 l0_5.length c0_5) := (blk_cell BK138.out 5).trans rfl
        have hfz16_0 := blk_frozen BK138.out 0
        have hfz16_1 := blk_frozen BK138.out 1
        have hfz16_2 := blk_frozen BK138.out 2
        have hfz16_3 := blk_frozen BK138.out 3
        have hfz16_4 := blk_frozen BK138.out 4
        have hfz16_5 := blk_frozen BK138.out 5
        go_wp2
        go_meet
        case rel => exact ⟨_, (decide ((l0_5.length : Int) > 0)), (by first | rfl | (simp; done) | (simp [*]; done)), H', ⟨by first | omega | exact Nat.le_refl _⟩, ⟨by (with_reducible repeat (first | refine blk_drewN ?_ _ | refine blk_drew ?_ | refine blk_alloc ?_ _)); exact BK138.out⟩, ⟨by repeat (first | (with_reducible first | exact HB.out | apply below_alloc | apply pw_below_drewN | apply below_drew1 | refine below_set ?_ GE138.out) | exact HB.out)⟩⟩
      ·rw [if_neg c13] at H
       have c13b0 : (a0_0 == 5) = false := beq_eq_false_iff_ne.mpr c13
       have c13b1 : (a0_0 != 5) = true := bne_iff_ne.mpr c13
       by_cases c17 : a0_3.toList = ([] : List UInt8)
       ·rw [if_pos c17] at H
        have c17b0 : (a0_3.toList == ([] : List UInt8)) = true := beq_iff_eq.mpr c17
        have c17b1 : (a0_3.toList != ([] : List UInt8)) = false := bne_eq_false_iff_eq.mpr c17
        clear c17
        by_cases c18 : a0_0 = 3
        ·rw [if_pos c18] at H
         have c18b0 : (a0_0 == 3) = true := beq_iff_eq.mpr c18
         have c18b1 : (a0_0 != 3) = false := bne_eq_false_iff_eq.mpr c18
         clear c18
         have H' := Aside0.mk H
         clear H
         have hcz19_0 : w8.cell? ⟨gb138, 0, none⟩ = some (.int .u8 a0_0) := (blk_cell BK138.out 0).trans rfl
         have hcz19_1 : w8.cell? ⟨gb138, 1, none⟩ = some (.string a0_1) := (blk_cell BK138.out 1).trans rfl
         have hcz19_2 : w8.cell? ⟨gb138, 2, none⟩ = some (.int .i64 a0_2) := (blk_cell BK138.out 2).trans rfl
         have hcz19_3 : w8.cell? ⟨gb138, 3, none⟩ = some (.string a0_3) := (blk_cell BK138.out 3).trans rfl
         have hcz19_4 : w8.cell? ⟨gb138, 4, none⟩ = some (.int .u8 a0_4) := (blk_cell BK138.out 4).trans rfl
         have hcz19_5 : w8.cell? ⟨gb138, 5, none⟩ = some (.slice A0_5 l0_5.length c0_5) := (blk_cell BK138.out 5).trans rfl
         have hfz19_0 := blk_frozen BK138.out 0
         have hfz19_1 := blk_frozen BK138.out 1
         have hfz19_2 := blk_frozen BK138.out 2
         have hfz19_3 := blk_frozen BK138.out 3
         have hfz19_4 := blk_frozen BK138.out 4
         have hfz19_5 := blk_frozen BK138.out 5
         go_wp2
         go_meet
         case rel => exact ⟨_, (false), (by first | rfl | (simp; done) | (simp [*]; done)), H', ⟨by first | omega | exact Nat.le_refl _⟩, ⟨by (with_reducible repeat (first | refine blk_drewN ?_ _ | refine blk_drew ?_ | refine blk_alloc ?_ _)); exact BK138.out⟩, ⟨by repeat (first | (with_reducible first | exact HB.out | apply below_alloc | apply pw_below_drewN | apply below_drew1 | refine below_set ?_ GE138.out) | exact HB.out)⟩⟩
        ·rw [if_neg c18] at H
         have c18b0 : (a0_0 == 3) = false := beq_eq_false_iff_ne.mpr c18
         have c18b1 : (a0_0 != 3) = true := bne_iff_ne.mpr c18
         have H' := Aside0.mk H
         clear H
         have hcz20_0 : w8.cell? ⟨gb138, 0, none⟩ = some (.int .u8 a0_0) := (blk_cell BK138.out 0).trans rfl
         have hcz20_1 : w8.cell? ⟨gb138, 1, none⟩ = some (.string a0_1) := (blk_cell BK138.out 1).trans rfl
         have hcz20_2 : w8.cell? ⟨gb138, 2, none⟩ = some (.int .i64 a0_2) := (blk_cell BK138.out 2).trans rfl
         have hcz20_3 : w8.cell? ⟨gb138, 3, none⟩ = some (.string a0_3) := (blk_cell BK138.out 3).trans rfl
         have hcz20_4 : w8.cell? ⟨gb138, 4, none⟩ = some (.int .u8 a0_4) := (blk_cell BK138.out 4).trans rfl
         have hcz20_5 : w8.cell? ⟨gb138, 5, none⟩ = some (.slice A0_5 l0_5.length c0_5) := (blk_cell BK138.out 5).trans rfl
         have hfz20_0 := blk_frozen BK138.out 0
         have hfz20_1 := blk_frozen BK138.out 1
         have hfz20_2 := blk_frozen BK138.out 2
         have hfz20_3 := blk_frozen BK138.out 3
         have hfz20_4 := blk_frozen BK138.out 4
         have hfz20_5 := blk_frozen BK138.out 5
         go_wp2
         go_meet
         case rel => exact ⟨_, (decide ((l0_5.length : Int) > 0)), (by first | rfl | (simp; done) | (simp [*]; done)), H', ⟨by first | omega | exact Nat.le_refl _⟩, ⟨by (with_reducible repeat (first | refine blk_drewN ?_ _ | refine blk_drew ?_ | refine blk_alloc ?_ _)); exact BK138.out⟩, ⟨by repeat (first | (with_reducible first | exact HB.out | apply below_alloc | apply pw_below_drewN | apply below_drew1 | refine below_set ?_ GE138.out) | exact HB.out)⟩⟩
       ·rw [if_neg c17] at H
        have c17b0 : (a0_3.toList == ([] : List UInt8)) = false := beq_eq_false_iff_ne.mpr c17
        have c17b1 : (a0_3.toList != ([] : List UInt8)) = true := bne_iff_ne.mpr c17
        have H' := Aside0.mk H
        clear H
        have hcz21_0 : w8.cell? ⟨gb138, 0, none⟩ = some (.int .u8 a0_0) := (blk_cell BK138.out 0).trans rfl
        have hcz21_1 : w8.cell? ⟨gb138, 1, none⟩ = some (.string a0_1) := (blk_cell BK138.out 1).trans rfl
        have hcz21_2 : w8.cell? ⟨gb138, 2, none⟩ = some (.int .i64 a0_2) := (blk_cell BK138.out 2).trans rfl
        have hcz21_3 : w8.cell? ⟨gb138, 3, none⟩ = some (.string a0_3) := (blk_cell BK138.out 3).trans rfl
        have hcz21_4 : w8.cell? ⟨gb138, 4, none⟩ = some (.int .u8 a0_4) := (blk_cell BK138.out 4).trans rfl
        have hcz21_5 : w8.cell? ⟨gb138, 5, none⟩ = some (.slice A0_5 l0_5.length c0_5) := (blk_cell BK138.out 5).trans rfl
        have hfz21_0 := blk_frozen BK138.out 0
        have hfz21_1 := blk_frozen BK138.out 1
        have hfz21_2 := blk_frozen BK138.out 2
        have hfz21_3 := blk_frozen BK138.out 3
        have hfz21_4 := blk_frozen BK138.out 4
        have hfz21_5 := blk_frozen BK138.out 5
        go_wp2
        go_meet
        case rel => exact ⟨_, (true), (by first | rfl | (simp; done) | (simp [*]; done)), H', ⟨by first | omega | exact Nat.le_refl _⟩, ⟨by (with_reducible repeat (first | refine blk_drewN ?_ _ | refine blk_drew ?_ | refine blk_alloc ?_ _)); exact BK138.out⟩, ⟨by repeat (first | (with_reducible first | exact HB.out | apply below_alloc | apply pw_below_drewN | apply below_drew1 | refine below_set ?_ GE138.out) | exact HB.out)⟩⟩
     ·rw [if_neg c12] at H
      have c12b0 : (a0_0 == 4) = false := beq_eq_false_iff_ne.mpr c12
      have c12b1 : (a0_0 != 4) = true := bne_iff_ne.mpr c12
      by_cases c22 : a0_2 = 0
      ·rw [if_pos c22] at H
       have c22b0 : (a0_2 == 0) = true := beq_iff_eq.mpr c22
       have c22b1 : (a0_2 != 0) = false := bne_eq_false_iff_eq.mpr c22
       clear c22
       by_cases c23 : a0_0 = 5
       ·rw [if_pos c23] at H
        have c23b0 : (a0_0 == 5) = true := beq_iff_eq.mpr c23
        have c23b1 : (a0_0 != 5) = false := bne_eq_false_iff_eq.mpr c23
        clear c23
        by_cases c24 : a0_0 = 3
        ·rw [if_pos c24] at H
         have c24b0 : (a0_0 == 3) = true := beq_iff_eq.mpr c24
         have c24b1 : (a0_0 != 3) = false := bne_eq_false_iff_eq.mpr c24
         clear c24
         have H' := Aside0.mk H
         clear H
         have hcz25_0 : w8.cell? ⟨gb138, 0, none⟩ = some (.int .u8 a0_0) := (blk_cell BK138.out 0).trans rfl
         have hcz25_1 : w8.cell? ⟨gb138, 1, none⟩ = some (.string a0_1) := (blk_cell BK138.out 1).trans rfl
         have hcz25_2 : w8.cell? ⟨gb138, 2, none⟩ = some (.int .i64 a0_2) := (blk_cell BK138.out 2).trans rfl
         have hcz25_3 : w8.cell? ⟨gb138, 3, none⟩ = some (.string a0_3) := (blk_cell BK138.out 3).trans rfl
         have hcz25_4 : w8.cell? ⟨gb138, 4, none⟩ = some (.int .u8 a0_4) := (blk_cell BK138.out 4).trans rfl
         have hcz25_5 : w8.cell? ⟨gb138, 5, none⟩ = some (.slice A0_5 l0_5.length c0_5) := (blk_cell BK138.out 5).trans rfl
         have hfz25_0 := blk_frozen BK138.out 0
         have hfz25_1 := blk_frozen BK138.out 1
         have hfz25_2 := blk_frozen BK138.out 2
         have hfz25_3 := blk_frozen BK138.out 3
         have hfz25_4 := blk_frozen BK138.out 4
         have hfz25_5 := blk_frozen BK138.out 5
         go_wp2
         go_meet
         case rel => exact ⟨_, (false), (by first | rfl | (simp; done) | (simp [*]; done)), H', ⟨by first | omega | exact Nat.le_refl _⟩, ⟨by (with_reducible repeat (first | refine blk_drewN ?_ _ | refine blk_drew ?_ | refine blk_alloc ?_ _)); exact BK138.out⟩, ⟨by repeat (first | (with_reducible first | exact HB.out | apply below_alloc | apply pw_below_drewN | apply below_drew1 | refine below_set ?_ GE138.out) | exact HB.out)⟩⟩
        ·rw [if_neg c24] at H
         have c24b0 : (a0_0 == 3) = false := beq_eq_false_iff_ne.mpr c24
         have c24b1 : (a0_0 != 3) = true := bne_iff_ne.mpr c24
         have H' := Aside0.mk H
         clear H
         have hcz26_0 : w8.cell? ⟨gb138, 0, none⟩ = some (.int .u8 a0_0) := (blk_cell BK138.out 0).trans rfl
         have hcz26_1 : w8.cell? ⟨gb138, 1, none⟩ = some (.string a0_1) := (blk_cell BK138.out 1).trans rfl
         have hcz26_2 : w8.cell? ⟨gb138, 2, none⟩ = some (.int .i64 a0_2) := (blk_cell BK138.out 2).trans rfl
         have hcz26_3 : w8.cell? ⟨gb138, 3, none⟩ = some (.string a0_3) := (blk_cell BK138.out 3).trans rfl
         have hcz26_4 : w8.cell? ⟨gb138, 4, none⟩ = some (.int .u8 a0_4) := (blk_cell BK138.out 4).trans rfl
         have hcz26_5 : w8.cell? ⟨gb138, 5, none⟩ = some (.slice A0_5 l0_5.length c0_5) := (blk_cell BK138.out 5).trans rfl
         have hfz26_0 := blk_frozen BK138.out 0
         have hfz26_1 := blk_frozen BK138.out 1
         have hfz26_2 := blk_frozen BK138.out 2
         have hfz26_3 := blk_frozen BK138.out 3
         have hfz26_4 := blk_frozen BK138.out 4
         have hfz26_5 := blk_frozen BK138.out 5
         go_wp2
         go_meet
         case rel => exact ⟨_, (decide ((l0_5.length : Int) > 0)), (by first | rfl | (simp; done) | (simp [*]; done)), H', ⟨by first | omega | exact Nat.le_refl _⟩, ⟨by (with_reducible repeat (first | refine blk_drewN ?_ _ | refine blk_drew ?_ | refine blk_alloc ?_ _)); exact BK138.out⟩, ⟨by repeat (first | (with_reducible first | exact HB.out | apply below_alloc | apply pw_below_drewN | apply below_drew1 | refine below_set ?_ GE138.out) | exact HB.out)⟩⟩
       ·rw [if_neg c23] at H
        have c23b0 : (a0_0 == 5) = false := beq_eq_false_iff_ne.mpr c23
        have c23b1 : (a0_0 != 5) = true := bne_iff_ne.mpr c23
        by_cases c27 : a0_3.toList = ([] : List UInt8)
        ·rw [if_pos c27] at H
         have c27b0 : (a0_3.toList == ([] : List UInt8)) = true := beq_iff_eq.mpr c27
         have c27b1 : (a0_3.toList != ([] : List UInt8)) = false := bne_eq_false_iff_eq.mpr c27
         clear c27
         by_cases c28 : a0_0 = 3
         ·rw [if_pos c28] at H
          have c28b0 : (a0_0 == 3) = true := beq_iff_eq.mpr c28
          have c28b1 : (a0_0 != 3) = false := bne_eq_false_iff_eq.mpr c28
          clear c28
          have H' := Aside0.mk H
          clear H
          have hcz29_0 : w8.cell? ⟨gb138, 0, none⟩ = some (.int .u8 a0_0) := (blk_cell BK138.out 0).trans rfl
          have hcz29_1 : w8.cell? ⟨gb138, 1, none⟩ = some (.string a0_1) := (blk_cell BK138.out 1).trans rfl
          have hcz29_2 : w8.cell? ⟨gb138, 2, none⟩ = some (.int .i64 a0_2) := (blk_cell BK138.out 2).trans rfl
          have hcz29_3 : w8.cell? ⟨gb138, 3, none⟩ = some (.string a0_3) := (blk_cell BK138.out 3).trans rfl
          have hcz29_4 : w8.cell? ⟨gb138, 4, none⟩ = some (.int .u8 a0_4) := (blk_cell BK138.out 4).trans rfl
          have hcz29_5 : w8.cell? ⟨gb138, 5, none⟩ = some (.slice A0_5 l0_5.length c0_5) := (blk_cell BK138.out 5).trans rfl
          have hfz29_0 := blk_frozen BK138.out 0
          have hfz29_1 := blk_frozen BK138.out 1
          have hfz29_2 := blk_frozen BK138.out 2
          have hfz29_3 := blk_frozen BK138.out 3
          have hfz29_4 := blk_frozen BK138.out 4
          have hfz29_5 := blk_frozen BK138.out 5
          go_wp2
          go_meet
          case rel => exact ⟨_, (false), (by first | rfl | (simp; done) | (simp [*]; done)), H', ⟨by first | omega | exact Nat.le_refl _⟩, ⟨by (with_reducible repeat (first | refine blk_drewN ?_ _ | refine blk_drew ?_ | refine blk_alloc ?_ _)); exact BK138.out⟩, ⟨by repeat (first | (with_reducible first | exact HB.out | apply below_alloc | apply pw_below_drewN | apply below_drew1 | refine below_set ?_ GE138.out) | exact HB.out)⟩⟩
         ·rw [if_neg c28] at H
          have c28b0 : (a0_0 == 3) = false := beq_eq_false_iff_ne.mpr c28
          have c28b1 : (a0_0 != 3) = true := bne_iff_ne.mpr c28
          have H' := Aside0.mk H
          clear H
          have hcz30_0 : w8.cell? ⟨gb138, 0, none⟩ = some (.int .u8 a0_0) := (blk_cell BK138.out 0).trans rfl
          have hcz30_1 : w8.cell? ⟨gb138, 1, none⟩ = some (.string a0_1) := (blk_cell BK138.out 1).trans rfl
          have hcz30_2 : w8.cell? ⟨gb138, 2, none⟩ = some (.int .i64 a0_2) := (blk_cell BK138.out 2).trans rfl
          have hcz30_3 : w8.cell? ⟨gb138, 3, none⟩ = some (.string a0_3) := (blk_cell BK138.out 3).trans rfl
          have hcz30_4 : w8.cell? ⟨gb138, 4, none⟩ = some (.int .u8 a0_4) := (blk_cell BK138.out 4).trans rfl
          have hcz30_5 : w8.cell? ⟨gb138, 5, none⟩ = some (.slice A0_5 l0_5.length c0_5) := (blk_cell BK138.out 5).trans rfl
          have hfz30_0 := blk_frozen BK138.out 0
          have hfz30_1 := blk_frozen BK138.out 1
          have hfz30_2 := blk_frozen BK138.out 2
          have hfz30_3 := blk_frozen BK138.out 3
          have hfz30_4 := blk_frozen BK138.out 4
          have hfz30_5 := blk_frozen BK138.out 5
          go_wp2
          go_meet
          case rel => exact ⟨_, (decide ((l0_5.length : Int) > 0)), (by first | rfl | (simp; done) | (simp [*]; done)), H', ⟨by first | omega | exact Nat.le_refl _⟩, ⟨by (with_reducible repeat (first | refine blk_drewN ?_ _ | refine blk_drew ?_ | refine blk_alloc ?_ _)); exact BK138.out⟩, ⟨by repeat (first | (with_reducible first | exact HB.out | apply below_alloc | apply pw_below_drewN | apply below_drew1 | refine below_set ?_ GE138.out) | exact HB.out)⟩⟩
        ·rw [if_neg c27] at H
         have c27b0 : (a0_3.toList == ([] : List UInt8)) = false := beq_eq_false_iff_ne.mpr c27
         have c27b1 : (a0_3.toList != ([] : List UInt8)) = true := bne_iff_ne.mpr c27
         have H' := Aside0.mk H
         clear H
         have hcz31_0 : w8.cell? ⟨gb138, 0, none⟩ = some (.int .u8 a0_0) := (blk_cell BK138.out 0).trans rfl
         have hcz31_1 : w8.cell? ⟨gb138, 1, none⟩ = some (.string a0_1) := (blk_cell BK138.out 1).trans rfl
         have hcz31_2 : w8.cell? ⟨gb138, 2, none⟩ = some (.int .i64 a0_2) := (blk_cell BK138.out 2).trans rfl
         have hcz31_3 : w8.cell? ⟨gb138, 3, none⟩ = some (.string a0_3) := (blk_cell BK138.out 3).trans rfl
         have hcz31_4 : w8.cell? ⟨gb138, 4, none⟩ = some (.int .u8 a0_4) := (blk_cell BK138.out 4).trans rfl
         have hcz31_5 : w8.cell? ⟨gb138, 5, none⟩ = some (.slice A0_5 l0_5.length c0_5) := (blk_cell BK138.out 5).trans rfl
         have hfz31_0 := blk_frozen BK138.out 0
         have hfz31_1 := blk_frozen BK138.out 1
         have hfz31_2 := blk_frozen BK138.out 2
         have hfz31_3 := blk_frozen BK138.out 3
         have hfz31_4 := blk_frozen BK138.out 4
         have hfz31_5 := blk_frozen BK138.out 5
         go_wp2
         go_meet
         case rel => exact ⟨_, (true), (by first | rfl | (simp; done) | (simp [*]; done)), H', ⟨by first | omega | exact Nat.le_refl _⟩, ⟨by (with_reducible repeat (first | refine blk_drewN ?_ _ | refine blk_drew ?_ | refine blk_alloc ?_ _)); exact BK138.out⟩, ⟨by repeat (first | (with_reducible first | exact HB.out | apply below_alloc | apply pw_below_drewN | apply below_drew1 | refine below_set ?_ GE138.out) | exact HB.out)⟩⟩
      ·rw [if_neg c22] at H
       have c22b0 : (a0_2 == 0) = false := beq_eq_false_iff_ne.mpr c22
       have c22b1 : (a0_2 != 0) = true := bne_iff_ne.mpr c22
       have H' := Aside0.mk H
       clear H
       have hcz32_0 : w8.cell? ⟨gb138, 0, none⟩ = some (.int .u8 a0_0) := (blk_cell BK138.out 0).trans rfl
       have hcz32_1 : w8.cell? ⟨gb138, 1, none⟩ = some (.string a0_1) := (blk_cell BK138.out 1).trans rfl
       have hcz32_2 : w8.cell? ⟨gb138, 2, none⟩ = some (.int .i64 a0_2) := (blk_cell BK138.out 2).trans rfl
       have hcz32_3 : w8.cell? ⟨gb138, 3, none⟩ = some (.string a0_3) := (blk_cell BK138.out 3).trans rfl
       have hcz32_4 : w8.cell? ⟨gb138, 4, none⟩ = some (.int .u8 a0_4) := (blk_cell BK138.out 4).trans rfl
       have hcz32_5 : w8.cell? ⟨gb138, 5, none⟩ = some (.slice A0_5 l0_5.length c0_5) := (blk_cell BK138.out 5).trans rfl
       have hfz32_0 := blk_frozen BK138.out 0
       have hfz32_1 := blk_frozen BK138.out 1
       have hfz32_2 := blk_frozen BK138.out 2
       have hfz32_3 := blk_frozen BK138.out 3
       have hfz32_4 := blk_frozen BK138.out 4
       have hfz32_5 := blk_frozen BK138.out 5
       go_wp2
       go_meet
       case rel => exact ⟨_, (true), (by first | rfl | (simp; done) | (simp [*]; done)), H', ⟨by first | omega | exact Nat.le_refl _⟩, ⟨by (with_reducible repeat (first | refine blk_drewN ?_ _ | refine blk_drew ?_ | refine blk_alloc ?_ _)); exact BK138.out⟩, ⟨by repeat (first | (with_reducible first | exact HB.out | apply below_alloc | apply pw_below_drewN | apply below_drew1 | refine below_set ?_ GE138.out) | exact HB.out)⟩⟩
    ·rw [if_neg c11] at H
     have c11b0 : (a0_0 == 1) = false := beq_eq_false_iff_ne.mpr c11
     have c11b1 : (a0_0 != 1) = true := bne_iff_ne.mpr c11
     by_cases c33 : a0_1.toList = ([] : List UInt8)
     ·rw [if_pos c33] at H
      have c33b0 : (a0_1.toList == ([] : List UInt8)) = true := beq_iff_eq.mpr c33
      have c33b1 : (a0_1.toList != ([] : List UInt8)) = false := bne_eq_false_iff_eq.mpr c33
      clear c33
      by_cases c34 : a0_0 = 4
      ·rw [if_pos c34] at H
       have c34b0 : (a0_0 == 4) = true := beq_iff_eq.mpr c34
       have c34b1 : (a0_0 != 4) = false := bne_eq_false_iff_eq.mpr c34
       clear c34
       by_cases c35 : a0_0 = 5
       ·rw [if_pos c35] at H
        have c35b0 : (a0_0 == 5) = true := beq_iff_eq.mpr c35
        have c35b1 : (a0_0 != 5) = false := bne_eq_false_iff_eq.mpr c35
        clear c35
        by_cases c36 : a0_0 = 3
        ·rw [if_pos c36] at H
         have c36b0 : (a0_0 == 3) = true := beq_iff_eq.mpr c36
         have c36b1 : (a0_0 != 3) = false := bne_eq_false_iff_eq.mpr c36
         clear c36
         have H' := Aside0.mk H
         clear H
         have hcz37_0 : w8.cell? ⟨gb138, 0, none⟩ = some (.int .u8 a0_0) := (blk_cell BK138.out 0).trans rfl
         have hcz37_1 : w8.cell? ⟨gb138, 1, none⟩ = some (.string a0_1) := (blk_cell BK138.out 1).trans rfl
         have hcz37_2 : w8.cell? ⟨gb138, 2, none⟩ = some (.int .i64 a0_2) := (blk_cell BK138.out 2).trans rfl
         have hcz37_3 : w8.cell? ⟨gb138, 3, none⟩ = some (.string a0_3) := (blk_cell BK138.out 3).trans rfl
         have hcz37_4 : w8.cell? ⟨gb138, 4, none⟩ = some (.int .u8 a0_4) := (blk_cell BK138.out 4).trans rfl
         have hcz37_5 : w8.cell? ⟨gb138, 5, none⟩ = some (.slice A0_5 l0_5.length c0_5) := (blk_cell BK138.out 5).trans rfl
         have hfz37_0 := blk_frozen BK138.out 0
         have hfz37_1 := blk_frozen BK138.out 1
         have hfz37_2 := blk_frozen BK138.out 2
         have hfz37_3 := blk_frozen BK138.out 3
         have hfz37_4 := blk_frozen BK138.out 4
         have hfz37_5 := blk_frozen BK138.out 5
         go_wp2
         go_meet
         case rel => exact ⟨_, (false), (by first | rfl | (simp; done) | (simp [*]; done)), H', ⟨by first | omega | exact Nat.le_refl _⟩, ⟨by (with_reducible repeat (first | refine blk_drewN ?_ _ | refine blk_drew ?_ | refine blk_alloc ?_ _)); exact BK138.out⟩, ⟨by repeat (first | (with_reducible first | exact HB.out | apply below_alloc | apply pw_below_drewN | apply below_drew1 | refine below_set ?_ GE138.out) | exact HB.out)⟩⟩
        ·rw [if_neg c36] at H
         have c36b0 : (a0_0 == 3) = false := beq_eq_false_iff_ne.mpr c36
         have c36b1 : (a0_0 != 3) = true := bne_iff_ne.mpr c36
         have H' := Aside0.mk H
         clear H
         have hcz38_0 : w8.cell? ⟨gb138, 0, none⟩ = some (.int .u8 a0_0) := (blk_cell BK138.out 0).trans rfl
         have hcz38_1 : w8.cell? ⟨gb138, 1, none⟩ = some (.string a0_1) := (blk_cell BK138.out 1).trans rfl
         have hcz38_2 : w8.cell? ⟨gb138, 2, none⟩ = some (.int .i64 a0_2) := (blk_cell BK138.out 2).trans rfl
         have hcz38_3 : w8.cell? ⟨gb138, 3, none⟩ = some (.string a0_3) := (blk_cell BK138.out 3).trans rfl
         have hcz38_4 : w8.cell? ⟨gb138, 4, none⟩ = some (.int .u8 a0_4) := (blk_cell BK138.out 4).trans rfl
         have hcz38_5 : w8.cell? ⟨gb138, 5, none⟩ = some (.slice A0_5 l0_5.length c0_5) := (blk_cell BK138.out 5).trans rfl
         have hfz38_0 := blk_frozen BK138.out 0
         have hfz38_1 := blk_frozen BK138.out 1
         have hfz38_2 := blk_frozen BK138.out 2
         have hfz38_3 := blk_frozen BK138.out 3
         have hfz38_4 := blk_frozen BK138.out 4
         have hfz38_5 := blk_frozen BK138.out 5
         go_wp2
         go_meet
         case rel => exact ⟨_, (decide ((l0_5.length : Int) > 0)), (by first | rfl | (simp; done) | (simp [*]; done)), H', ⟨by first | omega | exact Nat.le_refl _⟩, ⟨by (with_reducible repeat (first | refine blk_drewN ?_ _ | refine blk_drew ?_ | refine blk_alloc ?_ _)); exact BK138.out⟩, ⟨by repeat (first | (with_reducible first | exact HB.out | apply below_alloc | apply pw_below_drewN | apply below_drew1 | refine below_set ?_ GE138.out) | exact HB.out)⟩⟩
       ·rw [if_neg c35] at H
        have c35b0 : (a0_0 == 5) = false := beq_eq_false_iff_ne.mpr c35
        have c35b1 : (a0_0 != 5) = true := bne_iff_ne.mpr c35
        by_cases c39 : a0_3.toList = ([] : List UInt8)
        ·rw [if_pos c39] at H
         have c39b0 : (a0_3.toList == ([] : List UInt8)) = true := beq_iff_eq.mpr c39
         have c39b1 : (a0_3.toList != ([] : List UInt8)) = false := bne_eq_false_iff_eq.mpr c39
         clear c39
         by_cases c40 : a0_0 = 3
         ·rw [if_pos c40] at H
          have c40b0 : (a0_0 == 3) = true := beq_iff_eq.mpr c40
          have c40b1 : (a0_0 != 3) = false := bne_eq_false_iff_eq.mpr c40
          clear c40
          have H' := Aside0.mk H
          clear H
          have hcz41_0 : w8.cell? ⟨gb138, 0, none⟩ = some (.int .u8 a0_0) := (blk_cell BK138.out 0).trans rfl
          have hcz41_1 : w8.cell? ⟨gb138, 1, none⟩ = some (.string a0_1) := (blk_cell BK138.out 1).trans rfl
          have hcz41_2 : w8.cell? ⟨gb138, 2, none⟩ = some (.int .i64 a0_2) := (blk_cell BK138.out 2).trans rfl
          have hcz41_3 : w8.cell? ⟨gb138, 3, none⟩ = some (.string a0_3) := (blk_cell BK138.out 3).trans rfl
          have hcz41_4 : w8.cell? ⟨gb138, 4, none⟩ = some (.int .u8 a0_4) := (blk_cell BK138.out 4).trans rfl
          have hcz41_5 : w8.cell? ⟨gb138, 5, none⟩ = some (.slice A0_5 l0_5.length c0_5) := (blk_cell BK138.out 5).trans rfl
          have hfz41_0 := blk_frozen BK138.out 0
          have hfz41_1 := blk_frozen BK138.out 1
          have hfz41_2 := blk_frozen BK138.out 2
          have hfz41_3 := blk_frozen BK138.out 3
          have hfz41_4 := blk_frozen BK138.out 4
          have hfz41_5 := blk_frozen BK138.out 5
          go_wp2
          go_meet
          case rel => exact ⟨_, (false), (by first | rfl | (simp; done) | (simp [*]; done)), H', ⟨by first | omega | exact Nat.le_refl _⟩, ⟨by (with_reducible repeat (first | refine blk_drewN ?_ _ | refine blk_drew ?_ | refine blk_alloc ?_ _)); exact BK138.out⟩, ⟨by repeat (first | (with_reducible first | exact HB.out | apply below_alloc | apply pw_below_drewN | apply below_drew1 | refine below_set ?_ GE138.out) | exact HB.out)⟩⟩
         ·rw [if_neg c40] at H
          have c40b0 : (a0_0 == 3) = false := beq_eq_false_iff_ne.mpr c40
          have c40b1 : (a0_0 != 3) = true := bne_iff_ne.mpr c40
          have H' := Aside0.mk H
          clear H
          have hcz42_0 : w8.cell? ⟨gb138, 0, none⟩ = some (.int .u8 a0_0) := (blk_cell BK138.out 0).trans rfl
          have hcz42_1 : w8.cell? ⟨gb138, 1, none⟩ = some (.string a0_1) := (blk_cell BK138.out 1).trans rfl
          have hcz42_2 : w8.cell? ⟨gb138, 2, none⟩ = some (.int .i64 a0_2) := (blk_cell BK138.out 2).trans rfl
          have hcz42_3 : w8.cell? ⟨gb138, 3, none⟩ = some (.string a0_3) := (blk_cell BK138.out 3).trans rfl
          have hcz42_4 : w8.cell? ⟨gb138, 4, none⟩ = some (.int .u8 a0_4) := (blk_cell BK138.out 4).trans rfl
          have hcz42_5 : w8.cell? ⟨gb138, 5, none⟩ = some (.slice A0_5 l0_5.length c0_5) := (blk_cell BK138.out 5).trans rfl
          have hfz42_0 := blk_frozen BK138.out 0
          have hfz42_1 := blk_frozen BK138.out 1
          have hfz42_2 := blk_frozen BK138.out 2
          have hfz42_3 := blk_frozen BK138.out 3
          have hfz42_4 := blk_frozen BK138.out 4
          have hfz42_5 := blk_frozen BK138.out 5
          go_wp2
          go_meet
          case rel => exact ⟨_, (decide ((l0_5.length : Int) > 0)), (by first | rfl | (simp; done) | (simp [*]; done)), H', ⟨by first | omega | exact Nat.le_refl _⟩, ⟨by (with_reducible repeat (first | refine blk_drewN ?_ _ | refine blk_drew ?_ | refine blk_alloc ?_ _)); exact BK138.out⟩, ⟨by repeat (first | (with_reducible first | exact HB.out | apply below_alloc | apply pw_below_drewN | apply below_drew1 | refine below_set ?_ GE138.out) | exact HB.out)⟩⟩
        ·rw [if_neg c39] at H
         have c39b0 : (a0_3.toList == ([] : List UInt8)) = false := beq_eq_false_iff_ne.mpr c39
         have c39b1 : (a0_3.toList != ([] : List UInt8)) = true := bne_iff_ne.mpr c39
         have H' := Aside0.mk H
         clear H
         have hcz43_0 : w8.cell? ⟨gb138, 0, none⟩ = some (.int .u8 a0_0) := (blk_cell BK138.out 0).trans rfl
         have hcz43_1 : w8.cell? ⟨gb138, 1, none⟩ = some (.string a0_1) := (blk_cell BK138.out 1).trans rfl
         have hcz43_2 : w8.cell? ⟨gb138, 2, none⟩ = some (.int .i64 a0_2) := (blk_cell BK138.out 2).trans rfl
         have hcz43_3 : w8.cell? ⟨gb138, 3, none⟩ = some (.string a0_3) := (blk_cell BK138.out 3).trans rfl
         have hcz43_4 : w8.cell? ⟨gb138, 4, none⟩ = some (.int .u8 a0_4) := (blk_cell BK138.out 4).trans rfl
         have hcz43_5 : w8.cell? ⟨gb138, 5, none⟩ = some (.slice A0_5 l0_5.length c0_5) := (blk_cell BK138.out 5).trans rfl
         have hfz43_0 := blk_frozen BK138.out 0
         have hfz43_1 := blk_frozen BK138.out 1
         have hfz43_2 := blk_frozen BK138.out 2
         have hfz43_3 := blk_frozen BK138.out 3
         have hfz43_4 := blk_frozen BK138.out 4
         have hfz43_5 := blk_frozen BK138.out 5
         go_wp2
         go_meet
         case rel => exact ⟨_, (true), (by first | rfl | (simp; done) | (simp [*]; done)), H', ⟨by first | omega | exact Nat.le_refl _⟩, ⟨by (with_reducible repeat (first | refine blk_drewN ?_ _ | refine blk_drew ?_ | refine blk_alloc ?_ _)); exact BK138.out⟩, ⟨by repeat (first | (with_reducible first | exact HB.out | apply below_alloc | apply pw_below_drewN | apply below_drew1 | refine below_set ?_ GE138.out) | exact HB.out)⟩⟩
      ·rw [if_neg c34] at H
       have c34b0 : (a0_0 == 4) = false := beq_eq_false_iff_ne.mpr c34
       have c34b1 : (a0_0 != 4) = true := bne_iff_ne.mpr c34
       by_cases c44 : a0_2 = 0
       ·rw [if_pos c44] at H
        have c44b0 : (a0_2 == 0) = true := beq_iff_eq.mpr c44
        have c44b1 : (a0_2 != 0) = false := bne_eq_false_iff_eq.mpr c44
        clear c44
        by_cases c45 : a0_0 = 5
        ·rw [if_pos c45] at H
         have c45b0 : (a0_0 == 5) = true := beq_iff_eq.mpr c45
         have c45b1 : (a0_0 != 5) = false := bne_eq_false_iff_eq.mpr c45
         clear c45
         by_cases c46 : a0_0 = 3
         ·rw [if_pos c46] at H
          have c46b0 : (a0_0 == 3) = true := beq_iff_eq.mpr c46
          have c46b1 : (a0_0 != 3) = false := bne_eq_false_iff_eq.mpr c46
          clear c46
          have H' := Aside0.mk H
          clear H
          have hcz47_0 : w8.cell? ⟨gb138, 0, none⟩ = some (.int .u8 a0_0) := (blk_cell BK138.out 0).trans rfl
          have hcz47_1 : w8.cell? ⟨gb138, 1, none⟩ = some (.string a0_1) := (blk_cell BK138.out 1).trans rfl
          have hcz47_2 : w8.cell? ⟨gb138, 2, none⟩ = some (.int .i64 a0_2) := (blk_cell BK138.out 2).trans rfl
          have hcz47_3 : w8.cell? ⟨gb138, 3, none⟩ = some (.string a0_3) := (blk_cell BK138.out 3).trans rfl
          have hcz47_4 : w8.cell? ⟨gb138, 4, none⟩ = some (.int .u8 a0_4) := (blk_cell BK138.out 4).trans rfl
          have hcz47_5 : w8.cell? ⟨gb138, 5, none⟩ = some (.slice A0_5 l0_5.length c0_5) := (blk_cell BK138.out 5).trans rfl
          have hfz47_0 := blk_frozen BK138.out 0
          have hfz47_1 := blk_frozen BK138.out 1
          have hfz47_2 := blk_frozen BK138.out 2
          have hfz47_3 := blk_frozen BK138.out 3
          have hfz47_4 := blk_frozen BK138.out 4
          have hfz47_5 := blk_frozen BK138.out 5
          go_wp2
          go_meet
          case rel => exact ⟨_, (false), (by first | rfl | (simp; done) | (simp [*]; done)), H', ⟨by first | omega | exact Nat.le_refl _⟩, ⟨by (with_reducible repeat (first | refine blk_drewN ?_ _ | refine blk_drew ?_ | refine blk_alloc ?_ _)); exact BK138.out⟩, ⟨by repeat (first | (with_reducible first | exact HB.out | apply below_alloc | apply pw_below_drewN | apply below_drew1 | refine below_set ?_ GE138.out) | exact HB.out)⟩⟩
         ·rw [if_neg c46] at H
          have c46b0 : (a0_0 == 3) = false := beq_eq_false_iff_ne.mpr c46
          have c46b1 : (a0_0 != 3) = true := bne_iff_ne.mpr c46
          have H' := Aside0.mk H
          clear H
          have hcz48_0 : w8.cell? ⟨gb138, 0, none⟩ = some (.int .u8 a0_0) := (blk_cell BK138.out 0).trans rfl
          have hcz48_1 : w8.cell? ⟨gb138, 1, none⟩ = some (.string a0_1) := (blk_cell BK138.out 1).trans rfl
          have hcz48_2 : w8.cell? ⟨gb138, 2, none⟩ = some (.int .i64 a0_2) := (blk_cell BK138.out 2).trans rfl
          have hcz48_3 : w8.cell? ⟨gb138, 3, none⟩ = some (.string a0_3) := (blk_cell BK138.out 3).trans rfl
          have hcz48_4 : w8.cell? ⟨gb138, 4, none⟩ = some (.int .u8 a0_4) := (blk_cell BK138.out 4).trans rfl
          have hcz48_5 : w8.cell? ⟨gb138, 5, none⟩ = some (.slice A0_5 l0_5.length c0_5) := (blk_cell BK138.out 5).trans rfl
          have hfz48_0 := blk_frozen BK138.out 0
          have hfz48_1 := blk_frozen BK138.out 1
          have hfz48_2 := blk_frozen BK138.out 2
          have hfz48_3 := blk_frozen BK138.out 3
          have hfz48_4 := blk_frozen BK138.out 4
          have hfz48_5 := blk_frozen BK138.out 5
          go_wp2
          go_meet
          case rel => exact ⟨_, (decide ((l0_5.length : Int) > 0)), (by first | rfl | (simp; done) | (simp [*]; done)), H', ⟨by first | omega | exact Nat.le_refl _⟩, ⟨by (with_reducible repeat (first | refine blk_drewN ?_ _ | refine blk_drew ?_ | refine blk_alloc ?_ _)); exact BK138.out⟩, ⟨by repeat (first | (with_reducible first | exact HB.out | apply below_alloc | apply pw_below_drewN | apply below_drew1 | refine below_set ?_ GE138.out) | exact HB.out)⟩⟩
        ·rw [if_neg c45] at H
         have c45b0 : (a0_0 == 5) = false := beq_eq_false_iff_ne.mpr c45
         have c45b1 : (a0_0 != 5) = true := bne_iff_ne.mpr c45
         by_cases c49 : a0_3.toList = ([] : List UInt8)
         ·rw [if_pos c49] at H
          have c49b0 : (a0_3.toList == ([] : List UInt8)) = true := beq_iff_eq.mpr c49
          have c49b1 : (a0_3.toList != ([] : List UInt8)) = false := bne_eq_false_iff_eq.mpr c49
          clear c49
          by_cases c50 : a0_0 = 3
          ·rw [if_pos c50] at H
           have c50b0 : (a0_0 == 3) = true := beq_iff_eq.mpr c50
           have c50b1 : (a0_0 != 3) = false := bne_eq_false_iff_eq.mpr c50
           clear c50
           have H' := Aside0.mk H
           clear H
           have hcz51_0 : w8.cell? ⟨gb138, 0, none⟩ = some (.int .u8 a0_0) := (blk_cell BK138.out 0).trans rfl
           have hcz51_1 : w8.cell? ⟨gb138, 1, none⟩ = some (.string a0_1) := (blk_cell BK138.out 1).trans rfl
           have hcz51_2 : w8.cell? ⟨gb138, 2, none⟩ = some (.int .i64 a0_2) := (blk_cell BK138.out 2).trans rfl
           have hcz51_3 : w8.cell? ⟨gb138, 3, none⟩ = some (.string a0_3) := (blk_cell BK138.out 3).trans rfl
           have hcz51_4 : w8.cell? ⟨gb138, 4, none⟩ = some (.int .u8 a0_4) := (blk_cell BK138.out 4).trans rfl
           have hcz51_5 : w8.cell? ⟨gb138, 5, none⟩ = some (.slice A0_5 l0_5.length c0_5) := (blk_cell BK138.out 5).trans rfl
           have hfz51_0 := blk_frozen BK138.out 0
           have hfz51_1 := blk_frozen BK138.out 1
           have hfz51_2 := blk_frozen BK138.out 2
           have hfz51_3 := blk_frozen BK138.out 3
           have hfz51_4 := blk_frozen BK138.out 4
           have hfz51_5 := blk_frozen BK138.out 5
           go_wp2
           go_meet
           case rel => exact ⟨_, (false), (by first | rfl | (simp; done) | (simp [*]; done)), H', ⟨by first | omega | exact Nat.le_refl _⟩, ⟨by (with_reducible repeat (first | refine blk_drewN ?_ _ | refine blk_drew ?_ | refine blk_alloc ?_ _)); exact BK138.out⟩, ⟨by repeat (first | (with_reducible first | exact HB.out | apply below_alloc | apply pw_below_drewN | apply below_drew1 | refine below_set ?_ GE138.out) | exact HB.out)⟩⟩
          ·rw [if_neg c50] at H
           have c50b0 : (a0_0 == 3) = false := beq_eq_false_iff_ne.mpr c50
           have c50b1 : (a0_0 != 3) = true := bne_iff_ne.mpr c50
           have H' := Aside0.mk H
           clear H
           have hcz52_0 : w8.cell? ⟨gb138, 0, none⟩ = some (.int .u8 a0_0) := (blk_cell BK138.out 0).trans rfl
           have hcz52_1 : w8.cell? ⟨gb138, 1, none⟩ = some (.string a0_1) := (blk_cell BK138.out 1).trans rfl
           have hcz52_2 : w8.cell? ⟨gb138, 2, none⟩ = some (.int .i64 a0_2) := (blk_cell BK138.out 2).trans rfl
           have hcz52_3 : w8.cell? ⟨gb138, 3, none⟩ = some (.string a0_3) := (blk_cell BK138.out 3).trans rfl
           have hcz52_4 : w8.cell? ⟨gb138, 4, none⟩ = some (.int .u8 a0_4) := (blk_cell BK138.out 4).trans rfl
           have hcz52_5 : w8.cell? ⟨gb138, 5, none⟩ = some (.slice A0_5 l0_5.length c0_5) := (blk_cell BK138.out 5).trans rfl
           have hfz52_0 := blk_frozen BK138.out 0
           have hfz52_1 := blk_frozen BK138.out 1
           have hfz52_2 := blk_frozen BK138.out 2
           have hfz52_3 := blk_frozen BK138.out 3
           have hfz52_4 := blk_frozen BK138.out 4
           have hfz52_5 := blk_frozen BK138.out 5
           go_wp2
           go_meet
           case rel => exact ⟨_, (decide ((l0_5.length : Int) > 0)), (by first | rfl | (simp; done) | (simp [*]; done)), H', ⟨by first | omega | exact Nat.le_refl _⟩, ⟨by (with_reducible repeat (first | refine blk_drewN ?_ _ | refine blk_drew ?_ | refine blk_alloc ?_ _)); exact BK138.out⟩, ⟨by repeat (first | (with_reducible first | exact HB.out | apply below_alloc | apply pw_below_drewN | apply below_drew1 | refine below_set ?_ GE138.out) | exact HB.out)⟩⟩
         ·rw [if_neg c49] at H
          have c49b0 : (a0_3.toList == ([] : List UInt8)) = false := beq_eq_false_iff_ne.mpr c49
          have c49b1 : (a0_3.toList != ([] : List UInt8)) = true := bne_iff_ne.mpr c49
          have H' := Aside0.mk H
          clear H
          have hcz53_0 : w8.cell? ⟨gb138, 0, none⟩ = some (.int .u8 a0_0) := (blk_cell BK138.out 0).trans rfl
          have hcz53_1 : w8.cell? ⟨gb138, 1, none⟩ = some (.string a0_1) := (blk_cell BK138.out 1).trans rfl
          have hcz53_2 : w8.cell? ⟨gb138, 2, none⟩ = some (.int .i64 a0_2) := (blk_cell BK138.out 2).trans rfl
          have hcz53_3 : w8.cell? ⟨gb138, 3, none⟩ = some (.string a0_3) := (blk_cell BK138.out 3).trans rfl
          have hcz53_4 : w8.cell? ⟨gb138, 4, none⟩ = some (.int .u8 a0_4) := (blk_cell BK138.out 4).trans rfl
          have hcz53_5 : w8.cell? ⟨gb138, 5, none⟩ = some (.slice A0_5 l0_5.length c0_5) := (blk_cell BK138.out 5).trans rfl
          have hfz53_0 := blk_frozen BK138.out 0
          have hfz53_1 := blk_frozen BK138.out 1
          have hfz53_2 := blk_frozen BK138.out 2
          have hfz53_3 := blk_frozen BK138.out 3
          have hfz53_4 := blk_frozen BK138.out 4
          have hfz53_5 := blk_frozen BK138.out 5
          go_wp2
          go_meet
          case rel => exact ⟨_, (true), (by first | rfl | (simp; done) | (simp [*]; done)), H', ⟨by first | omega | exact Nat.le_refl _⟩, ⟨by (with_reducible repeat (first | refine blk_drewN ?_ _ | refine blk_drew ?_ | refine blk_alloc ?_ _)); exact BK138.out⟩, ⟨by repeat (first | (with_reducible first | exact HB.out | apply below_alloc | apply pw_below_drewN | apply below_drew1 | refine below_set ?_ GE138.out) | exact HB.out)⟩⟩
       ·rw [if_neg c44] at H
        have c44b0 : (a0_2 == 0) = false := beq_eq_false_iff_ne.mpr c44
        have c44b1 : (a0_2 != 0) = true := bne_iff_ne.mpr c44
        have H' := Aside0.mk H
        clear H
        have hcz54_0 : w8.cell? ⟨gb138, 0, none⟩ = some (.int .u8 a0_0) := (blk_cell BK138.out 0).trans rfl
        have hcz54_1 : w8.cell? ⟨gb138, 1, none⟩ = some (.string a0_1) := (blk_cell BK138.out 1).trans rfl
        have hcz54_2 : w8.cell? ⟨gb138, 2, none⟩ = some (.int .i64 a0_2) := (blk_cell BK138.out 2).trans rfl
        have hcz54_3 : w8.cell? ⟨gb138, 3, none⟩ = some (.string a0_3) := (blk_cell BK138.out 3).trans rfl
        have hcz54_4 : w8.cell? ⟨gb138, 4, none⟩ = some (.int .u8 a0_4) := (blk_cell BK138.out 4).trans rfl
        have hcz54_5 : w8.cell? ⟨gb138, 5, none⟩ = some (.slice A0_5 l0_5.length c0_5) := (blk_cell BK138.out 5).trans rfl
        have hfz54_0 := blk_frozen BK138.out 0
        have hfz54_1 := blk_frozen BK138.out 1
        have hfz54_2 := blk_frozen BK138.out 2
        have hfz54_3 := blk_frozen BK138.out 3
        have hfz54_4 := blk_frozen BK138.out 4
        have hfz54_5 := blk_frozen BK138.out 5
        go_wp2
        go_meet
        case rel => exact ⟨_, (true), (by first | rfl | (simp; done) | (simp [*]; done)), H', ⟨by first | omega | exact Nat.le_refl _⟩, ⟨by (with_reducible repeat (first | refine blk_drewN ?_ _ | refine blk_drew ?_ | refine blk_alloc ?_ _)); exact BK138.out⟩, ⟨by repeat (first | (with_reducible first | exact HB.out | apply below_alloc | apply pw_below_drewN | apply below_drew1 | refine below_set ?_ GE138.out) | exact HB.out)⟩⟩
     ·rw [if_neg c33] at H
      have c33b0 : (a0_1.toList == ([] : List UInt8)) = false := beq_eq_false_iff_ne.mpr c33
      have c33b1 : (a0_1.toList != ([] : List UInt8)) = true := bne_iff_ne.mpr c33
      have H' := Aside0.mk H
      clear H
      have hcz55_0 : w8.cell? ⟨gb138, 0, none⟩ = some (.int .u8 a0_0) := (blk_cell BK138.out 0).trans rfl
      have hcz55_1 : w8.cell? ⟨gb138, 1, none⟩ = some (.string a0_1) := (blk_cell BK138.out 1).trans rfl
      have hcz55_2 : w8.cell? ⟨gb138, 2, none⟩ = some (.int .i64 a0_2) := (blk_cell BK138.out 2).trans rfl
      have hcz55_3 : w8.cell? ⟨gb138, 3, none⟩ = some (.string a0_3) := (blk_cell BK138.out 3).trans rfl
      have hcz55_4 : w8.cell? ⟨gb138, 4, none⟩ = some (.int .u8 a0_4) := (blk_cell BK138.out 4).trans rfl
      have hcz55_5 : w8.cell? ⟨gb138, 5, none⟩ = some (.slice A0_5 l0_5.length c0_5) := (blk_cell BK138.out 5).trans rfl
      have hfz55_0 := blk_frozen BK138.out 0
      have hfz55_1 := blk_frozen BK138.out 1
      have hfz55_2 := blk_frozen BK138.out 2
      have hfz55_3 := blk_frozen BK138.out 3
      have hfz55_4 := blk_frozen BK138.out 4
      have hfz55_5 := blk_frozen BK138.out 5
      go_wp2
      go_meet
      case rel => exact ⟨_, (true), (by first | rfl | (simp; done) | (simp [*]; done)), H', ⟨by first | omega | exact Nat.le_refl _⟩, ⟨by (with_reducible repeat (first | refine blk_drewN ?_ _ | refine blk_drew ?_ | refine blk_alloc ?_ _)); exact BK138.out⟩, ⟨by repeat (first | (with_reducible first | exact HB.out | apply below_alloc | apply pw_below_drewN | apply below_drew1 | refine below_set ?_ GE138.out) | exact HB.out)⟩⟩
   ·rw [if_neg c10] at H
    have c10b0 : (a0_4 == 0) = false := beq_eq_false_iff_ne.mpr c10
    have c10b1 : (a0_4 != 0) = true := bne_iff_ne.mpr c10
    (first | rw [c10b0] | (simp only [i64_w, i32_w]; rw [c10b0]) | skip)
    have H' := Aside0.mk H
    clear H
    have hcz56_0 : w8.cell? ⟨gb138, 0, none⟩ = some (.int .u8 a0_0) := (blk_cell BK138.out 0).trans rfl
    have hcz56_1 : w8.cell? ⟨gb138, 1, none⟩ = some (.string a0_1) := (blk_cell BK138.out 1).trans rfl
    have hcz56_2 : w8.cell? ⟨gb138, 2, none⟩ = some (.int .i64 a0_2) := (blk_cell BK138.out 2).trans rfl
    have hcz56_3 : w8.cell? ⟨gb138, 3, none⟩ = some (.string a0_3) := (blk_cell BK138.out 3).trans rfl
    have hcz56_4 : w8.cell? ⟨gb138, 4, none⟩ = some (.int .u8 a0_4) := (blk_cell BK138.out 4).trans rfl
    have hcz56_5 : w8.cell? ⟨gb138, 5, none⟩ = some (.slice A0_5 l0_5.length c0_5) := (blk_cell BK138.out 5).trans rfl
    have hfz56_0 := blk_frozen BK138.out 0
    have hfz56_1 := blk_frozen BK138.out 1
    have hfz56_2 := blk_frozen BK138.out 2
    have hfz56_3 := blk_frozen BK138.out 3
    have hfz56_4 := blk_frozen BK138.out 4
    have hfz56_5 := blk_frozen BK138.out 5
    go_wp2
    go_meet
    case rel => exact ⟨_, (true), (by first | rfl | (simp; done) | (simp [*]; done)), H', ⟨by first | omega | exact Nat.le_refl _⟩, ⟨by (with_reducible repeat (first | refine blk_drewN ?_ _ | refine blk_drew ?_ | refine blk_alloc ?_ _)); exact BK138.out⟩, ⟨by repeat (first | (with_reducible first | exact HB.out | apply below_alloc | apply pw_below_drewN | apply below_drew1 | refine below_set ?_ GE138.out) | exact HB.out)⟩⟩
  case rest =>
   clear HC7
   try clear c1
   try clear c2
   try clear p2
   try clear c3
   try clear c4
   try clear c5
   try clear c10
   try clear c10b0
   try clear c10b1
   try clear c11
   try clear c11b0
   try clear c11b1
   try clear c12
   try clear c12b0
   try clear c12b1
   try clear c13
   try clear c13b0
   try clear c13b1
   try clear c14
   try clear c14b0
   try clear c14b1
   try clear c17
   try clear c17b0
   try clear c17b1
   try clear c18
   try clear c18b0
   try clear c18b1
   try clear c22
   try clear c22b0
   try clear c22b1
   try clear c23
   try clear c23b0
   try clear c23b1
   try clear c24
   try clear c24b0
   try clear c24b1
   try clear c27
   try clear c27b0
   try clear c27b1
   try clear c28
   try clear c28b0
   try clear c28b1
   try clear c33
   try clear c33b0
   try clear c33b1
   try clear c34
   try clear c34b0
   try clear c34b1
   try clear c35
   try clear c35b0
   try clear c35b1
   try clear c36
   try clear c36b0
   try clear c36b1
   try clear c39
   try clear c39b0
   try clear c39b1
   try clear c40
   try clear c40b0
   try clear c40b1
   try clear c44
   try clear c44b0
   try clear c44b1
   try clear c45
   try clear c45b0
   try clear c45b1
   try clear c46
   try clear c46b0
   try clear c46b1
   try clear c49
   try clear c49b0
   try clear c49b1
   try clear c50
   try clear c50b0
   try clear c50b1
   try clear hcz15_0
   try clear hcz15_1
   try clear hcz15_2
   try clear hcz15_3
   try clear hcz15_4
   try clear hcz15_5
   try clear hcz16_0
   try clear hcz16_1
   try clear hcz16_2
   try clear hcz16_3
   try clear hcz16_4
   try clear hcz16_5
   try clear hcz19_0
   try clear hcz19_1
   try clear hcz19_2
   try clear hcz19_3
   try clear hcz19_4
   try clear hcz19_5
   try clear hcz20_0
   try clear hcz20_1
   try clear hcz20_2
   try clear hcz20_3
   try clear hcz20_4
   try clear hcz20_5
   try clear hcz21_0
   try clear hcz21_1
   try clear hcz21_2
   try clear hcz21_3
   try clear hcz21_4
   try clear hcz21_5
   try clear hcz25_0
   try clear hcz25_1
   try clear hcz25_2
   try clear hcz25_3
   try clear hcz25_4
   try clear hcz25_5
   try clear hcz26_0
   try clear hcz26_1
   try clear hcz26_2
   try clear hcz26_3
   try clear hcz26_4
   try clear hcz26_5
   try clear hcz29_0
   try clear hcz29_1
   try clear hcz29_2
   try clear hcz29_3
   try clear hcz29_4
   try clear hcz29_5
   try clear hcz30_0
   try clear hcz30_1
   try clear hcz30_2
   try clear hcz30_3
   try clear hcz30_4
   try clear hcz30_5
   try clear hcz31_0
   try clear hcz31_1
   try clear hcz31_2
   try clear hcz31_3
   try clear hcz31_4
   try clear hcz31_5
   try clear hcz32_0
   try clear hcz32_1
   try clear hcz32_2
   try clear hcz32_3
   try clear hcz32_4
   try clear hcz32_5
   try clear hcz37_0
   try clear hcz37_1
   try clear hcz37_2
   try clear hcz37_3
   try clear hcz37_4
   try clear hcz37_5
   try clear hcz38_0
   try clear hcz38_1
   try clear hcz38_2
   try clear hcz38_3
   try clear hcz38_4
   try clear hcz38_5
   try clear hcz41_0
   try clear hcz41_1
   try clear hcz41_2
   try clear hcz41_3
   try clear hcz41_4
   try clear hcz41_5
   try clear hcz42_0
   try clear hcz42_1
   try clear hcz42_2
   try clear hcz42_3
   try clear hcz42_4
   try clear hcz42_5
   try clear hcz43_0
   try clear hcz43_1
   try clear hcz43_2
   try clear hcz43_3
   try clear hcz43_4
   try clear hcz43_5
   try clear hcz47_0
   try clear hcz47_1
   try clear hcz47_2
   try clear hcz47_3
   try clear hcz47_4
   try clear hcz47_5
   try clear hcz48_0
   try clear hcz48_1
   try clear hcz48_2
   try clear hcz48_3
   try clear hcz48_4
   try clear hcz48_5
   try clear hcz51_0
   try clear hcz51_1
   try clear hcz51_2
   try clear hcz51_3
   try clear hcz51_4
   try clear hcz51_5
   try clear hcz52_0
   try clear hcz52_1
   try clear hcz52_2
   try clear hcz52_3
   try clear hcz52_4
   try clear hcz52_5
   try clear hcz53_0
   try clear hcz53_1
   try clear hcz53_2
   try clear hcz53_3
   try clear hcz53_4
   try clear hcz53_5
   try clear hcz54_0
   try clear hcz54_1
   try clear hcz54_2
   try clear hcz54_3
   try clear hcz54_4
   try clear hcz54_5
   try clear hcz55_0
   try clear hcz55_1
   try clear hcz55_2
   try clear hcz55_3
   try clear hcz55_4
   try clear hcz55_5
   try clear hcz56_0
   try clear hcz56_1
   try clear hcz56_2
   try clear hcz56_3
   try clear hcz56_4
   try clear hcz56_5
   try clear hfz15_0
   try clear hfz15_1
   try clear hfz15_2
   try clear hfz15_3
   try clear hfz15_4
   try clear hfz15_5
   try clear hfz16_0
   try clear hfz16_1
   try clear hfz16_2
   try clear hfz16_3
   try clear hfz16_4
   try clear hfz16_5
   try clear hfz19_0
   try clear hfz19_1
   try clear hfz19_2
   try clear hfz19_3
   try clear hfz19_4
   try clear hfz19_5
   try clear hfz20_0
   try clear hfz20_1
   try clear hfz20_2
   try clear hfz20_3
   try clear hfz20_4
   try clear hfz20_5
   try clear hfz21_0
   try clear hfz21_1
   try clear hfz21_2
   try clear hfz21_3
   try clear hfz21_4
   try clear hfz21_5
   try clear hfz25_0
   try clear hfz25_1
   try clear hfz25_2
   try clear hfz25_3
   try clear hfz25_4
   try clear hfz25_5
   try clear hfz26_0
   try clear hfz26_1
   try clear hfz26_2
   try clear hfz26_3
   try clear hfz26_4
   try clear hfz26_5
   try clear hfz29_0
   try clear hfz29_1
   try clear hfz29_2
   try clear hfz29_3
   try clear hfz29_4
   try clear hfz29_5
   try clear hfz30_0
   try clear hfz30_1
   try clear hfz30_2
   try clear hfz30_3
   try clear hfz30_4
   try clear hfz30_5
   try clear hfz31_0
   try clear hfz31_1
   try clear hfz31_2
   try clear hfz31_3
   try clear hfz31_4
   try clear hfz31_5
   try clear hfz32_0
   try clear hfz32_1
   try clear hfz32_2
   try clear hfz32_3
   try clear hfz32_4
   try clear hfz32_5
   try clear hfz37_0
   try clear hfz37_1
   try clear hfz37_2
   try clear hfz37_3
   try clear hfz37_4
   try clear hfz37_5
   try clear hfz38_0
   try clear hfz38_1
   try clear hfz38_2
   try clear hfz38_3
   try clear hfz38_4
   try clear hfz38_5
   try clear hfz41_0
   try clear hfz41_1
   try clear hfz41_2
   try clear hfz41_3
   try clear hfz41_4
   try clear hfz41_5
   try clear hfz42_0
   try clear hfz42_1
   try clear hfz42_2
   try clear hfz42_3
   try clear hfz42_4
   try clear hfz42_5
   try clear hfz43_0
   try clear hfz43_1
   try clear hfz43_2
   try clear hfz43_3
   try clear hfz43_4
   try clear hfz43_5
   try clear hfz47_0
   try clear hfz47_1
   try clear hfz47_2
   try clear hfz47_3
   try clear hfz47_4
   try clear hfz47_5
   try clear hfz48_0
   try clear hfz48_1
   try clear hfz48_2
   try clear hfz48_3
   try clear hfz48_4
   try clear hfz48_5
   try clear hfz51_0
   try clear hfz51_1
   try clear hfz51_2
   try clear hfz51_3
   try clear hfz51_4
   try clear hfz51_5
   try clear hfz52_0
   try clear hfz52_1
   try clear hfz52_2
   try clear hfz52_3
   try clear hfz52_4
   try clear hfz52_5
   try clear hfz53_0
   try clear hfz53_1
   try clear hfz53_2
   try clear hfz53_3
   try clear hfz53_4
   try clear hfz53_5
   try clear hfz54_0
   try clear hfz54_1
   try clear hfz54_2
   try clear hfz54_3
   try clear hfz54_4
   try clear hfz54_5
   try clear hfz55_0
   try clear hfz55_1
   try clear hfz55_2
   try clear hfz55_3
   try clear hfz55_4
   try clear hfz55_5
   try clear hfz56_0
   try clear hfz56_1
   try clear hfz56_2
   try clear hfz56_3
   try clear hfz56_4
   try clear hfz56_5
   obtain ⟨kq, x51_6, rfl, HA, HJ6, BK138, HB⟩ := hcut
   cases kq with
   | zero => exact absurd HA.out (by simp [source_may.j0])
   | succ kj6 =>
    have H := HA.out
    clear HA
    simp only [source_may.j0] at H
    by_cases c57 : x51_6 = true
    ·subst c57
     have H1 : (some false) = some r := by rw [if_pos rfl] at H; exact H
     clear H
     have H := H1
     clear H1
     obtain rfl := Option.some.inj H
     go_wp2
     go_ret
     exact ⟨by first | rfl | (simp [errW_none, errW_some] <;> rfl) | (simp [*, errW_none, errW_some] <;> rfl), by repeat (first | (with_reducible first | exact HB.out | apply below_alloc | apply pw_below_drewN | apply below_drew1 | refine below_set ?_ GE138.out) | exact HB.out)⟩
    ·replace c57 := Bool.eq_false_iff.mpr c57
     subst c57
     have H1 : (if a0_0 = 1 then ((source_name.f a0_1).bind fun t140 => (some t140)) else (if a0_0 = 3 then (if (l0_5.length : Int) ≥ 1 then (some (decide ((l0_5.length : Int) ≤ 256))) else (some false)) else (if a0_0 = 4 then (if a0_2 ≥ 0 then (some (decide (a0_2 ≤ 65535))) else (some false)) else (if a0_0 = 5 then ((source_name.f a0_3).bind fun t141 => (some t141)) else (some false))))) = some r := by rw [if_neg (show ¬ (false = true) by decide)] at H; exact H
     clear H
     have H := H1
     clear H1
     by_cases c58 : a0_0 = 1
     ·rw [if_pos c58] at H
      have c58b0 : (a0_0 == 1) = true := beq_iff_eq.mpr c58
      have c58b1 : (a0_0 != 1) = false := bne_eq_false_iff_eq.mpr c58
      clear c58
      replace H := Option.bind_eq_some_iff.mp H
      obtain ⟨t140, A590, H⟩ := H
      replace H : (some t140) = some r := H
      have A59 := Aside0.mk A590
      clear A590
      obtain rfl := Option.some.inj H
      have hcz60_0 : wc.cell? ⟨gb138, 0, none⟩ = some (.int .u8 a0_0) := (blk_cell BK138.out 0).trans rfl
      have hcz60_1 : wc.cell? ⟨gb138, 1, none⟩ = some (.string a0_1) := (blk_cell BK138.out 1).trans rfl
      have hcz60_2 : wc.cell? ⟨gb138, 2, none⟩ = some (.int .i64 a0_2) := (blk_cell BK138.out 2).trans rfl
      have hcz60_3 : wc.cell? ⟨gb138, 3, none⟩ = some (.string a0_3) := (blk_cell BK138.out 3).trans rfl
      have hcz60_4 : wc.cell? ⟨gb138, 4, none⟩ = some (.int .u8 a0_4) := (blk_cell BK138.out 4).trans rfl
      have hcz60_5 : wc.cell? ⟨gb138, 5, none⟩ = some (.slice A0_5 l0_5.length c0_5) := (blk_cell BK138.out 5).trans rfl
      have hfz60_0 := blk_frozen BK138.out 0
      have hfz60_1 := blk_frozen BK138.out 1
      have hfz60_2 := blk_frozen BK138.out 2
      have hfz60_3 := blk_frozen BK138.out 3
      have hfz60_4 := blk_frozen BK138.out 4
      have hfz60_5 := blk_frozen BK138.out 5
      go_wp2_with (first | ((with_reducible refine gate_callee (f := 37) rfl ?_); refine goesL_ (some 58) rfl rfl Tryd.func37 (by kernel_rfl) rfl #[.string a0_1] rfl (by (try simp only [List.map_toArray, List.map_cons, List.map_nil]); first | done | rfl | (simp only [List.length_drop, List.length_take]; rfl)) ?_; (with_reducible refine (source_name.calls a0_1 t140 _ A59.out).mono ?_); rintro e w61 ⟨rfl, hb⟩; refine ⟨_, rfl, ?_⟩; have n0_ := Aside0.mk (blk_below (g := gb138) (o := .cells #[.int .u8 a0_0, .string a0_1, .int .i64 a0_2, .string a0_3, .int .u8 a0_4, .slice A0_5 l0_5.length c0_5] 43 (0, 0)) (by (with_reducible repeat (first | refine blk_drewN ?_ _ | refine blk_drew ?_ | refine blk_alloc ?_ _)); exact BK138.out) hb); have n1_ := Aside0.mk (below_step (by repeat (first | (with_reducible first | exact HB.out | apply below_alloc | apply pw_below_drewN | apply below_drew1 | refine below_set ?_ GE138.out) | exact HB.out)) hb); clear BK138; clear HB; have BK138 := n0_; have HB := n1_; clear n0_ n1_; (try clear hb); (try clear hb2); (try clear hk); (try clear hi)))
      go_ret
      exact ⟨by first | rfl | (simp [errW_none, errW_some] <;> rfl) | (simp [*, errW_none, errW_some] <;> rfl), by repeat (first | (with_reducible first | exact HB.out | apply below_alloc | apply pw_below_drewN | apply below_drew1 | refine below_set ?_ GE138.out) | exact HB.out)⟩
     ·rw [if_neg c58] at H
      have c58b0 : (a0_0 == 1) = false := beq_eq_false_iff_ne.mpr c58
      have c58b1 : (a0_0 != 1) = true := bne_iff_ne.mpr c58
      by_cases c62 : a0_0 = 3
      ·rw [if_pos c62] at H
       have c62b0 : (a0_0 == 3) = true := beq_iff_eq.mpr c62
       have c62b1 : (a0_0 != 3) = false := bne_eq_false_iff_eq.mpr c62
       clear c62
       by_cases c63 : (l0_5.length : Int) ≥ 1
       ·rw [if_pos c63] at H
        have c63b0 : decide (1 ≤ (l0_5.length : Int)) = true := decide_eq_true c63
        have c63b1 : decide (1 ≤ l0_5.length) = true := decide_eq_true (by omega)
        clear c63
        obtain rfl := Option.some.inj H
        have hcz64_0 : wc.cell? ⟨gb138, 0, none⟩ = some (.int .u8 a0_0) := (blk_cell BK138.out 0).trans rfl
        have hcz64_1 : wc.cell? ⟨gb138, 1, none⟩ = some (.string a0_1) := (blk_cell BK138.out 1).trans rfl
        have hcz64_2 : wc.cell? ⟨gb138, 2, none⟩ = some (.int .i64 a0_2) := (blk_cell BK138.out 2).trans rfl
        have hcz64_3 : wc.cell? ⟨gb138, 3, none⟩ = some (.string a0_3) := (blk_cell BK138.out 3).trans rfl
        have hcz64_4 : wc.cell? ⟨gb138, 4, none⟩ = some (.int .u8 a0_4) := (blk_cell BK138.out 4).trans rfl
        have hcz64_5 : wc.cell? ⟨gb138, 5, none⟩ = some (.slice A0_5 l0_5.length c0_5) := (blk_cell BK138.out 5).trans rfl
        have hfz64_0 := blk_frozen BK138.out 0
        have hfz64_1 := blk_frozen BK138.out 1
        have hfz64_2 := blk_frozen BK138.out 2
        have hfz64_3 := blk_frozen BK138.out 3
        have hfz64_4 := blk_frozen BK138.out 4
        have hfz64_5 := blk_frozen BK138.out 5
        go_wp2
        go_ret
        exact ⟨by first | rfl | (simp [errW_none, errW_some] <;> rfl) | (simp [*, errW_none, errW_some] <;> rfl), by repeat (first | (with_reducible first | exact HB.out | apply below_alloc | apply pw_below_drewN | apply below_drew1 | refine below_set ?_ GE138.out) | exact HB.out)⟩
       ·rw [if_neg c63] at H
        have c63b0 : decide (1 ≤ (l0_5.length : Int)) = false := decide_eq_false c63
        have c63b1 : decide (1 ≤ l0_5.length) = false := decide_eq_false (by omega)
        clear c63
        obtain rfl := Option.some.inj H
        have hcz65_0 : wc.cell? ⟨gb138, 0, none⟩ = some (.int .u8 a0_0) := (blk_cell BK138.out 0).trans rfl
        have hcz65_1 : wc.cell? ⟨gb138, 1, none⟩ = some (.string a0_1) := (blk_cell BK138.out 1).trans rfl
        have hcz65_2 : wc.cell? ⟨gb138, 2, none⟩ = some (.int .i64 a0_2) := (blk_cell BK138.out 2).trans rfl
        have hcz65_3 : wc.cell? ⟨gb138, 3, none⟩ = some (.string a0_3) := (blk_cell BK138.out 3).trans rfl
        have hcz65_4 : wc.cell? ⟨gb138, 4, none⟩ = some (.int .u8 a0_4) := (blk_cell BK138.out 4).trans rfl
        have hcz65_5 : wc.cell? ⟨gb138, 5, none⟩ = some (.slice A0_5 l0_5.length c0_5) := (blk_cell BK138.out 5).trans rfl
        have hfz65_0 := blk_frozen BK138.out 0
        have hfz65_1 := blk_frozen BK138.out 1
        have hfz65_2 := blk_frozen BK138.out 2
        have hfz65_3 := blk_frozen BK138.out 3
        have hfz65_4 := blk_frozen BK138.out 4
        have hfz65_5 := blk_frozen BK138.out 5
        go_wp2
        go_ret
        exact ⟨by first | rfl | (simp [errW_none, errW_some] <;> rfl) | (simp [*, errW_none, errW_some] <;> rfl), by repeat (first | (with_reducible first | exact HB.out | apply below_alloc | apply pw_below_drewN | apply below_drew1 | refine below_set ?_ GE138.out) | exact HB.out)⟩
      ·rw [if_neg c62] at H
       have c62b0 : (a0_0 == 3) = false := beq_eq_false_iff_ne.mpr c62
       have c62b1 : (a0_0 != 3) = true := bne_iff_ne.mpr c62
       by_cases c66 : a0_0 = 4
       ·rw [if_pos c66] at H
        have c66b0 : (a0_0 == 4) = true := beq_iff_eq.mpr c66
        have c66b1 : (a0_0 != 4) = false := bne_eq_false_iff_eq.mpr c66
        clear c66
        by_cases c67 : a0_2 ≥ 0
        ·rw [if_pos c67] at H
         have c67b0 : decide (0 ≤ a0_2) = true := decide_eq_true c67
         clear c67
         obtain rfl := Option.some.inj H
         have hcz68_0 : wc.cell? ⟨gb138, 0, none⟩ = some (.int .u8 a0_0) := (blk_cell BK138.out 0).trans rfl
         have hcz68_1 : wc.cell? ⟨gb138, 1, none⟩ = some (.string a0_1) := (blk_cell BK138.out 1).trans rfl
         have hcz68_2 : wc.cell? ⟨gb138, 2, none⟩ = some (.int .i64 a0_2) := (blk_cell BK138.out 2).trans rfl
         have hcz68_3 : wc.cell? ⟨gb138, 3, none⟩ = some (.string a0_3) := (blk_cell BK138.out 3).trans rfl
         have hcz68_4 : wc.cell? ⟨gb138, 4, none⟩ = some (.int .u8 a0_4) := (blk_cell BK138.out 4).trans rfl
         have hcz68_5 : wc.cell? ⟨gb138, 5, none⟩ = some (.slice A0_5 l0_5.length c0_5) := (blk_cell BK138.out 5).trans rfl
         have hfz68_0 := blk_frozen BK138.out 0
         have hfz68_1 := blk_frozen BK138.out 1
         have hfz68_2 := blk_frozen BK138.out 2
         have hfz68_3 := blk_frozen BK138.out 3
         have hfz68_4 := blk_frozen BK138.out 4
         have hfz68_5 := blk_frozen BK138.out 5
         go_wp2
         go_ret
         exact ⟨by first | rfl | (simp [errW_none, errW_some] <;> rfl) | (simp [*, errW_none, errW_some] <;> rfl), by repeat (first | (with_reducible first | exact HB.out | apply below_alloc | apply pw_below_drewN | apply below_drew1 | refine below_set ?_ GE138.out) | exact HB.out)⟩
        ·rw [if_neg c67] at H
         have c67b0 : decide (0 ≤ a0_2) = false := decide_eq_false c67
         clear c67
         obtain rfl := Option.some.inj H
         have hcz69_0 : wc.cell? ⟨gb138, 0, none⟩ = some (.int .u8 a0_0) := (blk_cell BK138.out 0).trans rfl
         have hcz69_1 : wc.cell? ⟨gb138, 1, none⟩ = some (.string a0_1) := (blk_cell BK138.out 1).trans rfl
         have hcz69_2 : wc.cell? ⟨gb138, 2, none⟩ = some (.int .i64 a0_2) := (blk_cell BK138.out 2).trans rfl
         have hcz69_3 : wc.cell? ⟨gb138, 3, none⟩ = some (.string a0_3) := (blk_cell BK138.out 3).trans rfl
         have hcz69_4 : wc.cell? ⟨gb138, 4, none⟩ = some (.int .u8 a0_4) := (blk_cell BK138.out 4).trans rfl
         have hcz69_5 : wc.cell? ⟨gb138, 5, none⟩ = some (.slice A0_5 l0_5.length c0_5) := (blk_cell BK138.out 5).trans rfl
         have hfz69_0 := blk_frozen BK138.out 0
         have hfz69_1 := blk_frozen BK138.out 1
         have hfz69_2 := blk_frozen BK138.out 2
         have hfz69_3 := blk_frozen BK138.out 3
         have hfz69_4 := blk_frozen BK138.out 4
         have hfz69_5 := blk_frozen BK138.out 5
         go_wp2
         go_ret
         exact ⟨by first | rfl | (simp [errW_none, errW_some] <;> rfl) | (simp [*, errW_none, errW_some] <;> rfl), by repeat (first | (with_reducible first | exact HB.out | apply below_alloc | apply pw_below_drewN | apply below_drew1 | refine below_set ?_ GE138.out) | exact HB.out)⟩
       ·rw [if_neg c66] at H
        have c66b0 : (a0_0 == 4) = false := beq_eq_false_iff_ne.mpr c66
        have c66b1 : (a0_0 != 4) = true := bne_iff_ne.mpr c66
        by_cases c70 : a0_0 = 5
        ·rw [if_pos c70] at H
         have c70b0 : (a0_0 == 5) = true := beq_iff_eq.mpr c70
         have c70b1 : (a0_0 != 5) = false := bne_eq_false_iff_eq.mpr c70
         clear c70
         replace H := Option.bind_eq_some_iff.mp H
         obtain ⟨t141, A710, H⟩ := H
         replace H : (some t141) = some r := H
         have A71 := Aside0.mk A710
         clear A710
         obtain rfl := Option.some.inj H
         have hcz72_0 : wc.cell? ⟨gb138, 0, none⟩ = some (.int .u8 a0_0) := (blk_cell BK138.out 0).trans rfl
         have hcz72_1 : wc.cell? ⟨gb138, 1, none⟩ = some (.string a0_1) := (blk_cell BK138.out 1).trans rfl
         have hcz72_2 : wc.cell? ⟨gb138, 2, none⟩ = some (.int .i64 a0_2) := (blk_cell BK138.out 2).trans rfl
         have hcz72_3 : wc.cell? ⟨gb138, 3, none⟩ = some (.string a0_3) := (blk_cell BK138.out 3).trans rfl
         have hcz72_4 : wc.cell? ⟨gb138, 4, none⟩ = some (.int .u8 a0_4) := (blk_cell BK138.out 4).trans rfl
         have hcz72_5 : wc.cell? ⟨gb138, 5, none⟩ = some (.slice A0_5 l0_5.length c0_5) := (blk_cell BK138.out 5).trans rfl
         have hfz72_0 := blk_frozen BK138.out 0
         have hfz72_1 := blk_frozen BK138.out 1
         have hfz72_2 := blk_frozen BK138.out 2
         have hfz72_3 := blk_frozen BK138.out 3
         have hfz72_4 := blk_frozen BK138.out 4
         have hfz72_5 := blk_frozen BK138.out 5
         go_wp2_with (first | ((with_reducible refine gate_callee (f := 37) rfl ?_); refine goesL_ (some 85) rfl rfl Tryd.func37 (by kernel_rfl) rfl #[.string a0_3] rfl (by (try simp only [List.map_toArray, List.map_cons, List.map_nil]); first | done | rfl | (simp only [List.length_drop, List.length_take]; rfl)) ?_; (with_reducible refine (source_name.calls a0_3 t141 _ A71.out).mono ?_); rintro e w73 ⟨rfl, hb⟩; refine ⟨_, rfl, ?_⟩; have n0_ := Aside0.mk (blk_below (g := gb138) (o := .cells #[.int .u8 a0_0, .string a0_1, .int .i64 a0_2, .string a0_3, .int .u8 a0_4, .slice A0_5 l0_5.length c0_5] 43 (0, 0)) (by (with_reducible repeat (first | refine blk_drewN ?_ _ | refine blk_drew ?_ | refine blk_alloc ?_ _)); exact BK138.out) hb); have n1_ := Aside0.mk (below_step (by repeat (first | (with_reducible first | exact HB.out | apply below_alloc | apply pw_below_drewN | apply below_drew1 | refine below_set ?_ GE138.out) | exact HB.out)) hb); clear BK138; clear HB; have BK138 := n0_; have HB := n1_; clear n0_ n1_; (try clear hb); (try clear hb2); (try clear hk); (try clear hi)))
         go_ret
         exact ⟨by first | rfl | (simp [errW_none, errW_some] <;> rfl) | (simp [*, errW_none, errW_some] <;> rfl), by repeat (first | (with_reducible first | exact HB.out | apply below_alloc | apply pw_below_drewN | apply below_drew1 | refine below_set ?_ GE138.out) | exact HB.out)⟩
        ·rw [if_neg c70] at H
         have c70b0 : (a0_0 == 5) = false := beq_eq_false_iff_ne.mpr c70
         have c70b1 : (a0_0 != 5) = true := bne_iff_ne.mpr c70
         obtain rfl := Option.some.inj H
         have hcz74_0 : wc.cell? ⟨gb138, 0, none⟩ = some (.int .u8 a0_0) := (blk_cell BK138.out 0).trans rfl
         have hcz74_1 : wc.cell? ⟨gb138, 1, none⟩ = some (.string a0_1) := (blk_cell BK138.out 1).trans rfl
         have hcz74_2 : wc.cell? ⟨gb138, 2, none⟩ = some (.int .i64 a0_2) := (blk_cell BK138.out 2).trans rfl
         have hcz74_3 : wc.cell? ⟨gb138, 3, none⟩ = some (.string a0_3) := (blk_cell BK138.out 3).trans rfl
         have hcz74_4 : wc.cell? ⟨gb138, 4, none⟩ = some (.int .u8 a0_4) := (blk_cell BK138.out 4).trans rfl
         have hcz74_5 : wc.cell? ⟨gb138, 5, none⟩ = some (.slice A0_5 l0_5.length c0_5) := (blk_cell BK138.out 5).trans rfl
         have hfz74_0 := blk_frozen BK138.out 0
         have hfz74_1 := blk_frozen BK138.out 1
         have hfz74_2 := blk_frozen BK138.out 2
         have hfz74_3 := blk_frozen BK138.out 3
         have hfz74_4 := blk_frozen BK138.out 4
         have hfz74_5 := blk_frozen BK138.out 5
         go_wp2
         go_ret
         exact ⟨by first | rfl | (simp [errW_none, errW_some] <;> rfl) | (simp [*, errW_none, errW_some] <;> rfl), by repeat (first | (with_reducible first | exact HB.out | apply below_alloc | apply pw_below_drewN | apply below_drew1 | refine below_set ?_ GE138.out) | exact HB.out)⟩
end Go.Proofs.YtjedbamcjgabpaaDoor.PSo
