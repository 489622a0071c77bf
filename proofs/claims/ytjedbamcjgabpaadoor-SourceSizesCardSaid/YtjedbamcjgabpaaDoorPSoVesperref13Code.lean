/- Written by a program of this session (gprint.py, over the kit's printer): functions of the seat YtjedbamcjgabpaaDoor and their contracts. No condition but each contract's own. -/
import Derived.Test.YtjedbamcjgabpaaDoorPSox0
import Derived.Test.YtjedbamcjgabpaaDoorPSoRefs
import Derived.Test.YtjedbamcjgabpaaDoorPSoVesperref13IsName
import Derived.Test.YtjedbamcjgabpaaDoorPSoVesperref13Most
namespace Go.Proofs.YtjedbamcjgabpaaDoor.PSo
open Go.RowKit Go.Proofs.YtjedbamcjgabpaaDoorW.PrintWords Go.Proofs.YtjedbamcjgabpaaDoorW.PrintLast Go.Proofs.YtjedbamcjgabpaaDoorW.PrintMore
attribute [local go_sem] max2_int min2_int max_two min_two max_three min_three max_four min_four   -- for this text's walks alone
set_option linter.unusedVariables false
set_option linter.unusedSimpArgs false

/-! ### vesperref13_code: function 38 -/
mutual
def vesperref13_code.j0 : Nat → Bool → Int → ByteArray → Int → ByteArray → Int → List Int → ByteArray → Int → Int → Int → Option (Bool)
 | 0, _, _, _, _, _, _, _, _, _, _, _ => none
 | k + 1, x22, x286000, x286001, x286002, x286003, x286004, x286005, x292000, x292001, x292002, x292003 => if x22 = true then (some false) else (if x286004 = 0 then ((vesperref13_most.f k x286001 x292001).bind fun bt292 => (if x286003.toList = ([] : List UInt8) then (if x286002 ≥ bt292.1 then (some (decide (x286002 ≤ bt292.2.1))) else (some false)) else (some false))) else ((vesperref13_IsName.f k x286003).bind fun t295 => (if t295 = true then (vesperref13_code.j1 k (x286002 != 0) x286000 x286001 x286002 x286003 x286004 x286005 x292000 x292001 x292002 x292003) else (vesperref13_code.j1 k true x286000 x286001 x286002 x286003 x286004 x286005 x292000 x292001 x292002 x292003))))
def vesperref13_code.j1 : Nat → Bool → Int → ByteArray → Int → ByteArray → Int → List Int → ByteArray → Int → Int → Int → Option (Bool)
 | 0, _, _, _, _, _, _, _, _, _, _, _ => none
 | k + 1, x59, x286000, x286001, x286002, x286003, x286004, x286005, x292000, x292001, x292002, x292003 => if x59 = true then (some false) else (if x292001 = 4 then (if x286004 = 2 then (some true) else (some (x286004 == 3))) else (if x292001 = 5 then (some (x286004 == 1)) else (if x292001 = 6 then (some (x286004 == 1)) else (some false))))
end
def vesperref13_code.f (k : Nat) (a0_0 : Int) (a0_1 : ByteArray) (a0_2 : Int) (a0_3 : ByteArray) (a0_4 : Int) (l0_5 : List Int) : Option (Bool) := (vesperref02_Find.f k a0_1).bind fun bt286 => (if bt286.2.2.2.2 = true then (vesperref13_code.j0 k ((l0_5.length : Int) != 0) a0_0 a0_1 a0_2 a0_3 a0_4 l0_5 bt286.1 bt286.2.1 bt286.2.2.1 bt286.2.2.2.1) else (vesperref13_code.j0 k true a0_0 a0_1 a0_2 a0_3 a0_4 l0_5 bt286.1 bt286.2.1 bt286.2.2.1 bt286.2.2.2.1))
theorem vesperref13_code.mono_l : ∀ k, (∀ y0 y1 y2 y3 y4 y5 y6 y7 y8 y9 y10, LeO (vesperref13_code.j0 k y0 y1 y2 y3 y4 y5 y6 y7 y8 y9 y10) (vesperref13_code.j0 (k + 1) y0 y1 y2 y3 y4 y5 y6 y7 y8 y9 y10)) ∧ (∀ y0 y1 y2 y3 y4 y5 y6 y7 y8 y9 y10, LeO (vesperref13_code.j1 k y0 y1 y2 y3 y4 y5 y6 y7 y8 y9 y10) (vesperref13_code.j1 (k + 1) y0 y1 y2 y3 y4 y5 y6 y7 y8 y9 y10))
 | 0 => ⟨fun _ _ _ _ _ _ _ _ _ _ _ r h => by simp [vesperref13_code.j0] at h, fun _ _ _ _ _ _ _ _ _ _ _ r h => by simp [vesperref13_code.j1] at h⟩
 | k + 1 => by
  obtain ⟨ih0, ih1⟩ := vesperref13_code.mono_l k
  refine ⟨?_, ?_⟩
  ·intro y0 y1 y2 y3 y4 y5 y6 y7 y8 y9 y10
   unfold vesperref13_code.j0
   repeat' first
   | (with_reducible exact ih0 _ _ _ _ _ _ _ _ _ _ _)
   | (with_reducible exact ih1 _ _ _ _ _ _ _ _ _ _ _)
   | (with_reducible exact vesperref02_Find.mono _ _)
   | (with_reducible exact vesperref13_IsName.mono _ _)
   | (with_reducible exact vesperref13_most.mono _ _ _)
   | (with_reducible exact LeO.refl _)
   | (with_reducible exact LeO.none _)
   | (with_reducible refine LeO.ite ?_ ?_)
   | (with_reducible refine LeO.bind ?_ (fun _ => ?_))
   | exact ih0 _ _ _ _ _ _ _ _ _ _ _
   | exact ih1 _ _ _ _ _ _ _ _ _ _ _
   | exact vesperref02_Find.mono _ _
   | exact vesperref13_IsName.mono _ _
   | exact vesperref13_most.mono _ _ _
   | exact LeO.none _
   | refine LeO.ite ?_ ?_
   | refine LeO.bind ?_ (fun _ => ?_)
  ·intro y0 y1 y2 y3 y4 y5 y6 y7 y8 y9 y10
   unfold vesperref13_code.j1
   repeat' first
   | (with_reducible exact ih0 _ _ _ _ _ _ _ _ _ _ _)
   | (with_reducible exact ih1 _ _ _ _ _ _ _ _ _ _ _)
   | (with_reducible exact vesperref02_Find.mono _ _)
   | (with_reducible exact vesperref13_IsName.mono _ _)
   | (with_reducible exact vesperref13_most.mono _ _ _)
   | (with_reducible exact LeO.refl _)
   | (with_reducible exact LeO.none _)
   | (with_reducible refine LeO.ite ?_ ?_)
   | (with_reducible refine LeO.bind ?_ (fun _ => ?_))
   | exact ih0 _ _ _ _ _ _ _ _ _ _ _
   | exact ih1 _ _ _ _ _ _ _ _ _ _ _
   | exact vesperref02_Find.mono _ _
   | exact vesperref13_IsName.mono _ _
   | exact vesperref13_most.mono _ _ _
   | exact LeO.none _
   | refine LeO.ite ?_ ?_
   | refine LeO.bind ?_ (fun _ => ?_)
theorem vesperref13_code.mono : ∀ a0 a1 a2 a3 a4 a5 k, LeO (vesperref13_code.f k a0 a1 a2 a3 a4 a5) (vesperref13_code.f (k + 1) a0 a1 a2 a3 a4 a5) := by
 intro a0 a1 a2 a3 a4 a5 k
 obtain ⟨ih0, ih1⟩ := vesperref13_code.mono_l k
 unfold vesperref13_code.f
 repeat' first
  | (with_reducible exact ih0 _ _ _ _ _ _ _ _ _ _ _)
  | (with_reducible exact ih1 _ _ _ _ _ _ _ _ _ _ _)
  | (with_reducible exact vesperref02_Find.mono _ _)
  | (with_reducible exact vesperref13_IsName.mono _ _)
  | (with_reducible exact vesperref13_most.mono _ _ _)
  | (with_reducible exact LeO.refl _)
  | (with_reducible exact LeO.none _)
  | (with_reducible refine LeO.ite ?_ ?_)
  | (with_reducible refine LeO.bind ?_ (fun _ => ?_))
  | exact ih0 _ _ _ _ _ _ _ _ _ _ _
  | exact ih1 _ _ _ _ _ _ _ _ _ _ _
  | exact vesperref02_Find.mono _ _
  | exact vesperref13_IsName.mono _ _
  | exact vesperref13_most.mono _ _ _
  | exact LeO.none _
  | refine LeO.ite ?_ ?_
  | refine LeO.bind ?_ (fun _ => ?_)
set_option maxHeartbeats 8000000 in
set_option maxRecDepth 100000 in
theorem vesperref13_code.calls (k : Nat) (a0_0 : Int) (a0_1 : ByteArray) (a0_2 : Int) (a0_3 : ByteArray) (a0_4 : Int) (A0_5 : Option Addr) (c0_5 : Nat) (l0_5 : List Int) (r : Bool) (w : World) (hr0_5 : Kd.C (Kd.int .u8) w A0_5 l0_5.length l0_5) (hc0_5 : l0_5.length ≤ c0_5) (h : vesperref13_code.f k a0_0 a0_1 a0_2 a0_3 a0_4 l0_5 = some r) :
 Calls Tryd.prog 38 #[.agg #[.int .u8 a0_0, .string a0_1, .int .i64 a0_2, .string a0_3, .int .u8 a0_4, .slice A0_5 l0_5.length c0_5]] w fun e w' => e = .returned (.bool r) ∧ Below w.heap.size w w' := by
 have hu43 := Tryd.underlying43
 have hu72 := Tryd.underlying72
 have HR0_5 := Aside0.mk hr0_5
 have HC0_5 := Aside0.mk hc0_5
 clear hr0_5 hc0_5
 have HB := Aside0.mk (Below.refl w.heap.size w)
 have H : ((vesperref02_Find.f k a0_1).bind fun bt286 => (if bt286.2.2.2.2 = true then (vesperref13_code.j0 k ((l0_5.length : Int) != 0) a0_0 a0_1 a0_2 a0_3 a0_4 l0_5 bt286.1 bt286.2.1 bt286.2.2.1 bt286.2.2.2.1) else (vesperref13_code.j0 k true a0_0 a0_1 a0_2 a0_3 a0_4 l0_5 bt286.1 bt286.2.1 bt286.2.2.1 bt286.2.2.2.1))) = some r := h
 clear h
 replace H := Option.bind_eq_some_iff.mp H
 obtain ⟨⟨t286, t287, t288, t289, t290⟩, A20, H⟩ := H
 replace H : (if t290 = true then (vesperref13_code.j0 k ((l0_5.length : Int) != 0) a0_0 a0_1 a0_2 a0_3 a0_4 l0_5 t286 t287 t288 t289) else (vesperref13_code.j0 k true a0_0 a0_1 a0_2 a0_3 a0_4 l0_5 t286 t287 t288 t289)) = some r := H
 have A2 := Aside0.mk A20
 clear A20
 have HC3 := Aside0.mk H
 clear H
 go_enter Tryd.func38, Tryd.ntmps38
 go_upto_region 2 with (first | ((with_reducible refine gate_dst (N := 1) rfl ?_); (try (refine gate_guard (by rfl) ?_; dsimp only)); refine box_event ?hg (N := 1) ?hd (cs := #[.int .u8 a0_0, .string a0_1, .int .i64 a0_2, .string a0_3, .int .u8 a0_4, .slice A0_5 l0_5.length c0_5]) (t := 43) ?hr ?_; (case hd => rfl); (case hg => rfl); (case hr => first | (go_simp; done) | (go_simp; rfl)); intro gb285 hg w4 hbox hb; have n0_ := Aside0.mk (below_step (by repeat (first | (with_reducible first | exact HB.out | apply below_alloc | apply pw_below_drewN | apply below_drew1) | exact HB.out)) hb); have n1_ := Aside0.mk (hbox); have n2_ := Aside0.mk ((by rw [hg]; exact (below_size (by repeat (first | (with_reducible first | exact HB.out | apply below_alloc | apply pw_below_drewN | apply below_drew1) | exact HB.out))) : w.heap.size ≤ gb285)); have n3_ := Aside0.mk ((by rw [hg]; exact (below_size (by repeat (first | (with_reducible first | exact HB.out | apply below_alloc | apply pw_below_drewN | apply below_drew1) | exact HB.out))) : w.heap.size ≤ gb285)); clear HB; have HB := n0_; have BK285 := n1_; have GW285 := n2_; have GE285 := n3_; clear n0_ n1_ n2_ n3_; clear hb hbox hg; have hcz5_0 : w4.cell? ⟨gb285, 0, none⟩ = some (.int .u8 a0_0) := (blk_cell BK285.out 0).trans rfl; have hcz5_1 : w4.cell? ⟨gb285, 1, none⟩ = some (.string a0_1) := (blk_cell BK285.out 1).trans rfl; have hcz5_2 : w4.cell? ⟨gb285, 2, none⟩ = some (.int .i64 a0_2) := (blk_cell BK285.out 2).trans rfl; have hcz5_3 : w4.cell? ⟨gb285, 3, none⟩ = some (.string a0_3) := (blk_cell BK285.out 3).trans rfl; have hcz5_4 : w4.cell? ⟨gb285, 4, none⟩ = some (.int .u8 a0_4) := (blk_cell BK285.out 4).trans rfl; have hcz5_5 : w4.cell? ⟨gb285, 5, none⟩ = some (.slice A0_5 l0_5.length c0_5) := (blk_cell BK285.out 5).trans rfl; have hfz5_0 := blk_frozen BK285.out 0; have hfz5_1 := blk_frozen BK285.out 1; have hfz5_2 := blk_frozen BK285.out 2; have hfz5_3 := blk_frozen BK285.out 3; have hfz5_4 := blk_frozen BK285.out 4; have hfz5_5 := blk_frozen BK285.out 5) | ((with_reducible refine gate_callee (f := 35) rfl ?_); refine goesL_ (some 12) rfl rfl Tryd.func35 (by kernel_rfl) rfl #[.string a0_1] rfl (by (try simp only [List.map_toArray, List.map_cons, List.map_nil]); first | done | rfl | (simp only [List.length_drop, List.length_take]; rfl)) ?_; (with_reducible refine (vesperref02_Find.calls k a0_1 t286 t287 t288 t289 t290 _ A2.out).mono ?_); rintro e w6 ⟨rfl, hb⟩; refine ⟨_, rfl, ?_⟩; have n0_ := Aside0.mk (blk_below (g := gb285) (o := .cells #[.int .u8 a0_0, .string a0_1, .int .i64 a0_2, .string a0_3, .int .u8 a0_4, .slice A0_5 l0_5.length c0_5] 43 (0, 0)) (by (with_reducible repeat (first | refine blk_drewN ?_ _ | refine blk_drew ?_ | refine blk_alloc ?_ _)); exact BK285.out) hb); have n1_ := Aside0.mk (below_step (by repeat (first | (with_reducible first | exact HB.out | apply below_alloc | apply pw_below_drewN | apply below_drew1 | refine below_set ?_ GE285.out) | exact HB.out)) hb); clear BK285; clear HB; have BK285 := n0_; have HB := n1_; clear n0_ n1_; (try clear hb); (try clear hb2); (try clear hk); (try clear hi)) | ((with_reducible refine gate_dst (N := 3) rfl ?_); (try (refine gate_guard (by rfl) ?_; dsimp only)); refine box_event ?hg (N := 3) ?hd (cs := #[.string (⟨#[]⟩ : ByteArray), .int .u8 0, .int .i64 0, .int .i64 0]) (t := 72) ?hr ?_; (case hd => rfl); (case hg => rfl); (case hr => first | (go_simp; done) | (go_simp; rfl)); intro gb291 hg w7 hbox hb; have n0_ := Aside0.mk (blk_below (g := gb285) (o := .cells #[.int .u8 a0_0, .string a0_1, .int .i64 a0_2, .string a0_3, .int .u8 a0_4, .slice A0_5 l0_5.length c0_5] 43 (0, 0)) (by (with_reducible repeat (first | refine blk_drewN ?_ _ | refine blk_drew ?_ | refine blk_alloc ?_ _)); exact BK285.out) hb); have n1_ := Aside0.mk (below_step (by repeat (first | (with_reducible first | exact HB.out | apply below_alloc | apply pw_below_drewN | apply below_drew1 | refine below_set ?_ GE285.out) | exact HB.out)) hb); have n2_ := Aside0.mk (hbox); have n3_ := Aside0.mk ((by rw [hg]; exact (below_size (by repeat (first | (with_reducible first | exact HB.out | apply below_alloc | apply pw_below_drewN | apply below_drew1 | refine below_set ?_ GE285.out) | exact HB.out))) : w.heap.size ≤ gb291)); have n4_ := Aside0.mk ((by rw [hg]; exact (below_size (by repeat (first | (with_reducible first | exact HB.out | apply below_alloc | apply pw_below_drewN | apply below_drew1 | refine below_set ?_ GE285.out) | exact HB.out))) : w.heap.size ≤ gb291)); have n5_ := Aside0.mk ((by rw [hg]; exact Nat.ne_of_lt (blk_lt (g := gb285) (o := .cells #[.int .u8 a0_0, .string a0_1, .int .i64 a0_2, .string a0_3, .int .u8 a0_4, .slice A0_5 l0_5.length c0_5] 43 (0, 0)) (by (with_reducible repeat (first | refine blk_drewN ?_ _ | refine blk_drew ?_ | refine blk_alloc ?_ _)); exact BK285.out)) : gb285 ≠ gb291)); have n6_ := Aside0.mk ((by rw [hg]; exact Nat.ne_of_gt (blk_lt (g := gb285) (o := .cells #[.int .u8 a0_0, .string a0_1, .int .i64 a0_2, .string a0_3, .int .u8 a0_4, .slice A0_5 l0_5.length c0_5] 43 (0, 0)) (by (with_reducible repeat (first | refine blk_drewN ?_ _ | refine blk_drew ?_ | refine blk_alloc ?_ _)); exact BK285.out)) : gb291 ≠ gb285)); clear BK285; clear HB; have BK285 := n0_; have HB := n1_; have BK291 := n2_; have GW291 := n3_; have GE291 := n4_; have NB285_291 := n5_; have NB291_285 := n6_; clear n0_ n1_ n2_ n3_ n4_ n5_ n6_; clear hb hbox hg; have hnb8 := NB291_285.out; have hnc8 := NB285_291.out; have hcz9_0 : w7.cell? ⟨gb291, 0, none⟩ = some (.string (⟨#[]⟩ : ByteArray)) := (blk_cell BK291.out 0).trans rfl; have hcz9_1 : w7.cell? ⟨gb291, 1, none⟩ = some (.int .u8 0) := (blk_cell BK291.out 1).trans rfl; have hcz9_2 : w7.cell? ⟨gb291, 2, none⟩ = some (.int .i64 0) := (blk_cell BK291.out 2).trans rfl; have hcz9_3 : w7.cell? ⟨gb291, 3, none⟩ = some (.int .i64 0) := (blk_cell BK291.out 3).trans rfl; have hfz9_0 := blk_frozen BK291.out 0; have hfz9_1 := blk_frozen BK291.out 1; have hfz9_2 := blk_frozen BK291.out 2; have hfz9_3 := blk_frozen BK291.out 3))
 (try simp only [Act.put, List.setIfInBounds_toArray, List.set_cons_zero, List.set_cons_succ])
 go_cut [22] (fun v22 wc => ∃ (kq : Nat) (x22_2 : Bool), v22 = .bool x22_2 ∧ Aside0 (vesperref13_code.j0 kq x22_2 a0_0 a0_1 a0_2 a0_3 a0_4 l0_5 t286 t287 t288 t289 = some r) ∧ Aside0 (kq ≤ k) ∧ Aside0 (wc.heap[gb285]? = some (.cells #[.int .u8 a0_0, .string a0_1, .int .i64 a0_2, .string a0_3, .int .u8 a0_4, (.slice A0_5 l0_5.length c0_5)] 43 (0, 0))) ∧ Aside0 (wc.heap[gb291]? = some (.cells #[.string t286, .int .u8 t287, .int .i64 t288, .int .i64 t289] 72 (0, 0))) ∧ Aside0 (Below w.heap.size w wc))
 case first =>
  have H := HC3.out
  clear HC3
  by_cases c10 : t290 = true
  ·subst c10
   have H1 : (vesperref13_code.j0 k ((l0_5.length : Int) != 0) a0_0 a0_1 a0_2 a0_3 a0_4 l0_5 t286 t287 t288 t289) = some r := by rw [if_pos rfl] at H; exact H
   clear H
   have H := H1
   clear H1
   have H' := Aside0.mk H
   clear H
   have hnb11 := NB285_291.out
   have hnc11 := NB291_285.out
   have hcz12_0 : w7.cell? ⟨gb285, 0, none⟩ = some (.int .u8 a0_0) := (blk_cell BK285.out 0).trans rfl
   have hcz12_1 : w7.cell? ⟨gb285, 1, none⟩ = some (.string a0_1) := (blk_cell BK285.out 1).trans rfl
   have hcz12_2 : w7.cell? ⟨gb285, 2, none⟩ = some (.int .i64 a0_2) := (blk_cell BK285.out 2).trans rfl
   have hcz12_3 : w7.cell? ⟨gb285, 3, none⟩ = some (.string a0_3) := (blk_cell BK285.out 3).trans rfl
   have hcz12_4 : w7.cell? ⟨gb285, 4, none⟩ = some (.int .u8 a0_4) := (blk_cell BK285.out 4).trans rfl
   have hcz12_5 : w7.cell? ⟨gb285, 5, none⟩ = some (.slice A0_5 l0_5.length c0_5) := (blk_cell BK285.out 5).trans rfl
   have hfz12_0 := blk_frozen BK285.out 0
   have hfz12_1 := blk_frozen BK285.out 1
   have hfz12_2 := blk_frozen BK285.out 2
   have hfz12_3 := blk_frozen BK285.out 3
   have hfz12_4 := blk_frozen BK285.out 4
   have hfz12_5 := blk_frozen BK285.out 5
   go_wp2
   go_meet
   case rel => exact ⟨_, (((l0_5.length : Int) != 0)), (by first | rfl | (simp; done) | (simp [*]; done)), H', ⟨by first | omega | exact Nat.le_refl _⟩, ⟨by (with_reducible repeat (first | refine blk_drewN ?_ _ | refine blk_drew ?_ | refine blk_alloc ?_ _)); refine blk_far ?_ NB285_291.out _; (with_reducible repeat (first | refine blk_drewN ?_ _ | refine blk_drew ?_ | refine blk_alloc ?_ _)); refine blk_far ?_ NB285_291.out _; (with_reducible repeat (first | refine blk_drewN ?_ _ | refine blk_drew ?_ | refine blk_alloc ?_ _)); refine blk_far ?_ NB285_291.out _; (with_reducible repeat (first | refine blk_drewN ?_ _ | refine blk_drew ?_ | refine blk_alloc ?_ _)); refine blk_far ?_ NB285_291.out _; (with_reducible repeat (first | refine blk_drewN ?_ _ | refine blk_drew ?_ | refine blk_alloc ?_ _)); exact BK285.out⟩, ⟨by (with_reducible repeat (first | refine blk_drewN ?_ _ | refine blk_drew ?_ | refine blk_alloc ?_ _)); refine blk_put (cs := #[.string t286, .int .u8 t287, .int .i64 t288, .int .i64 0]) ?_ 3 _ rfl; (with_reducible repeat (first | refine blk_drewN ?_ _ | refine blk_drew ?_ | refine blk_alloc ?_ _)); refine blk_put (cs := #[.string t286, .int .u8 t287, .int .i64 0, .int .i64 0]) ?_ 2 _ rfl; (with_reducible repeat (first | refine blk_drewN ?_ _ | refine blk_drew ?_ | refine blk_alloc ?_ _)); refine blk_put (cs := #[.string t286, .int .u8 0, .int .i64 0, .int .i64 0]) ?_ 1 _ rfl; (with_reducible repeat (first | refine blk_drewN ?_ _ | refine blk_drew ?_ | refine blk_alloc ?_ _)); refine blk_put (cs := #[.string (⟨#[]⟩ : ByteArray), .int .u8 0, .int .i64 0, .int .i64 0]) ?_ 0 _ rfl; (with_reducible repeat (first | refine blk_drewN ?_ _ | refine blk_drew ?_ | refine blk_alloc ?_ _)); exact BK291.out⟩, ⟨by repeat (first | (with_reducible first | exact HB.out | apply below_alloc | apply pw_below_drewN | apply below_drew1 | refine below_set ?_ GE285.out | refine below_set ?_ GE291.out) | exact HB.out)⟩⟩
  ·replace c10 := Bool.eq_false_iff.mpr c10
   subst c10
   have H1 : (vesperref13_code.j0 k true a0_0 a0_1 a0_2 a0_3 a0_4 l0_5 t286 t287 t288 t289) = some r := by rw [if_neg (show ¬ (false = true) by decide)] at H; exact H
   clear H
   have H := H1
   clear H1
   have H' := Aside0.mk H
   clear H
   go_wp2
   go_meet
   case rel => exact ⟨_, (true), (by first | rfl | (simp; done) | (simp [*]; done)), H', ⟨by first | omega | exact Nat.le_refl _⟩, ⟨by (with_reducible repeat (first | refine blk_drewN ?_ _ | refine blk_drew ?_ | refine blk_alloc ?_ _)); refine blk_far ?_ NB285_291.out _; (with_reducible repeat (first | refine blk_drewN ?_ _ | refine blk_drew ?_ | refine blk_alloc ?_ _)); refine blk_far ?_ NB285_291.out _; (with_reducible repeat (first | refine blk_drewN ?_ _ | refine blk_drew ?_ | refine blk_alloc ?_ _)); refine blk_far ?_ NB285_291.out _; (with_reducible repeat (first | refine blk_drewN ?_ _ | refine blk_drew ?_ | refine blk_alloc ?_ _)); refine blk_far ?_ NB285_291.out _; (with_reducible repeat (first | refine blk_drewN ?_ _ | refine blk_drew ?_ | refine blk_alloc ?_ _)); exact BK285.out⟩, ⟨by (with_reducible repeat (first | refine blk_drewN ?_ _ | refine blk_drew ?_ | refine blk_alloc ?_ _)); refine blk_put (cs := #[.string t286, .int .u8 t287, .int .i64 t288, .int .i64 0]) ?_ 3 _ rfl; (with_reducible repeat (first | refine blk_drewN ?_ _ | refine blk_drew ?_ | refine blk_alloc ?_ _)); refine blk_put (cs := #[.string t286, .int .u8 t287, .int .i64 0, .int .i64 0]) ?_ 2 _ rfl; (with_reducible repeat (first | refine blk_drewN ?_ _ | refine blk_drew ?_ | refine blk_alloc ?_ _)); refine blk_put (cs := #[.string t286, .int .u8 0, .int .i64 0, .int .i64 0]) ?_ 1 _ rfl; (with_reducible repeat (first | refine blk_drewN ?_ _ | refine blk_drew ?_ | refine blk_alloc ?_ _)); refine blk_put (cs := #[.string (⟨#[]⟩ : ByteArray), .int .u8 0, .int .i64 0, .int .i64 0]) ?_ 0 _ rfl; (with_reducible repeat (first | refine blk_drewN ?_ _ | refine blk_drew ?_ | refine blk_alloc ?_ _)); exact BK291.out⟩, ⟨by repeat (first | (with_reducible first | exact HB.out | apply below_alloc | apply pw_below_drewN | apply below_drew1 | refine below_set ?_ GE285.out | refine below_set ?_ GE291.out) | exact HB.out)⟩⟩
 case rest =>
  clear HC3
  try clear c1
  try clear p2
  try clear c3
  try clear c8
  try clear c10
  try clear c11
  try clear hcz12_0
  try clear hcz12_1
  try clear hcz12_2
  try clear hcz12_3
  try clear hcz12_4
  try clear hcz12_5
  try clear hcz5_0
  try clear hcz5_1
  try clear hcz5_2
  try clear hcz5_3
  try clear hcz5_4
  try clear hcz5_5
  try clear hcz9_0
  try clear hcz9_1
  try clear hcz9_2
  try clear hcz9_3
  try clear hfz12_0
  try clear hfz12_1
  try clear hfz12_2
  try clear hfz12_3
  try clear hfz12_4
  try clear hfz12_5
  try clear hfz5_0
  try clear hfz5_1
  try clear hfz5_2
  try clear hfz5_3
  try clear hfz5_4
  try clear hfz5_5
  try clear hfz9_0
  try clear hfz9_1
  try clear hfz9_2
  try clear hfz9_3
  obtain ⟨kq, x22_2, rfl, HA, HJ2, BK285, BK291, HB⟩ := hcut
  cases kq with
  | zero => exact absurd HA.out (by simp [vesperref13_code.j0])
  | succ kj2 =>
   have H := HA.out
   clear HA
   simp only [vesperref13_code.j0] at H
   by_cases c13 : x22_2 = true
   ·subst c13
    have H1 : (some false) = some r := by rw [if_pos rfl] at H; exact H
    clear H
    have H := H1
    clear H1
    obtain rfl := Option.some.inj H
    go_wp2
    go_ret
    exact ⟨by first | rfl | (simp [errW_none, errW_some] <;> rfl) | (simp [*, errW_none, errW_some] <;> rfl), by repeat (first | (with_reducible first | exact HB.out | apply below_alloc | apply pw_below_drewN | apply below_drew1 | refine below_set ?_ GE285.out | refine below_set ?_ GE291.out) | exact HB.out)⟩
   ·replace c13 := Bool.eq_false_iff.mpr c13
    subst c13
    have H1 : (if a0_4 = 0 then ((vesperref13_most.f kj2 a0_1 t287).bind fun bt292 => (if a0_3.toList = ([] : List UInt8) then (if a0_2 ≥ bt292.1 then (some (decide (a0_2 ≤ bt292.2.1))) else (some false)) else (some false))) else ((vesperref13_IsName.f kj2 a0_3).bind fun t295 => (if t295 = true then (vesperref13_code.j1 kj2 (a0_2 != 0) a0_0 a0_1 a0_2 a0_3 a0_4 l0_5 t286 t287 t288 t289) else (vesperref13_code.j1 kj2 true a0_0 a0_1 a0_2 a0_3 a0_4 l0_5 t286 t287 t288 t289)))) = some r := by rw [if_neg (show ¬ (false = true) by decide)] at H; exact H
    clear H
    have H := H1
    clear H1
    by_cases c14 : a0_4 = 0
    ·rw [if_pos c14] at H
     have c14b0 : (a0_4 == 0) = true := beq_iff_eq.mpr c14
     have c14b1 : (a0_4 != 0) = false := bne_eq_false_iff_eq.mpr c14
     clear c14
     replace H := Option.bind_eq_some_iff.mp H
     obtain ⟨⟨t292, t293, t294⟩, A150, H⟩ := H
     replace H : (if a0_3.toList = ([] : List UInt8) then (if a0_2 ≥ t292 then (some (decide (a0_2 ≤ t293))) else (some false)) else (some false)) = some r := H
     have A15 := Aside0.mk A150
     clear A150
     by_cases c16 : a0_3.toList = ([] : List UInt8)
     ·rw [if_pos c16] at H
      have c16b0 : (a0_3.toList == ([] : List UInt8)) = true := beq_iff_eq.mpr c16
      have c16b1 : (a0_3.toList != ([] : List UInt8)) = false := bne_eq_false_iff_eq.mpr c16
      clear c16
      by_cases c17 : a0_2 ≥ t292
      ·rw [if_pos c17] at H
       have c17b0 : decide (t292 ≤ a0_2) = true := decide_eq_true c17
       clear c17
       obtain rfl := Option.some.inj H
       have hnb18 := NB285_291.out
       have hnc18 := NB291_285.out
       have hcz19_0 : wc.cell? ⟨gb285, 0, none⟩ = some (.int .u8 a0_0) := (blk_cell BK285.out 0).trans rfl
       have hcz19_1 : wc.cell? ⟨gb285, 1, none⟩ = some (.string a0_1) := (blk_cell BK285.out 1).trans rfl
       have hcz19_2 : wc.cell? ⟨gb285, 2, none⟩ = some (.int .i64 a0_2) := (blk_cell BK285.out 2).trans rfl
       have hcz19_3 : wc.cell? ⟨gb285, 3, none⟩ = some (.string a0_3) := (blk_cell BK285.out 3).trans rfl
       have hcz19_4 : wc.cell? ⟨gb285, 4, none⟩ = some (.int .u8 a0_4) := (blk_cell BK285.out 4).trans rfl
       have hcz19_5 : wc.cell? ⟨gb285, 5, none⟩ = some (.slice A0_5 l0_5.length c0_5) := (blk_cell BK285.out 5).trans rfl
       have hfz19_0 := blk_frozen BK285.out 0
       have hfz19_1 := blk_frozen BK285.out 1
       have hfz19_2 := blk_frozen BK285.out 2
       have hfz19_3 := blk_frozen BK285.out 3
       have hfz19_4 := blk_frozen BK285.out 4
       have hfz19_5 := blk_frozen BK285.out 5
       have hcz20_0 : wc.cell? ⟨gb291, 0, none⟩ = some (.string t286) := (blk_cell BK291.out 0).trans rfl
       have hcz20_1 : wc.cell? ⟨gb291, 1, none⟩ = some (.int .u8 t287) := (blk_cell BK291.out 1).trans rfl
       have hcz20_2 : wc.cell? ⟨gb291, 2, none⟩ = some (.int .i64 t288) := (blk_cell BK291.out 2).trans rfl
       have hcz20_3 : wc.cell? ⟨gb291, 3, none⟩ = some (.int .i64 t289) := (blk_cell BK291.out 3).trans rfl
       have hfz20_0 := blk_frozen BK291.out 0
       have hfz20_1 := blk_frozen BK291.out 1
       have hfz20_2 := blk_frozen BK291.out 2
       have hfz20_3 := blk_frozen BK291.out 3
       go_wp2_with (first | ((with_reducible refine gate_callee (f := 59) rfl ?_); refine goesL_ (some 31) rfl rfl Tryd.func59 (by kernel_rfl) rfl #[.string a0_1, .int .u8 t287] rfl (by (try simp only [List.map_toArray, List.map_cons, List.map_nil]); first | done | rfl | (simp only [List.length_drop, List.length_take]; rfl)) ?_; (with_reducible refine (vesperref13_most.calls kj2 a0_1 t287 t292 t293 t294 _ A15.out).mono ?_); rintro e w' ⟨rfl, ⟨nd, rfl⟩⟩; refine ⟨_, rfl, ?_⟩))
       go_ret
       exact ⟨by first | rfl | (simp [errW_none, errW_some] <;> rfl) | (simp [*, errW_none, errW_some] <;> rfl), by repeat (first | (with_reducible first | exact HB.out | apply below_alloc | apply pw_below_drewN | apply below_drew1 | refine below_set ?_ GE285.out | refine below_set ?_ GE291.out) | exact HB.out)⟩
      ·rw [if_neg c17] at H
       have c17b0 : decide (t292 ≤ a0_2) = false := decide_eq_false c17
       clear c17
       obtain rfl := Option.some.inj H
       have hnb21 := NB285_291.out
       have hnc21 := NB291_285.out
       have hcz22_0 : wc.cell? ⟨gb285, 0, none⟩ = some (.int .u8 a0_0) := (blk_cell BK285.out 0).trans rfl
       have hcz22_1 : wc.cell? ⟨gb285, 1, none⟩ = some (.string a0_1) := (blk_cell BK285.out 1).trans rfl
       have hcz22_2 : wc.cell? ⟨gb285, 2, none⟩ = some (.int .i64 a0_2) := (blk_cell BK285.out 2).trans rfl
       have hcz22_3 : wc.cell? ⟨gb285, 3, none⟩ = some (.string a0_3) := (blk_cell BK285.out 3).trans rfl
       have hcz22_4 : wc.cell? ⟨gb285, 4, none⟩ = some (.int .u8 a0_4) := (blk_cell BK285.out 4).trans rfl
       have hcz22_5 : wc.cell? ⟨gb285, 5, none⟩ = some (.slice A0_5 l0_5.length c0_5) := (blk_cell BK285.out 5).trans rfl
       have hfz22_0 := blk_frozen BK285.out 0
       have hfz22_1 := blk_frozen BK285.out 1
       have hfz22_2 := blk_frozen BK285.out 2
       have hfz22_3 := blk_frozen BK285.out 3
       have hfz22_4 := blk_frozen BK285.out 4
       have hfz22_5 := blk_frozen BK285.out 5
       have hcz23_0 : wc.cell? ⟨gb291, 0, none⟩ = some (.string t286) := (blk_cell BK291.out 0).trans rfl
       have hcz23_1 : wc.cell? ⟨gb291, 1, none⟩ = some (.int .u8 t287) := (blk_cell BK291.out 1).trans rfl
       have hcz23_2 : wc.cell? ⟨gb291, 2, none⟩ = some (.int .i64 t288) := (blk_cell BK291.out 2).trans rfl
       have hcz23_3 : wc.cell? ⟨gb291, 3, none⟩ = some (.int .i64 t289) := (blk_cell BK291.out 3).trans rfl
       have hfz23_0 := blk_frozen BK291.out 0
       have hfz23_1 := blk_frozen BK291.out 1
       have hfz23_2 := blk_frozen BK291.out 2
       have hfz23_3 := blk_frozen BK291.out 3
       go_wp2_with (first | ((with_reducible refine gate_callee (f := 59) rfl ?_); refine goesL_ (some 31) rfl rfl Tryd.func59 (by kernel_rfl) rfl #[.string a0_1, .int .u8 t287] rfl (by (try simp only [List.map_toArray, List.map_cons, List.map_nil]); first | done | rfl | (simp only [List.length_drop, List.length_take]; rfl)) ?_; (with_reducible refine (vesperref13_most.calls kj2 a0_1 t287 t292 t293 t294 _ A15.out).mono ?_); rintro e w' ⟨rfl, ⟨nd, rfl⟩⟩; refine ⟨_, rfl, ?_⟩))
       go_ret
       exact ⟨by first | rfl | (simp [errW_none, errW_some] <;> rfl) | (simp [*, errW_none, errW_some] <;> rfl), by repeat (first | (with_reducible first | exact HB.out | apply below_alloc | apply pw_below_drewN | apply below_drew1 | refine below_set ?_ GE285.out | refine below_set ?_ GE291.out) | exact HB.out)⟩
     ·rw [if_neg c16] at H
      have c16b0 : (a0_3.toList == ([] : List UInt8)) = false := beq_eq_false_iff_ne.mpr c16
      have c16b1 : (a0_3.toList != ([] : List UInt8)) = true := bne_iff_ne.mpr c16
      obtain rfl := Option.some.inj H
      have hnb24 := NB285_291.out
      have hnc24 := NB291_285.out
      have hcz25_0 : wc.cell? ⟨gb285, 0, none⟩ = some (.int .u8 a0_0) := (blk_cell BK285.out 0).trans rfl
      have hcz25_1 : wc.cell? ⟨gb285, 1, none⟩ = some (.string a0_1) := (blk_cell BK285.out 1).trans rfl
      have hcz25_2 : wc.cell? ⟨gb285, 2, none⟩ = some (.int .i64 a0_2) := (blk_cell BK285.out 2).trans rfl
      have hcz25_3 : wc.cell? ⟨gb285, 3, none⟩ = some (.string a0_3) := (blk_cell BK285.out 3).trans rfl
      have hcz25_4 : wc.cell? ⟨gb285, 4, none⟩ = some (.int .u8 a0_4) := (blk_cell BK285.out 4).trans rfl
      have hcz25_5 : wc.cell? ⟨gb285, 5, none⟩ = some (.slice A0_5 l0_5.length c0_5) := (blk_cell BK285.out 5).trans rfl
      have hfz25_0 := blk_frozen BK285.out 0
      have hfz25_1 := blk_frozen BK285.out 1
      have hfz25_2 := blk_frozen BK285.out 2
      have hfz25_3 := blk_frozen BK285.out 3
      have hfz25_4 := blk_frozen BK285.out 4
      have hfz25_5 := blk_frozen BK285.out 5
      have hcz26_0 : wc.cell? ⟨gb291, 0, none⟩ = some (.string t286) := (blk_cell BK291.out 0).trans rfl
      have hcz26_1 : wc.cell? ⟨gb291, 1, none⟩ = some (.int .u8 t287) := (blk_cell BK291.out 1).trans rfl
      have hcz26_2 : wc.cell? ⟨gb291, 2, none⟩ = some (.int .i64 t288) := (blk_cell BK291.out 2).trans rfl
      have hcz26_3 : wc.cell? ⟨gb291, 3, none⟩ = some (.int .i64 t289) := (blk_cell BK291.out 3).trans rfl
      have hfz26_0 := blk_frozen BK291.out 0
      have hfz26_1 := blk_frozen BK291.out 1
      have hfz26_2 := blk_frozen BK291.out 2
      have hfz26_3 := blk_frozen BK291.out 3
      go_wp2_with (first | ((with_reducible refine gate_callee (f := 59) rfl ?_); refine goesL_ (some 31) rfl rfl Tryd.func59 (by kernel_rfl) rfl #[.string a0_1, .int .u8 t287] rfl (by (try simp only [List.map_toArray, List.map_cons, List.map_nil]); first | done | rfl | (simp only [List.length_drop, List.length_take]; rfl)) ?_; (with_reducible refine (vesperref13_most.calls kj2 a0_1 t287 t292 t293 t294 _ A15.out).mono ?_); rintro e w' ⟨rfl, ⟨nd, rfl⟩⟩; refine ⟨_, rfl, ?_⟩))
      go_ret
      exact ⟨by first | rfl | (simp [errW_none, errW_some] <;> rfl) | (simp [*, errW_none, errW_some] <;> rfl), by repeat (first | (with_reducible first | exact HB.out | apply below_alloc | apply pw_below_drewN | apply below_drew1 | refine below_set ?_ GE285.out | refine below_set ?_ GE291.out) | exact HB.out)⟩
    ·rw [if_neg c14] at H
     have c14b0 : (a0_4 == 0) = false := beq_eq_false_iff_ne.mpr c14
     have c14b1 : (a0_4 != 0) = true := bne_iff_ne.mpr c14
     replace H := Option.bind_eq_some_iff.mp H
     obtain ⟨t295, A270, H⟩ := H
     replace H : (if t295 = true then (vesperref13_code.j1 kj2 (a0_2 != 0) a0_0 a0_1 a0_2 a0_3 a0_4 l0_5 t286 t287 t288 t289) else (vesperref13_code.j1 kj2 true a0_0 a0_1 a0_2 a0_3 a0_4 l0_5 t286 t287 t288 t289)) = some r := H
     have A27 := Aside0.mk A270
     clear A270
     have HC28 := Aside0.mk H
     clear H
     have hnb29 := NB285_291.out
     have hnc29 := NB291_285.out
     have hcz30_0 : wc.cell? ⟨gb285, 0, none⟩ = some (.int .u8 a0_0) := (blk_cell BK285.out 0).trans rfl
     have hcz30_1 : wc.cell? ⟨gb285, 1, none⟩ = some (.string a0_1) := (blk_cell BK285.out 1).trans rfl
     have hcz30_2 : wc.cell? ⟨gb285, 2, none⟩ = some (.int .i64 a0_2) := (blk_cell BK285.out 2).trans rfl
     have hcz30_3 : wc.cell? ⟨gb285, 3, none⟩ = some (.string a0_3) := (blk_cell BK285.out 3).trans rfl
     have hcz30_4 : wc.cell? ⟨gb285, 4, none⟩ = some (.int .u8 a0_4) := (blk_cell BK285.out 4).trans rfl
     have hcz30_5 : wc.cell? ⟨gb285, 5, none⟩ = some (.slice A0_5 l0_5.length c0_5) := (blk_cell BK285.out 5).trans rfl
     have hfz30_0 := blk_frozen BK285.out 0
     have hfz30_1 := blk_frozen BK285.out 1
     have hfz30_2 := blk_frozen BK285.out 2
     have hfz30_3 := blk_frozen BK285.out 3
     have hfz30_4 := blk_frozen BK285.out 4
     have hfz30_5 := blk_frozen BK285.out 5
     go_upto_region 8 with (first | ((with_reducible refine gate_callee (f := 39) rfl ?_); refine goesL_ (some 52) rfl rfl Tryd.func39 (by kernel_rfl) rfl #[.string a0_3] rfl (by (try simp only [List.map_toArray, List.map_cons, List.map_nil]); first | done | rfl | (simp only [List.length_drop, List.length_take]; rfl)) ?_; (with_reducible refine (vesperref13_IsName.calls kj2 a0_3 t295 _ A27.out).mono ?_); rintro e w' ⟨rfl, ⟨nd, rfl⟩⟩; refine ⟨_, rfl, ?_⟩))
     (try simp only [Act.put, List.setIfInBounds_toArray, List.set_cons_zero, List.set_cons_succ])
     go_cut [59] (fun v59 wc => ∃ (kq : Nat) (x59_27 : Bool), v59 = .bool x59_27 ∧ Aside0 (vesperref13_code.j1 kq x59_27 a0_0 a0_1 a0_2 a0_3 a0_4 l0_5 t286 t287 t288 t289 = some r) ∧ Aside0 (kq ≤ kj2) ∧ Aside0 (wc.heap[gb285]? = some (.cells #[.int .u8 a0_0, .string a0_1, .int .i64 a0_2, .string a0_3, .int .u8 a0_4, (.slice A0_5 l0_5.length c0_5)] 43 (0, 0))) ∧ Aside0 (wc.heap[gb291]? = some (.cells #[.string t286, .int .u8 t287, .int .i64 t288, .int .i64 t289] 72 (0, 0))) ∧ Aside0 (Below w.heap.size w wc))
     case first =>
      have H := HC28.out
      clear HC28
      by_cases c31 : t295 = true
      ·subst c31
       have H1 : (vesperref13_code.j1 kj2 (a0_2 != 0) a0_0 a0_1 a0_2 a0_3 a0_4 l0_5 t286 t287 t288 t289) = some r := by rw [if_pos rfl] at H; exact H
       clear H
       have H := H1
       clear H1
       have H' := Aside0.mk H
       clear H
       have hnb32 := NB285_291.out
       have hnc32 := NB291_285.out
       have hcz33_0 : wc.cell? ⟨gb285, 0, none⟩ = some (.int .u8 a0_0) := (blk_cell BK285.out 0).trans rfl
       have hcz33_1 : wc.cell? ⟨gb285, 1, none⟩ = some (.string a0_1) := (blk_cell BK285.out 1).trans rfl
       have hcz33_2 : wc.cell? ⟨gb285, 2, none⟩ = some (.int .i64 a0_2) := (blk_cell BK285.out 2).trans rfl
       have hcz33_3 : wc.cell? ⟨gb285, 3, none⟩ = some (.string a0_3) := (blk_cell BK285.out 3).trans rfl
       have hcz33_4 : wc.cell? ⟨gb285, 4, none⟩ = some (.int .u8 a0_4) := (blk_cell BK285.out 4).trans rfl
       have hcz33_5 : wc.cell? ⟨gb285, 5, none⟩ = some (.slice A0_5 l0_5.length c0_5) := (blk_cell BK285.out 5).trans rfl
       have hfz33_0 := blk_frozen BK285.out 0
       have hfz33_1 := blk_frozen BK285.out 1
       have hfz33_2 := blk_frozen BK285.out 2
       have hfz33_3 := blk_frozen BK285.out 3
       have hfz33_4 := blk_frozen BK285.out 4
       have hfz33_5 := blk_frozen BK285.out 5
       go_wp2
       go_meet
       case rel => exact ⟨_, ((a0_2 != 0)), (by first | rfl | (simp; done) | (simp [*]; done)), H', ⟨by have := HJ2.out; first | omega | exact Nat.le_refl _⟩, ⟨by (with_reducible repeat (first | refine blk_drewN ?_ _ | refine blk_drew ?_ | refine blk_alloc ?_ _)); exact BK285.out⟩, ⟨by (with_reducible repeat (first | refine blk_drewN ?_ _ | refine blk_drew ?_ | refine blk_alloc ?_ _)); exact BK291.out⟩, ⟨by repeat (first | (with_reducible first | exact HB.out | apply below_alloc | apply pw_below_drewN | apply below_drew1 | refine below_set ?_ GE285.out | refine below_set ?_ GE291.out) | exact HB.out)⟩⟩
      ·replace c31 := Bool.eq_false_iff.mpr c31
       subst c31
       have H1 : (vesperref13_code.j1 kj2 true a0_0 a0_1 a0_2 a0_3 a0_4 l0_5 t286 t287 t288 t289) = some r := by rw [if_neg (show ¬ (false = true) by decide)] at H; exact H
       clear H
       have H := H1
       clear H1
       have H' := Aside0.mk H
       clear H
       go_wp2
       go_meet
       case rel => exact ⟨_, (true), (by first | rfl | (simp; done) | (simp [*]; done)), H', ⟨by have := HJ2.out; first | omega | exact Nat.le_refl _⟩, ⟨by (with_reducible repeat (first | refine blk_drewN ?_ _ | refine blk_drew ?_ | refine blk_alloc ?_ _)); exact BK285.out⟩, ⟨by (with_reducible repeat (first | refine blk_drewN ?_ _ | refine blk_drew ?_ | refine blk_alloc ?_ _)); exact BK291.out⟩, ⟨by repeat (first | (with_reducible first | exact HB.out | apply below_alloc | apply pw_below_drewN | apply below_drew1 | refine below_set ?_ GE285.out | refine below_set ?_ GE291.out) | exact HB.out)⟩⟩
     case rest =>
      clear HC28
      try clear c1
      try clear c2
      try clear p2
      try clear c3
      try clear c5
      try clear c8
      try clear c10
      try clear c11
      try clear c13
      try clear c14
      try clear c14b0
      try clear c14b1
      try clear c16
      try clear c16b0
      try clear c16b1
      try clear c17
      try clear c17b0
      try clear c18
      try clear c21
      try clear c24
      try clear c29
      try clear c31
      try clear c32
      try clear hcz12_0
      try clear hcz12_1
      try clear hcz12_2
      try clear hcz12_3
      try clear hcz12_4
      try clear hcz12_5
      try clear hcz19_0
      try clear hcz19_1
      try clear hcz19_2
      try clear hcz19_3
      try clear hcz19_4
      try clear hcz19_5
      try clear hcz20_0
      try clear hcz20_1
      try clear hcz20_2
      try clear hcz20_3
      try clear hcz22_0
      try clear hcz22_1
      try clear hcz22_2
      try clear hcz22_3
      try clear hcz22_4
      try clear hcz22_5
      try clear hcz23_0
      try clear hcz23_1
      try clear hcz23_2
      try clear hcz23_3
      try clear hcz25_0
      try clear hcz25_1
      try clear hcz25_2
      try clear hcz25_3
      try clear hcz25_4
      try clear hcz25_5
      try clear hcz26_0
      try clear hcz26_1
      try clear hcz26_2
      try clear hcz26_3
      try clear hcz30_0
      try clear hcz30_1
      try clear hcz30_2
      try clear hcz30_3
      try clear hcz30_4
      try clear hcz30_5
      try clear hcz33_0
      try clear hcz33_1
      try clear hcz33_2
      try clear hcz33_3
      try clear hcz33_4
      try clear hcz33_5
      try clear hcz5_0
      try clear hcz5_1
      try clear hcz5_2
      try clear hcz5_3
      try clear hcz5_4
      try clear hcz5_5
      try clear hcz9_0
      try clear hcz9_1
      try clear hcz9_2
      try clear hcz9_3
      try clear hfz12_0
      try clear hfz12_1
      try clear hfz12_2
      try clear hfz12_3
      try clear hfz12_4
      try clear hfz12_5
      try clear hfz19_0
      try clear hfz19_1
      try clear hfz19_2
      try clear hfz19_3
      try clear hfz19_4
      try clear hfz19_5
      try clear hfz20_0
      try clear hfz20_1
      try clear hfz20_2
      try clear hfz20_3
      try clear hfz22_0
      try clear hfz22_1
      try clear hfz22_2
      try clear hfz22_3
      try clear hfz22_4
      try clear hfz22_5
      try clear hfz23_0
      try clear hfz23_1
      try clear hfz23_2
      try clear hfz23_3
      try clear hfz25_0
      try clear hfz25_1
      try clear hfz25_2
      try clear hfz25_3
      try clear hfz25_4
      try clear hfz25_5
      try clear hfz26_0
      try clear hfz26_1
      try clear hfz26_2
      try clear hfz26_3
      try clear hfz30_0
      try clear hfz30_1
      try clear hfz30_2
      try clear hfz30_3
      try clear hfz30_4
      try clear hfz30_5
      try clear hfz33_0
      try clear hfz33_1
      try clear hfz33_2
      try clear hfz33_3
      try clear hfz33_4
      try clear hfz33_5
      try clear hfz5_0
      try clear hfz5_1
      try clear hfz5_2
      try clear hfz5_3
      try clear hfz5_4
      try clear hfz5_5
      try clear hfz9_0
      try clear hfz9_1
      try clear hfz9_2
      try clear hfz9_3
      try clear p2
      obtain ⟨kq, x59_27, rfl, HA, HJ27, BK285, BK291, HB⟩ := hcut
      cases kq with
      | zero => exact absurd HA.out (by simp [vesperref13_code.j1])
      | succ kj27 =>
       have H := HA.out
       clear HA
       simp only [vesperref13_code.j1] at H
       by_cases c34 : x59_27 = true
       ·subst c34
        have H1 : (some false) = some r := by rw [if_pos rfl] at H; exact H
        clear H
        have H := H1
        clear H1
        obtain rfl := Option.some.inj H
        go_wp2
        go_ret
        exact ⟨by first | rfl | (simp [errW_none, errW_some] <;> rfl) | (simp [*, errW_none, errW_some] <;> rfl), by repeat (first | (with_reducible first | exact HB.out | apply below_alloc | apply pw_below_drewN | apply below_drew1 | refine below_set ?_ GE285.out | refine below_set ?_ GE291.out) | exact HB.out)⟩
       ·replace c34 := Bool.eq_false_iff.mpr c34
        subst c34
        have H1 : (if t287 = 4 then (if a0_4 = 2 then (some true) else (some (a0_4 == 3))) else (if t287 = 5 then (some (a0_4 == 1)) else (if t287 = 6 then (some (a0_4 == 1)) else (some false)))) = some r := by rw [if_neg (show ¬ (false = true) by decide)] at H; exact H
        clear H
        have H := H1
        clear H1
        by_cases c35 : t287 = 4
        ·rw [if_pos c35] at H
         have c35b0 : (t287 == 4) = true := beq_iff_eq.mpr c35
         have c35b1 : (t287 != 4) = false := bne_eq_false_iff_eq.mpr c35
         clear c35
         by_cases c36 : a0_4 = 2
         ·rw [if_pos c36] at H
          have c36b0 : (a0_4 == 2) = true := beq_iff_eq.mpr c36
          have c36b1 : (a0_4 != 2) = false := bne_eq_false_iff_eq.mpr c36
          clear c36
          obtain rfl := Option.some.inj H
          have hnb37 := NB291_285.out
          have hnc37 := NB285_291.out
          have hcz38_0 : wc.cell? ⟨gb291, 0, none⟩ = some (.string t286) := (blk_cell BK291.out 0).trans rfl
          have hcz38_1 : wc.cell? ⟨gb291, 1, none⟩ = some (.int .u8 t287) := (blk_cell BK291.out 1).trans rfl
          have hcz38_2 : wc.cell? ⟨gb291, 2, none⟩ = some (.int .i64 t288) := (blk_cell BK291.out 2).trans rfl
          have hcz38_3 : wc.cell? ⟨gb291, 3, none⟩ = some (.int .i64 t289) := (blk_cell BK291.out 3).trans rfl
          have hfz38_0 := blk_frozen BK291.out 0
          have hfz38_1 := blk_frozen BK291.out 1
          have hfz38_2 := blk_frozen BK291.out 2
          have hfz38_3 := blk_frozen BK291.out 3
          have hcz39_0 : wc.cell? ⟨gb285, 0, none⟩ = some (.int .u8 a0_0) := (blk_cell BK285.out 0).trans rfl
          have hcz39_1 : wc.cell? ⟨gb285, 1, none⟩ = some (.string a0_1) := (blk_cell BK285.out 1).trans rfl
          have hcz39_2 : wc.cell? ⟨gb285, 2, none⟩ = some (.int .i64 a0_2) := (blk_cell BK285.out 2).trans rfl
          have hcz39_3 : wc.cell? ⟨gb285, 3, none⟩ = some (.string a0_3) := (blk_cell BK285.out 3).trans rfl
          have hcz39_4 : wc.cell? ⟨gb285, 4, none⟩ = some (.int .u8 a0_4) := (blk_cell BK285.out 4).trans rfl
          have hcz39_5 : wc.cell? ⟨gb285, 5, none⟩ = some (.slice A0_5 l0_5.length c0_5) := (blk_cell BK285.out 5).trans rfl
          have hfz39_0 := blk_frozen BK285.out 0
          have hfz39_1 := blk_frozen BK285.out 1
          have hfz39_2 := blk_frozen BK285.out 2
          have hfz39_3 := blk_frozen BK285.out 3
          have hfz39_4 := blk_frozen BK285.out 4
          have hfz39_5 := blk_frozen BK285.out 5
          go_wp2
          go_ret
          exact ⟨by first | rfl | (simp [errW_none, errW_some] <;> rfl) | (simp [*, errW_none, errW_some] <;> rfl), by repeat (first | (with_reducible first | exact HB.out | apply below_alloc | apply pw_below_drewN | apply below_drew1 | refine below_set ?_ GE285.out | refine below_set ?_ GE291.out) | exact HB.out)⟩
         ·rw [if_neg c36] at H
          have c36b0 : (a0_4 == 2) = false := beq_eq_false_iff_ne.mpr c36
          have c36b1 : (a0_4 != 2) = true := bne_iff_ne.mpr c36
          obtain rfl := Option.some.inj H
          have hnb40 := NB291_285.out
          have hnc40 := NB285_291.out
          have hcz41_0 : wc.cell? ⟨gb291, 0, none⟩ = some (.string t286) := (blk_cell BK291.out 0).trans rfl
          have hcz41_1 : wc.cell? ⟨gb291, 1, none⟩ = some (.int .u8 t287) := (blk_cell BK291.out 1).trans rfl
          have hcz41_2 : wc.cell? ⟨gb291, 2, none⟩ = some (.int .i64 t288) := (blk_cell BK291.out 2).trans rfl
          have hcz41_3 : wc.cell? ⟨gb291, 3, none⟩ = some (.int .i64 t289) := (blk_cell BK291.out 3).trans rfl
          have hfz41_0 := blk_frozen BK291.out 0
          have hfz41_1 := blk_frozen BK291.out 1
          have hfz41_2 := blk_frozen BK291.out 2
          have hfz41_3 := blk_frozen BK291.out 3
          have hcz42_0 : wc.cell? ⟨gb285, 0, none⟩ = some (.int .u8 a0_0) := (blk_cell BK285.out 0).trans rfl
          have hcz42_1 : wc.cell? ⟨gb285, 1, none⟩ = some (.string a0_1) := (blk_cell BK285.out 1).trans rfl
          have hcz42_2 : wc.cell? ⟨gb285, 2, none⟩ = some (.int .i64 a0_2) := (blk_cell BK285.out 2).trans rfl
          have hcz42_3 : wc.cell? ⟨gb285, 3, none⟩ = some (.string a0_3) := (blk_cell BK285.out 3).trans rfl
          have hcz42_4 : wc.cell? ⟨gb285, 4, none⟩ = some (.int .u8 a0_4) := (blk_cell BK285.out 4).trans rfl
          have hcz42_5 : wc.cell? ⟨gb285, 5, none⟩ = some (.slice A0_5 l0_5.length c0_5) := (blk_cell BK285.out 5).trans rfl
          have hfz42_0 := blk_frozen BK285.out 0
          have hfz42_1 := blk_frozen BK285.out 1
          have hfz42_2 := blk_frozen BK285.out 2
          have hfz42_3 := blk_frozen BK285.out 3
          have hfz42_4 := blk_frozen BK285.out 4
          have hfz42_5 := blk_frozen BK285.out 5
          go_wp2
          go_ret
          exact ⟨by first | rfl | (simp [errW_none, errW_some] <;> rfl) | (simp [*, errW_none, errW_some] <;> rfl), by repeat (first | (with_reducible first | exact HB.out | apply below_alloc | apply pw_below_drewN | apply below_drew1 | refine below_set ?_ GE285.out | refine below_set ?_ GE291.out) | exact HB.out)⟩
        ·rw [if_neg c35] at H
         have c35b0 : (t287 == 4) = false := beq_eq_false_iff_ne.mpr c35
         have c35b1 : (t287 != 4) = true := bne_iff_ne.mpr c35
         by_cases c43 : t287 = 5
         ·rw [if_pos c43] at H
          have c43b0 : (t287 == 5) = true := beq_iff_eq.mpr c43
          have c43b1 : (t287 != 5) = false := bne_eq_false_iff_eq.mpr c43
          clear c43
          obtain rfl := Option.some.inj H
          have hnb44 := NB291_285.out
          have hnc44 := NB285_291.out
          have hcz45_0 : wc.cell? ⟨gb291, 0, none⟩ = some (.string t286) := (blk_cell BK291.out 0).trans rfl
          have hcz45_1 : wc.cell? ⟨gb291, 1, none⟩ = some (.int .u8 t287) := (blk_cell BK291.out 1).trans rfl
          have hcz45_2 : wc.cell? ⟨gb291, 2, none⟩ = some (.int .i64 t288) := (blk_cell BK291.out 2).trans rfl
          have hcz45_3 : wc.cell? ⟨gb291, 3, none⟩ = some (.int .i64 t289) := (blk_cell BK291.out 3).trans rfl
          have hfz45_0 := blk_frozen BK291.out 0
          have hfz45_1 := blk_frozen BK291.out 1
          have hfz45_2 := blk_frozen BK291.out 2
          have hfz45_3 := blk_frozen BK291.out 3
          have hcz46_0 : wc.cell? ⟨gb285, 0, none⟩ = some (.int .u8 a0_0) := (blk_cell BK285.out 0).trans rfl
          have hcz46_1 : wc.cell? ⟨gb285, 1, none⟩ = some (.string a0_1) := (blk_cell BK285.out 1).trans rfl
          have hcz46_2 : wc.cell? ⟨gb285, 2, none⟩ = some (.int .i64 a0_2) := (blk_cell BK285.out 2).trans rfl
          have hcz46_3 : wc.cell? ⟨gb285, 3, none⟩ = some (.string a0_3) := (blk_cell BK285.out 3).trans rfl
          have hcz46_4 : wc.cell? ⟨gb285, 4, none⟩ = some (.int .u8 a0_4) := (blk_cell BK285.out 4).trans rfl
          have hcz46_5 : wc.cell? ⟨gb285, 5, none⟩ = some (.slice A0_5 l0_5.length c0_5) := (blk_cell BK285.out 5).trans rfl
          have hfz46_0 := blk_frozen BK285.out 0
          have hfz46_1 := blk_frozen BK285.out 1
          have hfz46_2 := blk_frozen BK285.out 2
          have hfz46_3 := blk_frozen BK285.out 3
          have hfz46_4 := blk_frozen BK285.out 4
          have hfz46_5 := blk_frozen BK285.out 5
          go_wp2
          go_ret
          exact ⟨by first | rfl | (simp [errW_none, errW_some] <;> rfl) | (simp [*, errW_none, errW_some] <;> rfl), by repeat (first | (with_reducible first | exact HB.out | apply below_alloc | apply pw_below_drewN | apply below_drew1 | refine below_set ?_ GE285.out | refine below_set ?_ GE291.out) | exact HB.out)⟩
         ·rw [if_neg c43] at H
          have c43b0 : (t287 == 5) = false := beq_eq_false_iff_ne.mpr c43
          have c43b1 : (t287 != 5) = true := bne_iff_ne.mpr c43
          by_cases c47 : t287 = 6
          ·rw [if_pos c47] at H
           have c47b0 : (t287 == 6) = true := beq_iff_eq.mpr c47
           have c47b1 : (t287 != 6) = false := bne_eq_false_iff_eq.mpr c47
           clear c47
           obtain rfl := Option.some.inj H
           have hnb48 := NB291_285.out
           have hnc48 := NB285_291.out
           have hcz49_0 : wc.cell? ⟨gb291, 0, none⟩ = some (.string t286) := (blk_cell BK291.out 0).trans rfl
           have hcz49_1 : wc.cell? ⟨gb291, 1, none⟩ = some (.int .u8 t287) := (blk_cell BK291.out 1).trans rfl
           have hcz49_2 : wc.cell? ⟨gb291, 2, none⟩ = some (.int .i64 t288) := (blk_cell BK291.out 2).trans rfl
           have hcz49_3 : wc.cell? ⟨gb291, 3, none⟩ = some (.int .i64 t289) := (blk_cell BK291.out 3).trans rfl
           have hfz49_0 := blk_frozen BK291.out 0
           have hfz49_1 := blk_frozen BK291.out 1
           have hfz49_2 := blk_frozen BK291.out 2
           have hfz49_3 := blk_frozen BK291.out 3
           have hcz50_0 : wc.cell? ⟨gb285, 0, none⟩ = some (.int .u8 a0_0) := (blk_cell BK285.out 0).trans rfl
           have hcz50_1 : wc.cell? ⟨gb285, 1, none⟩ = some (.string a0_1) := (blk_cell BK285.out 1).trans rfl
           have hcz50_2 : wc.cell? ⟨gb285, 2, none⟩ = some (.int .i64 a0_2) := (blk_cell BK285.out 2).trans rfl
           have hcz50_3 : wc.cell? ⟨gb285, 3, none⟩ = some (.string a0_3) := (blk_cell BK285.out 3).trans rfl
           have hcz50_4 : wc.cell? ⟨gb285, 4, none⟩ = some (.int .u8 a0_4) := (blk_cell BK285.out 4).trans rfl
           have hcz50_5 : wc.cell? ⟨gb285, 5, none⟩ = some (.slice A0_5 l0_5.length c0_5) := (blk_cell BK285.out 5).trans rfl
           have hfz50_0 := blk_frozen BK285.out 0
           have hfz50_1 := blk_frozen BK285.out 1
           have hfz50_2 := blk_frozen BK285.out 2
           have hfz50_3 := blk_frozen BK285.out 3
           have hfz50_4 := blk_frozen BK285.out 4
           have hfz50_5 := blk_frozen BK285.out 5
           go_wp2
           go_ret
           exact ⟨by first | rfl | (simp [errW_none, errW_some] <;> rfl) | (simp [*, errW_none, errW_some] <;> rfl), by repeat (first | (with_reducible first | exact HB.out | apply below_alloc | apply pw_below_drewN | apply below_drew1 | refine below_set ?_ GE285.out | refine below_set ?_ GE291.out) | exact HB.out)⟩
          ·rw [if_neg c47] at H
           have c47b0 : (t287 == 6) = false := beq_eq_false_iff_ne.mpr c47
           have c47b1 : (t287 != 6) = true := bne_iff_ne.mpr c47
           obtain rfl := Option.some.inj H
           have hnb51 := NB291_285.out
           have hnc51 := NB285_291.out
           have hcz52_0 : wc.cell? ⟨gb291, 0, none⟩ = some (.string t286) := (blk_cell BK291.out 0).trans rfl
           have hcz52_1 : wc.cell? ⟨gb291, 1, none⟩ = some (.int .u8 t287) := (blk_cell BK291.out 1).trans rfl
           have hcz52_2 : wc.cell? ⟨gb291, 2, none⟩ = some (.int .i64 t288) := (blk_cell BK291.out 2).trans rfl
           have hcz52_3 : wc.cell? ⟨gb291, 3, none⟩ = some (.int .i64 t289) := (blk_cell BK291.out 3).trans rfl
           have hfz52_0 := blk_frozen BK291.out 0
           have hfz52_1 := blk_frozen BK291.out 1
           have hfz52_2 := blk_frozen BK291.out 2
           have hfz52_3 := blk_frozen BK291.out 3
           go_wp2
           go_ret
           exact ⟨by first | rfl | (simp [errW_none, errW_some] <;> rfl) | (simp [*, errW_none, errW_some] <;> rfl), by repeat (first | (with_reducible first | exact HB.out | apply below_alloc | apply pw_below_drewN | apply below_drew1 | refine below_set ?_ GE285.out | refine below_set ?_ GE291.out) | exact HB.out)⟩
end Go.Proofs.YtjedbamcjgabpaaDoor.PSo
