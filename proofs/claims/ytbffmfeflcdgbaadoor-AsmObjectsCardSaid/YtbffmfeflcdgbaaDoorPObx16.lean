/- Written by a program of this session (gprint.py, over the kit's printer): functions of the seat YtbffmfeflcdgbaaDoor and their contracts. No condition but each contract's own. -/
import Derived.Test.YtbffmfeflcdgbaaDoorPObx0
import Derived.Test.YtbffmfeflcdgbaaDoorPObx1
import Derived.Test.YtbffmfeflcdgbaaDoorPObx2
import Derived.Test.YtbffmfeflcdgbaaDoorPObx15
namespace Go.Proofs.YtbffmfeflcdgbaaDoor.POb
open Go.RowKit Go.Proofs.YtbffmfeflcdgbaaDoorW.PrintWords Go.Proofs.YtbffmfeflcdgbaaDoorW.PrintLast Go.Proofs.YtbffmfeflcdgbaaDoorW.PrintMore
attribute [local go_sem] max2_int min2_int max_two min_two max_three min_three max_four min_four   -- for this text's walks alone
set_option linter.unusedVariables false
set_option linter.unusedSimpArgs false

attribute [local go_sem high] eqA47 eqA52
/-! ### vesperlaw14_alike: function 13 -/
mutual
def vesperlaw14_alike.j0 : Nat → Bool → List (S42) → List (S52) → List (S47) → List (S42) → List (S52) → List (S47) → Option (Bool)
 | 0, _, _, _, _, _, _, _ => none
 | k + 1, x32, x291000, x291001, x291002, x292000, x292001, x292002 => if x32 = true then (some false) else (vesperlaw14_alike.l0 k 0 x291000 x291001 x291002 x292000 x292001 x292002)
def vesperlaw14_alike.l0 : Nat → Int → List (S42) → List (S52) → List (S47) → List (S42) → List (S52) → List (S47) → Option (Bool)
 | 0, _, _, _, _, _, _, _ => none
 | k + 1, x5, x291000, x291001, x291002, x292000, x292001, x292002 => if x5 < (x291000.length : Int) then (if 0 ≤ x5 then (if x5 < (x292000.length : Int) then (if ((rd_T42 x291000 x5).f0) = ((rd_T42 x292000 x5).f0) then ((vesperlaw14_same.f k ((rd_T42 x291000 x5).f1) ((rd_T42 x292000 x5).f1)).bind fun t296 => (if t296 = true then (vesperlaw14_alike.l0 k (wrap64 (x5 + 1)) x291000 x291001 x291002 x292000 x292001 x292002) else (some false))) else (some false)) else (none)) else (none)) else (vesperlaw14_alike.l1 k 0 x291000 x291001 x291002 x292000 x292001 x292002)
def vesperlaw14_alike.l1 : Nat → Int → List (S42) → List (S52) → List (S47) → List (S42) → List (S52) → List (S47) → Option (Bool)
 | 0, _, _, _, _, _, _, _ => none
 | k + 1, x6, x291000, x291001, x291002, x292000, x292001, x292002 => if x6 < (x291001.length : Int) then (if 0 ≤ x6 then (if x6 < (x292001.length : Int) then (if (!(((rd_T52 x291001 x6).f0) == ((rd_T52 x292001 x6).f0)) || (!(((rd_T52 x291001 x6).f1) == ((rd_T52 x292001 x6).f1)) || (!(((rd_T52 x291001 x6).f2) == ((rd_T52 x292001 x6).f2))))) = true then (some false) else (vesperlaw14_alike.l1 k (wrap64 (x6 + 1)) x291000 x291001 x291002 x292000 x292001 x292002)) else (none)) else (none)) else (vesperlaw14_alike.l2 k 0 x291000 x291001 x291002 x292000 x292001 x292002)
def vesperlaw14_alike.l2 : Nat → Int → List (S42) → List (S52) → List (S47) → List (S42) → List (S52) → List (S47) → Option (Bool)
 | 0, _, _, _, _, _, _, _ => none
 | k + 1, x7, x291000, x291001, x291002, x292000, x292001, x292002 => if x7 < (x291002.length : Int) then (if 0 ≤ x7 then (if x7 < (x292002.length : Int) then (if (!((((rd_T47 x291002 x7).f0).toList) == (((rd_T47 x292002 x7).f0).toList)) || (!(((rd_T47 x291002 x7).f1) == ((rd_T47 x292002 x7).f1)))) = true then (some false) else (vesperlaw14_alike.l2 k (wrap64 (x7 + 1)) x291000 x291001 x291002 x292000 x292001 x292002)) else (none)) else (none)) else (some true)
end
def vesperlaw14_alike.f (k : Nat) (l0_0 : List (S42)) (l0_1 : List (S52)) (l0_2 : List (S47)) (l1_0 : List (S42)) (l1_1 : List (S52)) (l1_2 : List (S47)) : Option (Bool) := if (l0_0.length : Int) = (l1_0.length : Int) then (if (l0_1.length : Int) = (l1_1.length : Int) then (vesperlaw14_alike.j0 k ((l0_2.length : Int) != (l1_2.length : Int)) l0_0 l0_1 l0_2 l1_0 l1_1 l1_2) else (vesperlaw14_alike.j0 k true l0_0 l0_1 l0_2 l1_0 l1_1 l1_2)) else (vesperlaw14_alike.j0 k true l0_0 l0_1 l0_2 l1_0 l1_1 l1_2)
theorem vesperlaw14_alike.mono_l : ∀ k, (∀ y0 y1 y2 y3 y4 y5 y6, LeO (vesperlaw14_alike.j0 k y0 y1 y2 y3 y4 y5 y6) (vesperlaw14_alike.j0 (k + 1) y0 y1 y2 y3 y4 y5 y6)) ∧ (∀ y0 y1 y2 y3 y4 y5 y6, LeO (vesperlaw14_alike.l0 k y0 y1 y2 y3 y4 y5 y6) (vesperlaw14_alike.l0 (k + 1) y0 y1 y2 y3 y4 y5 y6)) ∧ (∀ y0 y1 y2 y3 y4 y5 y6, LeO (vesperlaw14_alike.l1 k y0 y1 y2 y3 y4 y5 y6) (vesperlaw14_alike.l1 (k + 1) y0 y1 y2 y3 y4 y5 y6)) ∧ (∀ y0 y1 y2 y3 y4 y5 y6, LeO (vesperlaw14_alike.l2 k y0 y1 y2 y3 y4 y5 y6) (vesperlaw14_alike.l2 (k + 1) y0 y1 y2 y3 y4 y5 y6))
 | 0 => ⟨fun _ _ _ _ _ _ _ r h => by simp [vesperlaw14_alike.j0] at h, fun _ _ _ _ _ _ _ r h => by simp [vesperlaw14_alike.l0] at h, fun _ _ _ _ _ _ _ r h => by simp [vesperlaw14_alike.l1] at h, fun _ _ _ _ _ _ _ r h => by simp [vesperlaw14_alike.l2] at h⟩
 | k + 1 => by
  obtain ⟨ih0, ih1, ih2, ih3⟩ := vesperlaw14_alike.mono_l k
  refine ⟨?_, ?_, ?_, ?_⟩
  ·intro y0 y1 y2 y3 y4 y5 y6
   unfold vesperlaw14_alike.j0
   repeat' first
   | (with_reducible exact ih0 _ _ _ _ _ _ _)
   | (with_reducible exact ih1 _ _ _ _ _ _ _)
   | (with_reducible exact ih2 _ _ _ _ _ _ _)
   | (with_reducible exact ih3 _ _ _ _ _ _ _)
   | (with_reducible exact vesperlaw14_same.mono _ _ _)
   | (with_reducible exact LeO.refl _)
   | (with_reducible exact LeO.none _)
   | (with_reducible refine LeO.ite ?_ ?_)
   | (with_reducible refine LeO.bind ?_ (fun _ => ?_))
   | exact ih0 _ _ _ _ _ _ _
   | exact ih1 _ _ _ _ _ _ _
   | exact ih2 _ _ _ _ _ _ _
   | exact ih3 _ _ _ _ _ _ _
   | exact vesperlaw14_same.mono _ _ _
   | exact LeO.none _
   | refine LeO.ite ?_ ?_
   | refine LeO.bind ?_ (fun _ => ?_)
  ·intro y0 y1 y2 y3 y4 y5 y6
   unfold vesperlaw14_alike.l0
   repeat' first
   | (with_reducible exact ih0 _ _ _ _ _ _ _)
   | (with_reducible exact ih1 _ _ _ _ _ _ _)
   | (with_reducible exact ih2 _ _ _ _ _ _ _)
   | (with_reducible exact ih3 _ _ _ _ _ _ _)
   | (with_reducible exact vesperlaw14_same.mono _ _ _)
   | (with_reducible exact LeO.refl _)
   | (with_reducible exact LeO.none _)
   | (with_reducible refine LeO.ite ?_ ?_)
   | (with_reducible refine LeO.bind ?_ (fun _ => ?_))
   | exact ih0 _ _ _ _ _ _ _
   | exact ih1 _ _ _ _ _ _ _
   | exact ih2 _ _ _ _ _ _ _
   | exact ih3 _ _ _ _ _ _ _
   | exact vesperlaw14_same.mono _ _ _
   | exact LeO.none _
   | refine LeO.ite ?_ ?_
   | refine LeO.bind ?_ (fun _ => ?_)
  ·intro y0 y1 y2 y3 y4 y5 y6
   unfold vesperlaw14_alike.l1
   repeat' first
   | (with_reducible exact ih0 _ _ _ _ _ _ _)
   | (with_reducible exact ih1 _ _ _ _ _ _ _)
   | (with_reducible exact ih2 _ _ _ _ _ _ _)
   | (with_reducible exact ih3 _ _ _ _ _ _ _)
   | (with_reducible exact vesperlaw14_same.mono _ _ _)
   | (with_reducible exact LeO.refl _)
   | (with_reducible exact LeO.none _)
   | (with_reducible refine LeO.ite ?_ ?_)
   | (with_reducible refine LeO.bind ?_ (fun _ => ?_))
   | exact ih0 _ _ _ _ _ _ _
   | exact ih1 _ _ _ _ _ _ _
   | exact ih2 _ _ _ _ _ _ _
   | exact ih3 _ _ _ _ _ _ _
   | exact vesperlaw14_same.mono _ _ _
   | exact LeO.none _
   | refine LeO.ite ?_ ?_
   | refine LeO.bind ?_ (fun _ => ?_)
  intro y0 y1 y2 y3 y4 y5 y6
  unfold vesperlaw14_alike.l2
  repeat' first
  | (with_reducible exact ih0 _ _ _ _ _ _ _)
  | (with_reducible exact ih1 _ _ _ _ _ _ _)
  | (with_reducible exact ih2 _ _ _ _ _ _ _)
  | (with_reducible exact ih3 _ _ _ _ _ _ _)
  | (with_reducible exact vesperlaw14_same.mono _ _ _)
  | (with_reducible exact LeO.refl _)
  | (with_reducible exact LeO.none _)
  | (with_reducible refine LeO.ite ?_ ?_)
  | (with_reducible refine LeO.bind ?_ (fun _ => ?_))
  | exact ih0 _ _ _ _ _ _ _
  | exact ih1 _ _ _ _ _ _ _
  | exact ih2 _ _ _ _ _ _ _
  | exact ih3 _ _ _ _ _ _ _
  | exact vesperlaw14_same.mono _ _ _
  | exact LeO.none _
  | refine LeO.ite ?_ ?_
  | refine LeO.bind ?_ (fun _ => ?_)
theorem vesperlaw14_alike.mono : ∀ a0 a1 a2 a3 a4 a5 k, LeO (vesperlaw14_alike.f k a0 a1 a2 a3 a4 a5) (vesperlaw14_alike.f (k + 1) a0 a1 a2 a3 a4 a5) := by
 intro a0 a1 a2 a3 a4 a5 k
 obtain ⟨ih0, ih1, ih2, ih3⟩ := vesperlaw14_alike.mono_l k
 unfold vesperlaw14_alike.f
 repeat' first
  | (with_reducible exact ih0 _ _ _ _ _ _ _)
  | (with_reducible exact ih1 _ _ _ _ _ _ _)
  | (with_reducible exact ih2 _ _ _ _ _ _ _)
  | (with_reducible exact ih3 _ _ _ _ _ _ _)
  | (with_reducible exact vesperlaw14_same.mono _ _ _)
  | (with_reducible exact LeO.refl _)
  | (with_reducible exact LeO.none _)
  | (with_reducible refine LeO.ite ?_ ?_)
  | (with_reducible refine LeO.bind ?_ (fun _ => ?_))
  | exact ih0 _ _ _ _ _ _ _
  | exact ih1 _ _ _ _ _ _ _
  | exact ih2 _ _ _ _ _ _ _
  | exact ih3 _ _ _ _ _ _ _
  | exact vesperlaw14_same.mono _ _ _
  | exact LeO.none _
  | refine LeO.ite ?_ ?_
  | refine LeO.bind ?_ (fun _ => ?_)
set_option maxHeartbeats 8000000 in
set_option maxRecDepth 100000 in
theorem vesperlaw14_alike.calls (k : Nat) (A0_0 : Option Addr) (c0_0 : Nat) (l0_0 : List (S42)) (A0_1 : Option Addr) (c0_1 : Nat) (l0_1 : List (S52)) (A0_2 : Option Addr) (c0_2 : Nat) (l0_2 : List (S47)) (A1_0 : Option Addr) (c1_0 : Nat) (l1_0 : List (S42)) (A1_1 : Option Addr) (c1_1 : Nat) (l1_1 : List (S52)) (A1_2 : Option Addr) (c1_2 : Nat) (l1_2 : List (S47)) (r : Bool) (w : World) (hr0_0 : Kd.C k42 w A0_0 l0_0.length l0_0) (hc0_0 : l0_0.length ≤ c0_0) (hr0_1 : Kd.C k52 w A0_1 l0_1.length l0_1) (hc0_1 : l0_1.length ≤ c0_1) (hr0_2 : Kd.C k47 w A0_2 l0_2.length l0_2) (hc0_2 : l0_2.length ≤ c0_2) (hr1_0 : Kd.C k42 w A1_0 l1_0.length l1_0) (hc1_0 : l1_0.length ≤ c1_0) (hr1_1 : Kd.C k52 w A1_1 l1_1.length l1_1) (hc1_1 : l1_1.length ≤ c1_1) (hr1_2 : Kd.C k47 w A1_2 l1_2.length l1_2) (hc1_2 : l1_2.length ≤ c1_2) (h : vesperlaw14_alike.f k l0_0 l0_1 l0_2 l1_0 l1_1 l1_2 = some r) :
 Calls Tryd.prog 13 #[.agg #[.slice A0_0 l0_0.length c0_0, .slice A0_1 l0_1.length c0_1, .slice A0_2 l0_2.length c0_2], .agg #[.slice A1_0 l1_0.length c1_0, .slice A1_1 l1_1.length c1_1, .slice A1_2 l1_2.length c1_2]] w fun e w' => e = .returned (.bool r) ∧ Below w.heap.size w w' := by
 have hu26 := Tryd.underlying26
 have hu52 := Tryd.underlying52
 have hu47 := Tryd.underlying47
 have HR0_0 := Aside0.mk hr0_0
 have HC0_0 := Aside0.mk hc0_0
 clear hr0_0 hc0_0
 have HR0_1 := Aside0.mk hr0_1
 have HC0_1 := Aside0.mk hc0_1
 clear hr0_1 hc0_1
 have HR0_2 := Aside0.mk hr0_2
 have HC0_2 := Aside0.mk hc0_2
 clear hr0_2 hc0_2
 have HR1_0 := Aside0.mk hr1_0
 have HC1_0 := Aside0.mk hc1_0
 clear hr1_0 hc1_0
 have HR1_1 := Aside0.mk hr1_1
 have HC1_1 := Aside0.mk hc1_1
 clear hr1_1 hc1_1
 have HR1_2 := Aside0.mk hr1_2
 have HC1_2 := Aside0.mk hc1_2
 clear hr1_2 hc1_2
 have HB := Aside0.mk (Below.refl w.heap.size w)
 have H : (if (l0_0.length : Int) = (l1_0.length : Int) then (if (l0_1.length : Int) = (l1_1.length : Int) then (vesperlaw14_alike.j0 k ((l0_2.length : Int) != (l1_2.length : Int)) l0_0 l0_1 l0_2 l1_0 l1_1 l1_2) else (vesperlaw14_alike.j0 k true l0_0 l0_1 l0_2 l1_0 l1_1 l1_2)) else (vesperlaw14_alike.j0 k true l0_0 l0_1 l0_2 l1_0 l1_1 l1_2)) = some r := h
 clear h
 have HC3 := Aside0.mk H
 clear H
 go_enter Tryd.func13, Tryd.ntmps13
 go_upto_region 1 with (first | ((with_reducible refine gate_dst (N := 2) rfl ?_); (try (refine gate_guard (by rfl) ?_; dsimp only)); refine box_event ?hg (N := 2) ?hd (cs := #[.slice A0_0 l0_0.length c0_0, .slice A0_1 l0_1.length c0_1, .slice A0_2 l0_2.length c0_2]) (t := 26) ?hr ?_; (case hd => rfl); (case hg => rfl); (case hr => first | (go_simp; done) | (go_simp; rfl)); intro gb290 hg w4 hbox hb; have n0_ := Aside0.mk (below_step bw hb); have n1_ := Aside0.mk (hbox); have n2_ := Aside0.mk (bz hg : w.heap.size ≤ gb290); have n3_ := Aside0.mk (bz hg : w.heap.size ≤ gb290); clear HB; have HB := n0_; have BK290 := n1_; have GW290 := n2_; have GE290 := n3_; clear n0_ n1_ n2_ n3_; clear hb hbox hg) | ((with_reducible refine gate_dst (N := 3) rfl ?_); (try (refine gate_guard (by rfl) ?_; dsimp only)); refine box_event ?hg (N := 3) ?hd (cs := #[.slice A1_0 l1_0.length c1_0, .slice A1_1 l1_1.length c1_1, .slice A1_2 l1_2.length c1_2]) (t := 26) ?hr ?_; (case hd => rfl); (case hg => rfl); (case hr => first | (go_simp; done) | (go_simp; rfl)); intro gb291 hg w5 hbox hb; have n0_ := Aside0.mk (blk_below (g := gb290) (o := .cells #[.slice A0_0 l0_0.length c0_0, .slice A0_1 l0_1.length c0_1, .slice A0_2 l0_2.length c0_2] 26 (0, 0)) bk hb); have n1_ := Aside0.mk (below_step bw hb); have n2_ := Aside0.mk (hbox); have n3_ := Aside0.mk (bz hg : w.heap.size ≤ gb291); have n4_ := Aside0.mk (bz hg : w.heap.size ≤ gb291); have n5_ := Aside0.mk ((by rw [hg]; exact Nat.ne_of_lt (blk_lt (g := gb290) (o := .cells #[.slice A0_0 l0_0.length c0_0, .slice A0_1 l0_1.length c0_1, .slice A0_2 l0_2.length c0_2] 26 (0, 0)) bk) : gb290 ≠ gb291)); have n6_ := Aside0.mk ((by rw [hg]; exact Nat.ne_of_gt (blk_lt (g := gb290) (o := .cells #[.slice A0_0 l0_0.length c0_0, .slice A0_1 l0_1.length c0_1, .slice A0_2 l0_2.length c0_2] 26 (0, 0)) bk) : gb291 ≠ gb290)); clear BK290; clear HB; have BK290 := n0_; have HB := n1_; have BK291 := n2_; have GW291 := n3_; have GE291 := n4_; have NB290_291 := n5_; have NB291_290 := n6_; clear n0_ n1_ n2_ n3_ n4_ n5_ n6_; clear hb hbox hg))
 repeat (go_quiet (fail); go_upto_region 1 with (fail))
 (try simp only [Act.put, List.setIfInBounds_toArray, List.set_cons_zero, List.set_cons_succ])
 go_cut [32] (fun v32 wc => ∃ (kq : Nat) (x32_2 : Bool), v32 = .bool x32_2 ∧ Aside0 (vesperlaw14_alike.j0 kq x32_2 l0_0 l0_1 l0_2 l1_0 l1_1 l1_2 = some r) ∧ Aside0 (kq ≤ k) ∧ Aside0 (wc.heap[gb290]? = some (.cells #[(.slice A0_0 l0_0.length c0_0), (.slice A0_1 l0_1.length c0_1), (.slice A0_2 l0_2.length c0_2)] 26 (0, 0))) ∧ Aside0 (wc.heap[gb291]? = some (.cells #[(.slice A1_0 l1_0.length c1_0), (.slice A1_1 l1_1.length c1_1), (.slice A1_2 l1_2.length c1_2)] 26 (0, 0))) ∧ Aside0 (Below w.heap.size w wc))
 case first =>
  have H := HC3.out
  clear HC3
  by_cases c6 : (l0_0.length : Int) = (l1_0.length : Int)
  ·rw [if_pos c6] at H
   have c6b0 : ((l0_0.length : Int) == (l1_0.length : Int)) = true := beq_iff_eq.mpr c6
   have c6b1 : ((l0_0.length : Int) != (l1_0.length : Int)) = false := bne_eq_false_iff_eq.mpr c6
   have c6b2 : (l0_0.length == l1_0.length) = true := by first | simpa using c6 | (simp at c6 ⊢; omega)
   clear c6
   (first | rw [c6b0] | (simp only [i64_w, i32_w]; rw [c6b0]) | skip)
   by_cases c7 : (l0_1.length : Int) = (l1_1.length : Int)
   ·rw [if_pos c7] at H
    have c7b0 : ((l0_1.length : Int) == (l1_1.length : Int)) = true := beq_iff_eq.mpr c7
    have c7b1 : ((l0_1.length : Int) != (l1_1.length : Int)) = false := bne_eq_false_iff_eq.mpr c7
    have c7b2 : (l0_1.length == l1_1.length) = true := by first | simpa using c7 | (simp at c7 ⊢; omega)
    clear c7
    have H' := Aside0.mk H
    clear H
    have hnb8 := NB290_291.out
    have hnc8 := NB291_290.out
    have hcz9_0 : w5.cell? ⟨gb290, 0, none⟩ = some (.slice A0_0 l0_0.length c0_0) := (blk_cell BK290.out 0).trans rfl
    have hcz9_1 : w5.cell? ⟨gb290, 1, none⟩ = some (.slice A0_1 l0_1.length c0_1) := (blk_cell BK290.out 1).trans rfl
    have hcz9_2 : w5.cell? ⟨gb290, 2, none⟩ = some (.slice A0_2 l0_2.length c0_2) := (blk_cell BK290.out 2).trans rfl
    have hfz9_0 := blk_frozen BK290.out 0
    have hfz9_1 := blk_frozen BK290.out 1
    have hfz9_2 := blk_frozen BK290.out 2
    have hcz10_0 : w5.cell? ⟨gb291, 0, none⟩ = some (.slice A1_0 l1_0.length c1_0) := (blk_cell BK291.out 0).trans rfl
    have hcz10_1 : w5.cell? ⟨gb291, 1, none⟩ = some (.slice A1_1 l1_1.length c1_1) := (blk_cell BK291.out 1).trans rfl
    have hcz10_2 : w5.cell? ⟨gb291, 2, none⟩ = some (.slice A1_2 l1_2.length c1_2) := (blk_cell BK291.out 2).trans rfl
    have hfz10_0 := blk_frozen BK291.out 0
    have hfz10_1 := blk_frozen BK291.out 1
    have hfz10_2 := blk_frozen BK291.out 2
    go_wp2
    repeat (go_quiet (fail); try go_wp2)
    go_meet
    case rel => exact ⟨_, (((l0_2.length : Int) != (l1_2.length : Int))), rs, H', ⟨by first | omega | exact Nat.le_refl _⟩, ⟨by (with_reducible repeat (first | refine blk_drewN ?_ _ | refine blk_drew ?_ | refine blk_alloc ?_ _)); exact BK290.out⟩, ⟨by (with_reducible repeat (first | refine blk_drewN ?_ _ | refine blk_drew ?_ | refine blk_alloc ?_ _)); exact BK291.out⟩, ⟨bw⟩⟩
   rw [if_neg c7] at H
   have c7b0 : ((l0_1.length : Int) == (l1_1.length : Int)) = false := beq_eq_false_iff_ne.mpr c7
   have c7b1 : ((l0_1.length : Int) != (l1_1.length : Int)) = true := bne_iff_ne.mpr c7
   have c7b2 : (l0_1.length == l1_1.length) = false := by first | simpa using c7 | (simp at c7 ⊢; omega)
   have H' := Aside0.mk H
   clear H
   have hnb11 := NB290_291.out
   have hnc11 := NB291_290.out
   have hcz12_0 : w5.cell? ⟨gb290, 0, none⟩ = some (.slice A0_0 l0_0.length c0_0) := (blk_cell BK290.out 0).trans rfl
   have hcz12_1 : w5.cell? ⟨gb290, 1, none⟩ = some (.slice A0_1 l0_1.length c0_1) := (blk_cell BK290.out 1).trans rfl
   have hcz12_2 : w5.cell? ⟨gb290, 2, none⟩ = some (.slice A0_2 l0_2.length c0_2) := (blk_cell BK290.out 2).trans rfl
   have hfz12_0 := blk_frozen BK290.out 0
   have hfz12_1 := blk_frozen BK290.out 1
   have hfz12_2 := blk_frozen BK290.out 2
   have hcz13_0 : w5.cell? ⟨gb291, 0, none⟩ = some (.slice A1_0 l1_0.length c1_0) := (blk_cell BK291.out 0).trans rfl
   have hcz13_1 : w5.cell? ⟨gb291, 1, none⟩ = some (.slice A1_1 l1_1.length c1_1) := (blk_cell BK291.out 1).trans rfl
   have hcz13_2 : w5.cell? ⟨gb291, 2, none⟩ = some (.slice A1_2 l1_2.length c1_2) := (blk_cell BK291.out 2).trans rfl
   have hfz13_0 := blk_frozen BK291.out 0
   have hfz13_1 := blk_frozen BK291.out 1
   have hfz13_2 := blk_frozen BK291.out 2
   go_wp2
   repeat (go_quiet (fail); try go_wp2)
   go_meet
   case rel => exact ⟨_, (true), rs, H', ⟨by first | omega | exact Nat.le_refl _⟩, ⟨by (with_reducible repeat (first | refine blk_drewN ?_ _ | refine blk_drew ?_ | refine blk_alloc ?_ _)); exact BK290.out⟩, ⟨by (with_reducible repeat (first | refine blk_drewN ?_ _ | refine blk_drew ?_ | refine blk_alloc ?_ _)); exact BK291.out⟩, ⟨bw⟩⟩
  rw [if_neg c6] at H
  have c6b0 : ((l0_0.length : Int) == (l1_0.length : Int)) = false := beq_eq_false_iff_ne.mpr c6
  have c6b1 : ((l0_0.length : Int) != (l1_0.length : Int)) = true := bne_iff_ne.mpr c6
  have c6b2 : (l0_0.length == l1_0.length) = false := by first | simpa using c6 | (simp at c6 ⊢; omega)
  (first | rw [c6b0] | (simp only [i64_w, i32_w]; rw [c6b0]) | skip)
  have H' := Aside0.mk H
  clear H
  have hnb14 := NB290_291.out
  have hnc14 := NB291_290.out
  have hcz15_0 : w5.cell? ⟨gb290, 0, none⟩ = some (.slice A0_0 l0_0.length c0_0) := (blk_cell BK290.out 0).trans rfl
  have hcz15_1 : w5.cell? ⟨gb290, 1, none⟩ = some (.slice A0_1 l0_1.length c0_1) := (blk_cell BK290.out 1).trans rfl
  have hcz15_2 : w5.cell? ⟨gb290, 2, none⟩ = some (.slice A0_2 l0_2.length c0_2) := (blk_cell BK290.out 2).trans rfl
  have hfz15_0 := blk_frozen BK290.out 0
  have hfz15_1 := blk_frozen BK290.out 1
  have hfz15_2 := blk_frozen BK290.out 2
  have hcz16_0 : w5.cell? ⟨gb291, 0, none⟩ = some (.slice A1_0 l1_0.length c1_0) := (blk_cell BK291.out 0).trans rfl
  have hcz16_1 : w5.cell? ⟨gb291, 1, none⟩ = some (.slice A1_1 l1_1.length c1_1) := (blk_cell BK291.out 1).trans rfl
  have hcz16_2 : w5.cell? ⟨gb291, 2, none⟩ = some (.slice A1_2 l1_2.length c1_2) := (blk_cell BK291.out 2).trans rfl
  have hfz16_0 := blk_frozen BK291.out 0
  have hfz16_1 := blk_frozen BK291.out 1
  have hfz16_2 := blk_frozen BK291.out 2
  go_wp2
  repeat (go_quiet (fail); try go_wp2)
  go_meet
  case rel => exact ⟨_, (true), rs, H', ⟨by first | omega | exact Nat.le_refl _⟩, ⟨by (with_reducible repeat (first | refine blk_drewN ?_ _ | refine blk_drew ?_ | refine blk_alloc ?_ _)); exact BK290.out⟩, ⟨by (with_reducible repeat (first | refine blk_drewN ?_ _ | refine blk_drew ?_ | refine blk_alloc ?_ _)); exact BK291.out⟩, ⟨bw⟩⟩
 case rest =>
  clear HC3
  obtain ⟨kq, x32_2, rfl, HA, HJ2, BK290, BK291, HB⟩ := hcut
  cases kq with
  | zero => exact absurd HA.out (by simp [vesperlaw14_alike.j0])
  | succ kj2 =>
   have H := HA.out
   clear HA
   simp only [vesperlaw14_alike.j0] at H
   by_cases c17 : x32_2 = true
   ·subst c17
    have H1 : (some false) = some r := by rw [if_pos rfl] at H; exact H
    clear H
    have H := H1
    clear H1
    obtain rfl := Option.some.inj H
    go_wp2
    repeat (go_quiet (fail); try go_wp2)
    go_ret
    exact ⟨ew, bw⟩
   replace c17 := Bool.eq_false_iff.mpr c17
   subst c17
   have H1 : (vesperlaw14_alike.l0 kj2 0 l0_0 l0_1 l0_2 l1_0 l1_1 l1_2) = some r := by rw [if_neg (show ¬ (false = true) by decide)] at H; exact H
   clear H
   have H := H1
   clear H1
   have H' := Aside0.mk H
   clear H
   go_wp2
   repeat (go_quiet (fail); try go_wp2)
   go_loopg [5] kj2 (fun kq v5 w' => ∃ (x5_2 : Int), v5 = .int .i64 x5_2 ∧ Aside0 (vesperlaw14_alike.l0 kq x5_2 l0_0 l0_1 l0_2 l1_0 l1_1 l1_2 = some r) ∧ Aside0 (kq ≤ kj2) ∧ Aside0 (w'.heap[gb290]? = some (.cells #[(.slice A0_0 l0_0.length c0_0), (.slice A0_1 l0_1.length c0_1), (.slice A0_2 l0_2.length c0_2)] 26 (0, 0))) ∧ Aside0 (w'.heap[gb291]? = some (.cells #[(.slice A1_0 l1_0.length c1_0), (.slice A1_1 l1_1.length c1_1), (.slice A1_2 l1_2.length c1_2)] 26 (0, 0))) ∧ Aside0 (Below w.heap.size w w'))
   case atStart => exact ⟨(0), rs, H', ⟨Nat.le_refl _⟩, ⟨by (with_reducible repeat (first | refine blk_drewN ?_ _ | refine blk_drew ?_ | refine blk_alloc ?_ _)); exact BK290.out⟩, ⟨by (with_reducible repeat (first | refine blk_drewN ?_ _ | refine blk_drew ?_ | refine blk_alloc ?_ _)); exact BK291.out⟩, ⟨bw⟩⟩
   case round =>
    clear H'
    obtain ⟨x5_2, rfl, HA, HK2, BK290, BK291, HB⟩ := hrel
    cases gk with
    | zero => exact absurd HA.out (by simp [vesperlaw14_alike.l0])
    | succ k2 =>
     have H := HA.out
     clear HA
     simp only [vesperlaw14_alike.l0] at H
     by_cases c18 : x5_2 < (l0_0.length : Int)
     ·rw [if_pos c18] at H
      have c18b0 : decide (x5_2 < (l0_0.length : Int)) = true := decide_eq_true c18
      clear c18
      by_cases c19 : 0 ≤ x5_2
      ·rw [if_pos c19] at H
       have c19b0 : decide (0 ≤ x5_2) = true := decide_eq_true c19
       clear c19
       by_cases c20 : x5_2 < (l1_0.length : Int)
       ·rw [if_pos c20] at H
        have c20b0 : decide (x5_2 < (l1_0.length : Int)) = true := decide_eq_true c20
        clear c20
        by_cases c21 : ((rd_T42 l0_0 x5_2).f0) = ((rd_T42 l1_0 x5_2).f0)
        ·rw [if_pos c21] at H
         have c21b0 : (((rd_T42 l0_0 x5_2).f0) == ((rd_T42 l1_0 x5_2).f0)) = true := beq_iff_eq.mpr c21
         have c21b1 : (((rd_T42 l0_0 x5_2).f0) != ((rd_T42 l1_0 x5_2).f0)) = false := bne_eq_false_iff_eq.mpr c21
         clear c21
         replace H := Option.bind_eq_some_iff.mp H
         obtain ⟨t296, A220, H⟩ := H
         replace H : (if t296 = true then (vesperlaw14_alike.l0 k2 (wrap64 (x5_2 + 1)) l0_0 l0_1 l0_2 l1_0 l1_1 l1_2) else (some false)) = some r := H
         have A22 := Aside0.mk A220
         clear A220
         by_cases c23 : t296 = true
         ·subst c23
          have H1 : (vesperlaw14_alike.l0 k2 (wrap64 (x5_2 + 1)) l0_0 l0_1 l0_2 l1_0 l1_1 l1_2) = some r := by rw [if_pos rfl] at H; exact H
          clear H
          have H := H1
          clear H1
          have H' := Aside0.mk H
          clear H
          have hnb24 := NB290_291.out
          have hnc24 := NB291_290.out
          have hcz25_0 : wr.cell? ⟨gb290, 0, none⟩ = some (.slice A0_0 l0_0.length c0_0) := (blk_cell BK290.out 0).trans rfl
          have hcz25_1 : wr.cell? ⟨gb290, 1, none⟩ = some (.slice A0_1 l0_1.length c0_1) := (blk_cell BK290.out 1).trans rfl
          have hcz25_2 : wr.cell? ⟨gb290, 2, none⟩ = some (.slice A0_2 l0_2.length c0_2) := (blk_cell BK290.out 2).trans rfl
          have hfz25_0 := blk_frozen BK290.out 0
          have hfz25_1 := blk_frozen BK290.out 1
          have hfz25_2 := blk_frozen BK290.out 2
          have p292 : 0 ≤ (x5_2 : Int) := oda
          have q292 : x5_2 < (l0_0.length : Int) := oda
          obtain ⟨ad292, A292_1, c292_1, e292, hx292_0, hx292_1, hl292_1, hi292_1⟩ := at_T42 HR0_0.out x5_2 p292 q292
          cases e292
          replace hx292_0 := up_ HB hx292_0
          replace hx292_1 := up_ HB hx292_1
          have HR292_1 := Aside0.mk hi292_1
          have HC292_1 := Aside0.mk hl292_1
          clear hi292_1 hl292_1
          replace p292 := eq_true p292
          replace q292 := eq_true q292
          have hcz26_0 : wr.cell? ⟨gb291, 0, none⟩ = some (.slice A1_0 l1_0.length c1_0) := (blk_cell BK291.out 0).trans rfl
          have hcz26_1 : wr.cell? ⟨gb291, 1, none⟩ = some (.slice A1_1 l1_1.length c1_1) := (blk_cell BK291.out 1).trans rfl
          have hcz26_2 : wr.cell? ⟨gb291, 2, none⟩ = some (.slice A1_2 l1_2.length c1_2) := (blk_cell BK291.out 2).trans rfl
          have hfz26_0 := blk_frozen BK291.out 0
          have hfz26_1 := blk_frozen BK291.out 1
          have hfz26_2 := blk_frozen BK291.out 2
          have p293 : 0 ≤ (x5_2 : Int) := oda
          have q293 : x5_2 < (l1_0.length : Int) := oda
          obtain ⟨ad293, A293_1, c293_1, e293, hx293_0, hx293_1, hl293_1, hi293_1⟩ := at_T42 HR1_0.out x5_2 p293 q293
          cases e293
          replace hx293_0 := up_ HB hx293_0
          replace hx293_1 := up_ HB hx293_1
          have HR293_1 := Aside0.mk hi293_1
          have HC293_1 := Aside0.mk hl293_1
          clear hi293_1 hl293_1
          replace p293 := eq_true p293
          replace q293 := eq_true q293
          have p294 : 0 ≤ (x5_2 : Int) := oda
          have q294 : x5_2 < (l0_0.length : Int) := oda
          obtain ⟨ad294, A294_1, c294_1, e294, hx294_0, hx294_1, hl294_1, hi294_1⟩ := at_T42 HR0_0.out x5_2 p294 q294
          obtain rfl : ad292 = ad294 := (by injection e294)
          replace hx294_0 := up_ HB hx294_0
          replace hx294_1 := up_ HB hx294_1
          have HR294_1 := Aside0.mk hi294_1
          have HC294_1 := Aside0.mk hl294_1
          clear hi294_1 hl294_1
          replace p294 := eq_true p294
          replace q294 := eq_true q294
          have ea_ := Option.some.inj (hx292_1.symm.trans hx294_1)
          injection ea_ with ea_ en_ ec_
          subst ea_
          subst ec_
          clear en_
          have p295 : 0 ≤ (x5_2 : Int) := oda
          have q295 : x5_2 < (l1_0.length : Int) := oda
          obtain ⟨ad295, A295_1, c295_1, e295, hx295_0, hx295_1, hl295_1, hi295_1⟩ := at_T42 HR1_0.out x5_2 p295 q295
          obtain rfl : ad293 = ad295 := (by injection e295)
          replace hx295_0 := up_ HB hx295_0
          replace hx295_1 := up_ HB hx295_1
          have HR295_1 := Aside0.mk hi295_1
          have HC295_1 := Aside0.mk hl295_1
          clear hi295_1 hl295_1
          replace p295 := eq_true p295
          replace q295 := eq_true q295
          have ea_ := Option.some.inj (hx293_1.symm.trans hx295_1)
          injection ea_ with ea_ en_ ec_
          subst ea_
          subst ec_
          clear en_
          go_wp2_with (first | (go_at_call 12; (with_reducible refine (vesperlaw14_same.calls k2 _ _ ((rd_T42 l0_0 x5_2).f1) _ _ ((rd_T42 l1_0 x5_2).f1) true _ ?side1 ?side2 ?side3 ?side4 A22.out).mono ?_); (case side1 => repeat (first | exact (Kd.C_below HR294_1.out HB.out) | (with_reducible refine Kd.C_alloc ?_ _) | (with_reducible refine Kd.C_drewN ?_ _) | (with_reducible refine Kd.C_drew ?_))); (case side2 => exact HC294_1.out); (case side3 => repeat (first | exact (Kd.C_below HR295_1.out HB.out) | (with_reducible refine Kd.C_alloc ?_ _) | (with_reducible refine Kd.C_drewN ?_ _) | (with_reducible refine Kd.C_drew ?_))); (case side4 => exact HC295_1.out); rintro e w' ⟨rfl, ⟨nd, rfl⟩⟩; (try first | exact ⟨rfl, _, World.drewN_drewN _ _ _⟩ | exact ⟨rfl, _, Eq.trans (World.drewN_drewN _ _ _) (congrArg (World.drewN _) (Nat.add_assoc _ _ _))⟩)))
          repeat (go_quiet (first | (go_at_call 12; (with_reducible refine (vesperlaw14_same.calls k2 _ _ ((rd_T42 l0_0 x5_2).f1) _ _ ((rd_T42 l1_0 x5_2).f1) true _ ?side1 ?side2 ?side3 ?side4 A22.out).mono ?_); (case side1 => repeat (first | exact (Kd.C_below HR294_1.out HB.out) | (with_reducible refine Kd.C_alloc ?_ _) | (with_reducible refine Kd.C_drewN ?_ _) | (with_reducible refine Kd.C_drew ?_))); (case side2 => exact HC294_1.out); (case side3 => repeat (first | exact (Kd.C_below HR295_1.out HB.out) | (with_reducible refine Kd.C_alloc ?_ _) | (with_reducible refine Kd.C_drewN ?_ _) | (with_reducible refine Kd.C_drew ?_))); (case side4 => exact HC295_1.out); rintro e w' ⟨rfl, ⟨nd, rfl⟩⟩; (try first | exact ⟨rfl, _, World.drewN_drewN _ _ _⟩ | exact ⟨rfl, _, Eq.trans (World.drewN_drewN _ _ _) (congrArg (World.drewN _) (Nat.add_assoc _ _ _))⟩))); try go_wp2_with (first | (go_at_call 12; (with_reducible refine (vesperlaw14_same.calls k2 _ _ ((rd_T42 l0_0 x5_2).f1) _ _ ((rd_T42 l1_0 x5_2).f1) true _ ?side1 ?side2 ?side3 ?side4 A22.out).mono ?_); (case side1 => repeat (first | exact (Kd.C_below HR294_1.out HB.out) | (with_reducible refine Kd.C_alloc ?_ _) | (with_reducible refine Kd.C_drewN ?_ _) | (with_reducible refine Kd.C_drew ?_))); (case side2 => exact HC294_1.out); (case side3 => repeat (first | exact (Kd.C_below HR295_1.out HB.out) | (with_reducible refine Kd.C_alloc ?_ _) | (with_reducible refine Kd.C_drewN ?_ _) | (with_reducible refine Kd.C_drew ?_))); (case side4 => exact HC295_1.out); rintro e w' ⟨rfl, ⟨nd, rfl⟩⟩; (try first | exact ⟨rfl, _, World.drewN_drewN _ _ _⟩ | exact ⟨rfl, _, Eq.trans (World.drewN_drewN _ _ _) (congrArg (World.drewN _) (Nat.add_assoc _ _ _))⟩))))
          go_roundg k2
          case measure => have := HJ2.out; have := HK2.out; omega
          case rel => exact ⟨(wrap64 (x5_2 + 1)), rs, H', ⟨by have := HJ2.out; have := HK2.out; omega⟩, ⟨by (with_reducible repeat (first | refine blk_drewN ?_ _ | refine blk_drew ?_ | refine blk_alloc ?_ _)); exact BK290.out⟩, ⟨by (with_reducible repeat (first | refine blk_drewN ?_ _ | refine blk_drew ?_ | refine blk_alloc ?_ _)); exact BK291.out⟩, ⟨bw⟩⟩
         replace c23 := Bool.eq_false_iff.mpr c23
         subst c23
         have H1 : (some false) = some r := by rw [if_neg (show ¬ (false = true) by decide)] at H; exact H
         clear H
         have H := H1
         clear H1
         obtain rfl := Option.some.inj H
         have hnb27 := NB290_291.out
         have hnc27 := NB291_290.out
         have hcz28_0 : wr.cell? ⟨gb290, 0, none⟩ = some (.slice A0_0 l0_0.length c0_0) := (blk_cell BK290.out 0).trans rfl
         have hcz28_1 : wr.cell? ⟨gb290, 1, none⟩ = some (.slice A0_1 l0_1.length c0_1) := (blk_cell BK290.out 1).trans rfl
         have hcz28_2 : wr.cell? ⟨gb290, 2, none⟩ = some (.slice A0_2 l0_2.length c0_2) := (blk_cell BK290.out 2).trans rfl
         have hfz28_0 := blk_frozen BK290.out 0
         have hfz28_1 := blk_frozen BK290.out 1
         have hfz28_2 := blk_frozen BK290.out 2
         have p292 : 0 ≤ (x5_2 : Int) := oda
         have q292 : x5_2 < (l0_0.length : Int) := oda
         obtain ⟨ad292, A292_1, c292_1, e292, hx292_0, hx292_1, hl292_1, hi292_1⟩ := at_T42 HR0_0.out x5_2 p292 q292
         cases e292
         replace hx292_0 := up_ HB hx292_0
         replace hx292_1 := up_ HB hx292_1
         have HR292_1 := Aside0.mk hi292_1
         have HC292_1 := Aside0.mk hl292_1
         clear hi292_1 hl292_1
         replace p292 := eq_true p292
         replace q292 := eq_true q292
         have hcz29_0 : wr.cell? ⟨gb291, 0, none⟩ = some (.slice A1_0 l1_0.length c1_0) := (blk_cell BK291.out 0).trans rfl
         have hcz29_1 : wr.cell? ⟨gb291, 1, none⟩ = some (.slice A1_1 l1_1.length c1_1) := (blk_cell BK291.out 1).trans rfl
         have hcz29_2 : wr.cell? ⟨gb291, 2, none⟩ = some (.slice A1_2 l1_2.length c1_2) := (blk_cell BK291.out 2).trans rfl
         have hfz29_0 := blk_frozen BK291.out 0
         have hfz29_1 := blk_frozen BK291.out 1
         have hfz29_2 := blk_frozen BK291.out 2
         have p293 : 0 ≤ (x5_2 : Int) := oda
         have q293 : x5_2 < (l1_0.length : Int) := oda
         obtain ⟨ad293, A293_1, c293_1, e293, hx293_0, hx293_1, hl293_1, hi293_1⟩ := at_T42 HR1_0.out x5_2 p293 q293
         cases e293
         replace hx293_0 := up_ HB hx293_0
         replace hx293_1 := up_ HB hx293_1
         have HR293_1 := Aside0.mk hi293_1
         have HC293_1 := Aside0.mk hl293_1
         clear hi293_1 hl293_1
         replace p293 := eq_true p293
         replace q293 := eq_true q293
         have p294 : 0 ≤ (x5_2 : Int) := oda
         have q294 : x5_2 < (l0_0.length : Int) := oda
         obtain ⟨ad294, A294_1, c294_1, e294, hx294_0, hx294_1, hl294_1, hi294_1⟩ := at_T42 HR0_0.out x5_2 p294 q294
         obtain rfl : ad292 = ad294 := (by injection e294)
         replace hx294_0 := up_ HB hx294_0
         replace hx294_1 := up_ HB hx294_1
         have HR294_1 := Aside0.mk hi294_1
         have HC294_1 := Aside0.mk hl294_1
         clear hi294_1 hl294_1
         replace p294 := eq_true p294
         replace q294 := eq_true q294
         have ea_ := Option.some.inj (hx292_1.symm.trans hx294_1)
         injection ea_ with ea_ en_ ec_
         subst ea_
         subst ec_
         clear en_
         have p295 : 0 ≤ (x5_2 : Int) := oda
         have q295 : x5_2 < (l1_0.length : Int) := oda
         obtain ⟨ad295, A295_1, c295_1, e295, hx295_0, hx295_1, hl295_1, hi295_1⟩ := at_T42 HR1_0.out x5_2 p295 q295
         obtain rfl : ad293 = ad295 := (by injection e295)
         replace hx295_0 := up_ HB hx295_0
         replace hx295_1 := up_ HB hx295_1
         have HR295_1 := Aside0.mk hi295_1
         have HC295_1 := Aside0.mk hl295_1
         clear hi295_1 hl295_1
         replace p295 := eq_true p295
         replace q295 := eq_true q295
         have ea_ := Option.some.inj (hx293_1.symm.trans hx295_1)
         injection ea_ with ea_ en_ ec_
         subst ea_
         subst ec_
         clear en_
         go_wp2_with (first | (go_at_call 12; (with_reducible refine (vesperlaw14_same.calls k2 _ _ ((rd_T42 l0_0 x5_2).f1) _ _ ((rd_T42 l1_0 x5_2).f1) false _ ?side1 ?side2 ?side3 ?side4 A22.out).mono ?_); (case side1 => repeat (first | exact (Kd.C_below HR294_1.out HB.out) | (with_reducible refine Kd.C_alloc ?_ _) | (with_reducible refine Kd.C_drewN ?_ _) | (with_reducible refine Kd.C_drew ?_))); (case side2 => exact HC294_1.out); (case side3 => repeat (first | exact (Kd.C_below HR295_1.out HB.out) | (with_reducible refine Kd.C_alloc ?_ _) | (with_reducible refine Kd.C_drewN ?_ _) | (with_reducible refine Kd.C_drew ?_))); (case side4 => exact HC295_1.out); rintro e w' ⟨rfl, ⟨nd, rfl⟩⟩; (try first | exact ⟨rfl, _, World.drewN_drewN _ _ _⟩ | exact ⟨rfl, _, Eq.trans (World.drewN_drewN _ _ _) (congrArg (World.drewN _) (Nat.add_assoc _ _ _))⟩)))
         repeat (go_quiet (first | (go_at_call 12; (with_reducible refine (vesperlaw14_same.calls k2 _ _ ((rd_T42 l0_0 x5_2).f1) _ _ ((rd_T42 l1_0 x5_2).f1) false _ ?side1 ?side2 ?side3 ?side4 A22.out).mono ?_); (case side1 => repeat (first | exact (Kd.C_below HR294_1.out HB.out) | (with_reducible refine Kd.C_alloc ?_ _) | (with_reducible refine Kd.C_drewN ?_ _) | (with_reducible refine Kd.C_drew ?_))); (case side2 => exact HC294_1.out); (case side3 => repeat (first | exact (Kd.C_below HR295_1.out HB.out) | (with_reducible refine Kd.C_alloc ?_ _) | (with_reducible refine Kd.C_drewN ?_ _) | (with_reducible refine Kd.C_drew ?_))); (case side4 => exact HC295_1.out); rintro e w' ⟨rfl, ⟨nd, rfl⟩⟩; (try first | exact ⟨rfl, _, World.drewN_drewN _ _ _⟩ | exact ⟨rfl, _, Eq.trans (World.drewN_drewN _ _ _) (congrArg (World.drewN _) (Nat.add_assoc _ _ _))⟩))); try go_wp2_with (first | (go_at_call 12; (with_reducible refine (vesperlaw14_same.calls k2 _ _ ((rd_T42 l0_0 x5_2).f1) _ _ ((rd_T42 l1_0 x5_2).f1) false _ ?side1 ?side2 ?side3 ?side4 A22.out).mono ?_); (case side1 => repeat (first | exact (Kd.C_below HR294_1.out HB.out) | (with_reducible refine Kd.C_alloc ?_ _) | (with_reducible refine Kd.C_drewN ?_ _) | (with_reducible refine Kd.C_drew ?_))); (case side2 => exact HC294_1.out); (case side3 => repeat (first | exact (Kd.C_below HR295_1.out HB.out) | (with_reducible refine Kd.C_alloc ?_ _) | (with_reducible refine Kd.C_drewN ?_ _) | (with_reducible refine Kd.C_drew ?_))); (case side4 => exact HC295_1.out); rintro e w' ⟨rfl, ⟨nd, rfl⟩⟩; (try first | exact ⟨rfl, _, World.drewN_drewN _ _ _⟩ | exact ⟨rfl, _, Eq.trans (World.drewN_drewN _ _ _) (congrArg (World.drewN _) (Nat.add_assoc _ _ _))⟩))))
         go_ret
         exact ⟨ew, bw⟩
        rw [if_neg c21] at H
        have c21b0 : (((rd_T42 l0_0 x5_2).f0) == ((rd_T42 l1_0 x5_2).f0)) = false := beq_eq_false_iff_ne.mpr c21
        have c21b1 : (((rd_T42 l0_0 x5_2).f0) != ((rd_T42 l1_0 x5_2).f0)) = true := bne_iff_ne.mpr c21
        obtain rfl := Option.some.inj H
        have hnb30 := NB290_291.out
        have hnc30 := NB291_290.out
        have hcz31_0 : wr.cell? ⟨gb290, 0, none⟩ = some (.slice A0_0 l0_0.length c0_0) := (blk_cell BK290.out 0).trans rfl
        have hcz31_1 : wr.cell? ⟨gb290, 1, none⟩ = some (.slice A0_1 l0_1.length c0_1) := (blk_cell BK290.out 1).trans rfl
        have hcz31_2 : wr.cell? ⟨gb290, 2, none⟩ = some (.slice A0_2 l0_2.length c0_2) := (blk_cell BK290.out 2).trans rfl
        have hfz31_0 := blk_frozen BK290.out 0
        have hfz31_1 := blk_frozen BK290.out 1
        have hfz31_2 := blk_frozen BK290.out 2
        have p292 : 0 ≤ (x5_2 : Int) := oda
        have q292 : x5_2 < (l0_0.length : Int) := oda
        obtain ⟨ad292, A292_1, c292_1, e292, hx292_0, hx292_1, hl292_1, hi292_1⟩ := at_T42 HR0_0.out x5_2 p292 q292
        cases e292
        replace hx292_0 := up_ HB hx292_0
        replace hx292_1 := up_ HB hx292_1
        have HR292_1 := Aside0.mk hi292_1
        have HC292_1 := Aside0.mk hl292_1
        clear hi292_1 hl292_1
        replace p292 := eq_true p292
        replace q292 := eq_true q292
        have hcz32_0 : wr.cell? ⟨gb291, 0, none⟩ = some (.slice A1_0 l1_0.length c1_0) := (blk_cell BK291.out 0).trans rfl
        have hcz32_1 : wr.cell? ⟨gb291, 1, none⟩ = some (.slice A1_1 l1_1.length c1_1) := (blk_cell BK291.out 1).trans rfl
        have hcz32_2 : wr.cell? ⟨gb291, 2, none⟩ = some (.slice A1_2 l1_2.length c1_2) := (blk_cell BK291.out 2).trans rfl
        have hfz32_0 := blk_frozen BK291.out 0
        have hfz32_1 := blk_frozen BK291.out 1
        have hfz32_2 := blk_frozen BK291.out 2
        have p293 : 0 ≤ (x5_2 : Int) := oda
        have q293 : x5_2 < (l1_0.length : Int) := oda
        obtain ⟨ad293, A293_1, c293_1, e293, hx293_0, hx293_1, hl293_1, hi293_1⟩ := at_T42 HR1_0.out x5_2 p293 q293
        cases e293
        replace hx293_0 := up_ HB hx293_0
        replace hx293_1 := up_ HB hx293_1
        have HR293_1 := Aside0.mk hi293_1
        have HC293_1 := Aside0.mk hl293_1
        clear hi293_1 hl293_1
        replace p293 := eq_true p293
        replace q293 := eq_true q293
        go_wp2
        repeat (go_quiet (fail); try go_wp2)
        go_ret
        exact ⟨ew, bw⟩
       rw [if_neg c20] at H
       exact absurd H (by simp)
      rw [if_neg c19] at H
      exact absurd H (by simp)
     rw [if_neg c18] at H
     have c18b0 : decide (x5_2 < (l0_0.length : Int)) = false := decide_eq_false c18
     clear c18
     have H' := Aside0.mk H
     clear H
     have hnb33 := NB290_291.out
     have hnc33 := NB291_290.out
     have hcz34_0 : wr.cell? ⟨gb290, 0, none⟩ = some (.slice A0_0 l0_0.length c0_0) := (blk_cell BK290.out 0).trans rfl
     have hcz34_1 : wr.cell? ⟨gb290, 1, none⟩ = some (.slice A0_1 l0_1.length c0_1) := (blk_cell BK290.out 1).trans rfl
     have hcz34_2 : wr.cell? ⟨gb290, 2, none⟩ = some (.slice A0_2 l0_2.length c0_2) := (blk_cell BK290.out 2).trans rfl
     have hfz34_0 := blk_frozen BK290.out 0
     have hfz34_1 := blk_frozen BK290.out 1
     have hfz34_2 := blk_frozen BK290.out 2
     go_wp2
     repeat (go_quiet (fail); try go_wp2)
     go_loopg [6] k2 (fun kq v6 w' => ∃ (x6_3 : Int), v6 = .int .i64 x6_3 ∧ Aside0 (vesperlaw14_alike.l1 kq x6_3 l0_0 l0_1 l0_2 l1_0 l1_1 l1_2 = some r) ∧ Aside0 (kq ≤ k2) ∧ Aside0 (w'.heap[gb290]? = some (.cells #[(.slice A0_0 l0_0.length c0_0), (.slice A0_1 l0_1.length c0_1), (.slice A0_2 l0_2.length c0_2)] 26 (0, 0))) ∧ Aside0 (w'.heap[gb291]? = some (.cells #[(.slice A1_0 l1_0.length c1_0), (.slice A1_1 l1_1.length c1_1), (.slice A1_2 l1_2.length c1_2)] 26 (0, 0))) ∧ Aside0 (Below w.heap.size w w'))
     case atStart => exact ⟨(0), rs, H', ⟨Nat.le_refl _⟩, ⟨by (with_reducible repeat (first | refine blk_drewN ?_ _ | refine blk_drew ?_ | refine blk_alloc ?_ _)); exact BK290.out⟩, ⟨by (with_reducible repeat (first | refine blk_drewN ?_ _ | refine blk_drew ?_ | refine blk_alloc ?_ _)); exact BK291.out⟩, ⟨bw⟩⟩
     case round =>
      clear H'
      clear c18b0 hcz34_0 hcz34_1 hcz34_2 hfz34_0 hfz34_1 hfz34_2
      obtain ⟨x6_3, rfl, HA, HK3, BK290, BK291, HB⟩ := hrel
      cases gk with
      | zero => exact absurd HA.out (by simp [vesperlaw14_alike.l1])
      | succ k3 =>
       have H := HA.out
       clear HA
       simp only [vesperlaw14_alike.l1] at H
       by_cases c35 : x6_3 < (l0_1.length : Int)
       ·rw [if_pos c35] at H
        have c35b0 : decide (x6_3 < (l0_1.length : Int)) = true := decide_eq_true c35
        clear c35
        by_cases c36 : 0 ≤ x6_3
        ·rw [if_pos c36] at H
         have c36b0 : decide (0 ≤ x6_3) = true := decide_eq_true c36
         clear c36
         by_cases c37 : x6_3 < (l1_1.length : Int)
         ·rw [if_pos c37] at H
          have c37b0 : decide (x6_3 < (l1_1.length : Int)) = true := decide_eq_true c37
          clear c37
          by_cases c38 : (!(((rd_T52 l0_1 x6_3).f0) == ((rd_T52 l1_1 x6_3).f0)) || (!(((rd_T52 l0_1 x6_3).f1) == ((rd_T52 l1_1 x6_3).f1)) || (!(((rd_T52 l0_1 x6_3).f2) == ((rd_T52 l1_1 x6_3).f2))))) = true
          ·rw [if_pos c38] at H
           have c38b0 : (!(((rd_T52 l0_1 x6_3).f0) == ((rd_T52 l1_1 x6_3).f0)) || (!(((rd_T52 l0_1 x6_3).f1) == ((rd_T52 l1_1 x6_3).f1)) || (!(((rd_T52 l0_1 x6_3).f2) == ((rd_T52 l1_1 x6_3).f2))))) = true := c38
           clear c38
           obtain rfl := Option.some.inj H
           have hnb39 := NB290_291.out
           have hnc39 := NB291_290.out
           have hcz40_0 : wr.cell? ⟨gb290, 0, none⟩ = some (.slice A0_0 l0_0.length c0_0) := (blk_cell BK290.out 0).trans rfl
           have hcz40_1 : wr.cell? ⟨gb290, 1, none⟩ = some (.slice A0_1 l0_1.length c0_1) := (blk_cell BK290.out 1).trans rfl
           have hcz40_2 : wr.cell? ⟨gb290, 2, none⟩ = some (.slice A0_2 l0_2.length c0_2) := (blk_cell BK290.out 2).trans rfl
           have hfz40_0 := blk_frozen BK290.out 0
           have hfz40_1 := blk_frozen BK290.out 1
           have hfz40_2 := blk_frozen BK290.out 2
           have p297 : 0 ≤ (x6_3 : Int) := oda
           have q297 : x6_3 < (l0_1.length : Int) := oda
           obtain ⟨ad297, e297, hx297_0, hx297_1, hx297_2⟩ := at_T52 HR0_1.out x6_3 p297 q297
           cases e297
           replace hx297_0 := up_ HB hx297_0
           replace hx297_1 := up_ HB hx297_1
           replace hx297_2 := up_ HB hx297_2
           replace p297 := eq_true p297
           replace q297 := eq_true q297
           have hcz41_0 : wr.cell? ⟨gb291, 0, none⟩ = some (.slice A1_0 l1_0.length c1_0) := (blk_cell BK291.out 0).trans rfl
           have hcz41_1 : wr.cell? ⟨gb291, 1, none⟩ = some (.slice A1_1 l1_1.length c1_1) := (blk_cell BK291.out 1).trans rfl
           have hcz41_2 : wr.cell? ⟨gb291, 2, none⟩ = some (.slice A1_2 l1_2.length c1_2) := (blk_cell BK291.out 2).trans rfl
           have hfz41_0 := blk_frozen BK291.out 0
           have hfz41_1 := blk_frozen BK291.out 1
           have hfz41_2 := blk_frozen BK291.out 2
           have p298 : 0 ≤ (x6_3 : Int) := oda
           have q298 : x6_3 < (l1_1.length : Int) := oda
           obtain ⟨ad298, e298, hx298_0, hx298_1, hx298_2⟩ := at_T52 HR1_1.out x6_3 p298 q298
           cases e298
           replace hx298_0 := up_ HB hx298_0
           replace hx298_1 := up_ HB hx298_1
           replace hx298_2 := up_ HB hx298_2
           replace p298 := eq_true p298
           replace q298 := eq_true q298
           go_wp2
           repeat (go_quiet (fail); try go_wp2)
           go_ret
           exact ⟨ew, bw⟩
          rw [if_neg c38] at H
          have c38b0 : (!(((rd_T52 l0_1 x6_3).f0) == ((rd_T52 l1_1 x6_3).f0)) || (!(((rd_T52 l0_1 x6_3).f1) == ((rd_T52 l1_1 x6_3).f1)) || (!(((rd_T52 l0_1 x6_3).f2) == ((rd_T52 l1_1 x6_3).f2))))) = false := by simpa using c38
          clear c38
          have H' := Aside0.mk H
          clear H
          have hnb42 := NB290_291.out
          have hnc42 := NB291_290.out
          have hcz43_0 : wr.cell? ⟨gb290, 0, none⟩ = some (.slice A0_0 l0_0.length c0_0) := (blk_cell BK290.out 0).trans rfl
          have hcz43_1 : wr.cell? ⟨gb290, 1, none⟩ = some (.slice A0_1 l0_1.length c0_1) := (blk_cell BK290.out 1).trans rfl
          have hcz43_2 : wr.cell? ⟨gb290, 2, none⟩ = some (.slice A0_2 l0_2.length c0_2) := (blk_cell BK290.out 2).trans rfl
          have hfz43_0 := blk_frozen BK290.out 0
          have hfz43_1 := blk_frozen BK290.out 1
          have hfz43_2 := blk_frozen BK290.out 2
          have p297 : 0 ≤ (x6_3 : Int) := oda
          have q297 : x6_3 < (l0_1.length : Int) := oda
          obtain ⟨ad297, e297, hx297_0, hx297_1, hx297_2⟩ := at_T52 HR0_1.out x6_3 p297 q297
          cases e297
          replace hx297_0 := up_ HB hx297_0
          replace hx297_1 := up_ HB hx297_1
          replace hx297_2 := up_ HB hx297_2
          replace p297 := eq_true p297
          replace q297 := eq_true q297
          have hcz44_0 : wr.cell? ⟨gb291, 0, none⟩ = some (.slice A1_0 l1_0.length c1_0) := (blk_cell BK291.out 0).trans rfl
          have hcz44_1 : wr.cell? ⟨gb291, 1, none⟩ = some (.slice A1_1 l1_1.length c1_1) := (blk_cell BK291.out 1).trans rfl
          have hcz44_2 : wr.cell? ⟨gb291, 2, none⟩ = some (.slice A1_2 l1_2.length c1_2) := (blk_cell BK291.out 2).trans rfl
          have hfz44_0 := blk_frozen BK291.out 0
          have hfz44_1 := blk_frozen BK291.out 1
          have hfz44_2 := blk_frozen BK291.out 2
          have p298 : 0 ≤ (x6_3 : Int) := oda
          have q298 : x6_3 < (l1_1.length : Int) := oda
          obtain ⟨ad298, e298, hx298_0, hx298_1, hx298_2⟩ := at_T52 HR1_1.out x6_3 p298 q298
          cases e298
          replace hx298_0 := up_ HB hx298_0
          replace hx298_1 := up_ HB hx298_1
          replace hx298_2 := up_ HB hx298_2
          replace p298 := eq_true p298
          replace q298 := eq_true q298
          go_wp2
          repeat (go_quiet (fail); try go_wp2)
          go_roundg k3
          case measure => have := HJ2.out; have := HK2.out; have := HK3.out; omega
          case rel => exact ⟨(wrap64 (x6_3 + 1)), rs, H', ⟨by have := HJ2.out; have := HK2.out; have := HK3.out; omega⟩, ⟨by (with_reducible repeat (first | refine blk_drewN ?_ _ | refine blk_drew ?_ | refine blk_alloc ?_ _)); exact BK290.out⟩, ⟨by (with_reducible repeat (first | refine blk_drewN ?_ _ | refine blk_drew ?_ | refine blk_alloc ?_ _)); exact BK291.out⟩, ⟨bw⟩⟩
         rw [if_neg c37] at H
         exact absurd H (by simp)
        rw [if_neg c36] at H
        exact absurd H (by simp)
       rw [if_neg c35] at H
       have c35b0 : decide (x6_3 < (l0_1.length : Int)) = false := decide_eq_false c35
       clear c35
       have H' := Aside0.mk H
       clear H
       have hnb45 := NB290_291.out
       have hnc45 := NB291_290.out
       have hcz46_0 : wr.cell? ⟨gb290, 0, none⟩ = some (.slice A0_0 l0_0.length c0_0) := (blk_cell BK290.out 0).trans rfl
       have hcz46_1 : wr.cell? ⟨gb290, 1, none⟩ = some (.slice A0_1 l0_1.length c0_1) := (blk_cell BK290.out 1).trans rfl
       have hcz46_2 : wr.cell? ⟨gb290, 2, none⟩ = some (.slice A0_2 l0_2.length c0_2) := (blk_cell BK290.out 2).trans rfl
       have hfz46_0 := blk_frozen BK290.out 0
       have hfz46_1 := blk_frozen BK290.out 1
       have hfz46_2 := blk_frozen BK290.out 2
       go_wp2
       repeat (go_quiet (fail); try go_wp2)
       go_loopg [7] k3 (fun kq v7 w' => ∃ (x7_4 : Int), v7 = .int .i64 x7_4 ∧ Aside0 (vesperlaw14_alike.l2 kq x7_4 l0_0 l0_1 l0_2 l1_0 l1_1 l1_2 = some r) ∧ Aside0 (kq ≤ k3) ∧ Aside0 (w'.heap[gb290]? = some (.cells #[(.slice A0_0 l0_0.length c0_0), (.slice A0_1 l0_1.length c0_1), (.slice A0_2 l0_2.length c0_2)] 26 (0, 0))) ∧ Aside0 (w'.heap[gb291]? = some (.cells #[(.slice A1_0 l1_0.length c1_0), (.slice A1_1 l1_1.length c1_1), (.slice A1_2 l1_2.length c1_2)] 26 (0, 0))) ∧ Aside0 (Below w.heap.size w w'))
       case atStart => exact ⟨(0), rs, H', ⟨Nat.le_refl _⟩, ⟨by (with_reducible repeat (first | refine blk_drewN ?_ _ | refine blk_drew ?_ | refine blk_alloc ?_ _)); exact BK290.out⟩, ⟨by (with_reducible repeat (first | refine blk_drewN ?_ _ | refine blk_drew ?_ | refine blk_alloc ?_ _)); exact BK291.out⟩, ⟨bw⟩⟩
       case round =>
        clear H'
        clear c35b0 hcz46_0 hcz46_1 hcz46_2 hfz46_0 hfz46_1 hfz46_2
        obtain ⟨x7_4, rfl, HA, HK4, BK290, BK291, HB⟩ := hrel
        cases gk with
        | zero => exact absurd HA.out (by simp [vesperlaw14_alike.l2])
        | succ k4 =>
         have H := HA.out
         clear HA
         simp only [vesperlaw14_alike.l2] at H
         by_cases c47 : x7_4 < (l0_2.length : Int)
         ·rw [if_pos c47] at H
          have c47b0 : decide (x7_4 < (l0_2.length : Int)) = true := decide_eq_true c47
          clear c47
          by_cases c48 : 0 ≤ x7_4
          ·rw [if_pos c48] at H
           have c48b0 : decide (0 ≤ x7_4) = true := decide_eq_true c48
           clear c48
           by_cases c49 : x7_4 < (l1_2.length : Int)
           ·rw [if_pos c49] at H
            have c49b0 : decide (x7_4 < (l1_2.length : Int)) = true := decide_eq_true c49
            clear c49
            by_cases c50 : (!((((rd_T47 l0_2 x7_4).f0).toList) == (((rd_T47 l1_2 x7_4).f0).toList)) || (!(((rd_T47 l0_2 x7_4).f1) == ((rd_T47 l1_2 x7_4).f1)))) = true
            ·rw [if_pos c50] at H
             have c50b0 : (!((((rd_T47 l0_2 x7_4).f0).toList) == (((rd_T47 l1_2 x7_4).f0).toList)) || (!(((rd_T47 l0_2 x7_4).f1) == ((rd_T47 l1_2 x7_4).f1)))) = true := c50
             clear c50
             obtain rfl := Option.some.inj H
             have hnb51 := NB290_291.out
             have hnc51 := NB291_290.out
             have hcz52_0 : wr.cell? ⟨gb290, 0, none⟩ = some (.slice A0_0 l0_0.length c0_0) := (blk_cell BK290.out 0).trans rfl
             have hcz52_1 : wr.cell? ⟨gb290, 1, none⟩ = some (.slice A0_1 l0_1.length c0_1) := (blk_cell BK290.out 1).trans rfl
             have hcz52_2 : wr.cell? ⟨gb290, 2, none⟩ = some (.slice A0_2 l0_2.length c0_2) := (blk_cell BK290.out 2).trans rfl
             have hfz52_0 := blk_frozen BK290.out 0
             have hfz52_1 := blk_frozen BK290.out 1
             have hfz52_2 := blk_frozen BK290.out 2
             have p299 : 0 ≤ (x7_4 : Int) := oda
             have q299 : x7_4 < (l0_2.length : Int) := oda
             obtain ⟨ad299, e299, hx299_0, hx299_1⟩ := at_T47 HR0_2.out x7_4 p299 q299
             cases e299
             replace hx299_0 := up_ HB hx299_0
             replace hx299_1 := up_ HB hx299_1
             replace p299 := eq_true p299
             replace q299 := eq_true q299
             have hcz53_0 : wr.cell? ⟨gb291, 0, none⟩ = some (.slice A1_0 l1_0.length c1_0) := (blk_cell BK291.out 0).trans rfl
             have hcz53_1 : wr.cell? ⟨gb291, 1, none⟩ = some (.slice A1_1 l1_1.length c1_1) := (blk_cell BK291.out 1).trans rfl
             have hcz53_2 : wr.cell? ⟨gb291, 2, none⟩ = some (.slice A1_2 l1_2.length c1_2) := (blk_cell BK291.out 2).trans rfl
             have hfz53_0 := blk_frozen BK291.out 0
             have hfz53_1 := blk_frozen BK291.out 1
             have hfz53_2 := blk_frozen BK291.out 2
             have p300 : 0 ≤ (x7_4 : Int) := oda
             have q300 : x7_4 < (l1_2.length : Int) := oda
             obtain ⟨ad300, e300, hx300_0, hx300_1⟩ := at_T47 HR1_2.out x7_4 p300 q300
             cases e300
             replace hx300_0 := up_ HB hx300_0
             replace hx300_1 := up_ HB hx300_1
             replace p300 := eq_true p300
             replace q300 := eq_true q300
             go_wp2
             repeat (go_quiet (fail); try go_wp2)
             go_ret
             exact ⟨ew, bw⟩
            rw [if_neg c50] at H
            have c50b0 : (!((((rd_T47 l0_2 x7_4).f0).toList) == (((rd_T47 l1_2 x7_4).f0).toList)) || (!(((rd_T47 l0_2 x7_4).f1) == ((rd_T47 l1_2 x7_4).f1)))) = false := by simpa using c50
            clear c50
            have H' := Aside0.mk H
            clear H
            have hnb54 := NB290_291.out
            have hnc54 := NB291_290.out
            have hcz55_0 : wr.cell? ⟨gb290, 0, none⟩ = some (.slice A0_0 l0_0.length c0_0) := (blk_cell BK290.out 0).trans rfl
            have hcz55_1 : wr.cell? ⟨gb290, 1, none⟩ = some (.slice A0_1 l0_1.length c0_1) := (blk_cell BK290.out 1).trans rfl
            have hcz55_2 : wr.cell? ⟨gb290, 2, none⟩ = some (.slice A0_2 l0_2.length c0_2) := (blk_cell BK290.out 2).trans rfl
            have hfz55_0 := blk_frozen BK290.out 0
            have hfz55_1 := blk_frozen BK290.out 1
            have hfz55_2 := blk_frozen BK290.out 2
            have p299 : 0 ≤ (x7_4 : Int) := oda
            have q299 : x7_4 < (l0_2.length : Int) := oda
            obtain ⟨ad299, e299, hx299_0, hx299_1⟩ := at_T47 HR0_2.out x7_4 p299 q299
            cases e299
            replace hx299_0 := up_ HB hx299_0
            replace hx299_1 := up_ HB hx299_1
            replace p299 := eq_true p299
            replace q299 := eq_true q299
            have hcz56_0 : wr.cell? ⟨gb291, 0, none⟩ = some (.slice A1_0 l1_0.length c1_0) := (blk_cell BK291.out 0).trans rfl
            have hcz56_1 : wr.cell? ⟨gb291, 1, none⟩ = some (.slice A1_1 l1_1.length c1_1) := (blk_cell BK291.out 1).trans rfl
            have hcz56_2 : wr.cell? ⟨gb291, 2, none⟩ = some (.slice A1_2 l1_2.length c1_2) := (blk_cell BK291.out 2).trans rfl
            have hfz56_0 := blk_frozen BK291.out 0
            have hfz56_1 := blk_frozen BK291.out 1
            have hfz56_2 := blk_frozen BK291.out 2
            have p300 : 0 ≤ (x7_4 : Int) := oda
            have q300 : x7_4 < (l1_2.length : Int) := oda
            obtain ⟨ad300, e300, hx300_0, hx300_1⟩ := at_T47 HR1_2.out x7_4 p300 q300
            cases e300
            replace hx300_0 := up_ HB hx300_0
            replace hx300_1 := up_ HB hx300_1
            replace p300 := eq_true p300
            replace q300 := eq_true q300
            go_wp2
            repeat (go_quiet (fail); try go_wp2)
            go_roundg k4
            case measure => have := HJ2.out; have := HK2.out; have := HK3.out; have := HK4.out; omega
            case rel => exact ⟨(wrap64 (x7_4 + 1)), rs, H', ⟨by have := HJ2.out; have := HK2.out; have := HK3.out; have := HK4.out; omega⟩, ⟨by (with_reducible repeat (first | refine blk_drewN ?_ _ | refine blk_drew ?_ | refine blk_alloc ?_ _)); exact BK290.out⟩, ⟨by (with_reducible repeat (first | refine blk_drewN ?_ _ | refine blk_drew ?_ | refine blk_alloc ?_ _)); exact BK291.out⟩, ⟨bw⟩⟩
           rw [if_neg c49] at H
           exact absurd H (by simp)
          rw [if_neg c48] at H
          exact absurd H (by simp)
         rw [if_neg c47] at H
         have c47b0 : decide (x7_4 < (l0_2.length : Int)) = false := decide_eq_false c47
         clear c47
         obtain rfl := Option.some.inj H
         have hnb57 := NB290_291.out
         have hnc57 := NB291_290.out
         have hcz58_0 : wr.cell? ⟨gb290, 0, none⟩ = some (.slice A0_0 l0_0.length c0_0) := (blk_cell BK290.out 0).trans rfl
         have hcz58_1 : wr.cell? ⟨gb290, 1, none⟩ = some (.slice A0_1 l0_1.length c0_1) := (blk_cell BK290.out 1).trans rfl
         have hcz58_2 : wr.cell? ⟨gb290, 2, none⟩ = some (.slice A0_2 l0_2.length c0_2) := (blk_cell BK290.out 2).trans rfl
         have hfz58_0 := blk_frozen BK290.out 0
         have hfz58_1 := blk_frozen BK290.out 1
         have hfz58_2 := blk_frozen BK290.out 2
         go_wp2
         repeat (go_quiet (fail); try go_wp2)
         go_ret
         exact ⟨ew, bw⟩

end Go.Proofs.YtbffmfeflcdgbaaDoor.POb
