/- Printed by the kit's print (gprint.py), mended by this session: the fact on the tables is told at the world at hand. -/
import Derived.Test.YtbffmfeflcdgbaaDoorObG
import Derived.Test.YtbffmfeflcdgbaaDoorPObx0
import Derived.Test.YtbffmfeflcdgbaaDoorPObx5
namespace Go.Proofs.YtbffmfeflcdgbaaDoor.POb
open Go.RowKit Go.Proofs.YtbffmfeflcdgbaaDoorW.PrintWords Go.Proofs.YtbffmfeflcdgbaaDoorW.PrintLast Go.Proofs.YtbffmfeflcdgbaaDoorW.PrintMore
open Go.Proofs.YtbffmfeflcdgbaaDoor.Code (GOk)
attribute [local go_sem] max2_int min2_int max_two min_two max_three min_three max_four min_four   -- for this text's walks alone
set_option linter.unusedVariables false
set_option linter.unusedSimpArgs false

/-! ### asm_marked: function 16 -/
mutual
def asm_marked.l0 : Nat → Int → List (S42) → Int → Int → List (S42) → List (S52) → List (S47) → Option (Bool)
 | 0, _, _, _, _, _, _, _ => none
 | k + 1, x3, x9, x10, x11, x134000, x134001, x134002 => if x11 < x10 then (if 0 ≤ x11 then (if x11 < (x9.length : Int) then (asm_marked.l1 k x3 0 x9 x10 x11 x134000 x134001 x134002 ((rd_T42 x9 x11).f0) ((rd_T42 x9 x11).f1)) else (none)) else (none)) else (some (x3 == (x134001.length : Int)))
def asm_marked.l1 : Nat → Int → Int → List (S42) → Int → Int → List (S42) → List (S52) → List (S47) → Int → List Int → Option (Bool)
 | 0, _, _, _, _, _, _, _, _, _, _ => none
 | k + 1, x3, x6, x9, x10, x11, x134000, x134001, x134002, x136000, x136001 => if x6 < (x136001.length : Int) then (if x3 ≥ (x134001.length : Int) then (some false) else (if 0 ≤ x3 then (if x3 < (x134001.length : Int) then (if ((rd_T52 x134001 x3).f0) = (wrap64 (x136000 + x6)) then (if ((rd_T52 x134001 x3).f1) < 1 then (asm_marked.j2 k x3 x6 x9 x10 x11 true x134000 x134001 x134002 x136000 x136001 ((rd_T52 x134001 x3).f0) ((rd_T52 x134001 x3).f1) ((rd_T52 x134001 x3).f2)) else (if ((rd_T52 x134001 x3).f1) > (wrap64 ((x136001.length : Int) - x6)) then (asm_marked.j2 k x3 x6 x9 x10 x11 true x134000 x134001 x134002 x136000 x136001 ((rd_T52 x134001 x3).f0) ((rd_T52 x134001 x3).f1) ((rd_T52 x134001 x3).f2)) else (if x6 > 0 then (if 0 ≤ (wrap64 (x3 - 1)) then (if (wrap64 (x3 - 1)) < (x134001.length : Int) then (asm_marked.j2 k x3 x6 x9 x10 x11 (((rd_T52 x134001 (wrap64 (x3 - 1))).f2) == ((rd_T52 x134001 x3).f2)) x134000 x134001 x134002 x136000 x136001 ((rd_T52 x134001 x3).f0) ((rd_T52 x134001 x3).f1) ((rd_T52 x134001 x3).f2)) else (none)) else (none)) else (asm_marked.j2 k x3 x6 x9 x10 x11 false x134000 x134001 x134002 x136000 x136001 ((rd_T52 x134001 x3).f0) ((rd_T52 x134001 x3).f1) ((rd_T52 x134001 x3).f2))))) else (asm_marked.j2 k x3 x6 x9 x10 x11 true x134000 x134001 x134002 x136000 x136001 ((rd_T52 x134001 x3).f0) ((rd_T52 x134001 x3).f1) ((rd_T52 x134001 x3).f2))) else (none)) else (none))) else (asm_marked.l0 k x3 x9 x10 (wrap64 (x11 + 1)) x134000 x134001 x134002)
def asm_marked.j2 : Nat → Int → Int → List (S42) → Int → Int → Bool → List (S42) → List (S52) → List (S47) → Int → List Int → Int → Int → Bool → Option (Bool)
 | 0, _, _, _, _, _, _, _, _, _, _, _, _, _, _ => none
 | k + 1, x3, x6, x9, x10, x11, x69, x134000, x134001, x134002, x136000, x136001, x138000, x138001, x138002 => if x69 = true then (some false) else (if x138002 = true then (if 0 ≤ x6 then (if x6 ≤ (wrap64 (x6 + x138001)) then (if (wrap64 (x6 + x138001)) ≤ (x136001.length : Int) then ((asm_whole.f k ((x136001.take ((wrap64 (x6 + x138001)) : Int).toNat).drop (x6 : Int).toNat)).bind fun t140 => (if t140 = true then (asm_marked.l1 k (wrap64 (x3 + 1)) (wrap64 (x6 + x138001)) x9 x10 x11 x134000 x134001 x134002 x136000 x136001) else (some false))) else (none)) else (none)) else (none)) else (asm_marked.l1 k (wrap64 (x3 + 1)) (wrap64 (x6 + x138001)) x9 x10 x11 x134000 x134001 x134002 x136000 x136001))
end
def asm_marked.f (k : Nat) (l0_0 : List (S42)) (l0_1 : List (S52)) (l0_2 : List (S47)) : Option (Bool) := asm_marked.l0 k 0 l0_0 (l0_0.length : Int) 0 l0_0 l0_1 l0_2
theorem asm_marked.mono_l : ∀ k, (∀ y0 y1 y2 y3 y4 y5 y6, LeO (asm_marked.l0 k y0 y1 y2 y3 y4 y5 y6) (asm_marked.l0 (k + 1) y0 y1 y2 y3 y4 y5 y6)) ∧ (∀ y0 y1 y2 y3 y4 y5 y6 y7 y8 y9, LeO (asm_marked.l1 k y0 y1 y2 y3 y4 y5 y6 y7 y8 y9) (asm_marked.l1 (k + 1) y0 y1 y2 y3 y4 y5 y6 y7 y8 y9)) ∧ (∀ y0 y1 y2 y3 y4 y5 y6 y7 y8 y9 y10 y11 y12 y13, LeO (asm_marked.j2 k y0 y1 y2 y3 y4 y5 y6 y7 y8 y9 y10 y11 y12 y13) (asm_marked.j2 (k + 1) y0 y1 y2 y3 y4 y5 y6 y7 y8 y9 y10 y11 y12 y13))
 | 0 => ⟨fun _ _ _ _ _ _ _ r h => by simp [asm_marked.l0] at h, fun _ _ _ _ _ _ _ _ _ _ r h => by simp [asm_marked.l1] at h, fun _ _ _ _ _ _ _ _ _ _ _ _ _ _ r h => by simp [asm_marked.j2] at h⟩
 | k + 1 => by
  obtain ⟨ih0, ih1, ih2⟩ := asm_marked.mono_l k
  refine ⟨?_, ?_, ?_⟩
  ·intro y0 y1 y2 y3 y4 y5 y6
   unfold asm_marked.l0
   repeat' first
   | (with_reducible exact ih0 _ _ _ _ _ _ _)
   | (with_reducible exact ih1 _ _ _ _ _ _ _ _ _ _)
   | (with_reducible exact ih2 _ _ _ _ _ _ _ _ _ _ _ _ _ _)
   | (with_reducible exact asm_whole.mono _ _)
   | (with_reducible exact LeO.refl _)
   | (with_reducible exact LeO.none _)
   | (with_reducible refine LeO.ite ?_ ?_)
   | (with_reducible refine LeO.bind ?_ (fun _ => ?_))
   | exact ih0 _ _ _ _ _ _ _
   | exact ih1 _ _ _ _ _ _ _ _ _ _
   | exact ih2 _ _ _ _ _ _ _ _ _ _ _ _ _ _
   | exact asm_whole.mono _ _
   | exact LeO.none _
   | refine LeO.ite ?_ ?_
   | refine LeO.bind ?_ (fun _ => ?_)
  ·intro y0 y1 y2 y3 y4 y5 y6 y7 y8 y9
   unfold asm_marked.l1
   repeat' first
   | (with_reducible exact ih0 _ _ _ _ _ _ _)
   | (with_reducible exact ih1 _ _ _ _ _ _ _ _ _ _)
   | (with_reducible exact ih2 _ _ _ _ _ _ _ _ _ _ _ _ _ _)
   | (with_reducible exact asm_whole.mono _ _)
   | (with_reducible exact LeO.refl _)
   | (with_reducible exact LeO.none _)
   | (with_reducible refine LeO.ite ?_ ?_)
   | (with_reducible refine LeO.bind ?_ (fun _ => ?_))
   | exact ih0 _ _ _ _ _ _ _
   | exact ih1 _ _ _ _ _ _ _ _ _ _
   | exact ih2 _ _ _ _ _ _ _ _ _ _ _ _ _ _
   | exact asm_whole.mono _ _
   | exact LeO.none _
   | refine LeO.ite ?_ ?_
   | refine LeO.bind ?_ (fun _ => ?_)
  intro y0 y1 y2 y3 y4 y5 y6 y7 y8 y9 y10 y11 y12 y13
  unfold asm_marked.j2
  repeat' first
  | (with_reducible exact ih0 _ _ _ _ _ _ _)
  | (with_reducible exact ih1 _ _ _ _ _ _ _ _ _ _)
  | (with_reducible exact ih2 _ _ _ _ _ _ _ _ _ _ _ _ _ _)
  | (with_reducible exact asm_whole.mono _ _)
  | (with_reducible exact LeO.refl _)
  | (with_reducible exact LeO.none _)
  | (with_reducible refine LeO.ite ?_ ?_)
  | (with_reducible refine LeO.bind ?_ (fun _ => ?_))
  | exact ih0 _ _ _ _ _ _ _
  | exact ih1 _ _ _ _ _ _ _ _ _ _
  | exact ih2 _ _ _ _ _ _ _ _ _ _ _ _ _ _
  | exact asm_whole.mono _ _
  | exact LeO.none _
  | refine LeO.ite ?_ ?_
  | refine LeO.bind ?_ (fun _ => ?_)
theorem asm_marked.mono : ∀ a0 a1 a2 k, LeO (asm_marked.f k a0 a1 a2) (asm_marked.f (k + 1) a0 a1 a2) := by
 intro a0 a1 a2 k
 obtain ⟨ih0, ih1, ih2⟩ := asm_marked.mono_l k
 unfold asm_marked.f
 repeat' first
  | (with_reducible exact ih0 _ _ _ _ _ _ _)
  | (with_reducible exact ih1 _ _ _ _ _ _ _ _ _ _)
  | (with_reducible exact ih2 _ _ _ _ _ _ _ _ _ _ _ _ _ _)
  | (with_reducible exact asm_whole.mono _ _)
  | (with_reducible exact LeO.refl _)
  | (with_reducible exact LeO.none _)
  | (with_reducible refine LeO.ite ?_ ?_)
  | (with_reducible refine LeO.bind ?_ (fun _ => ?_))
  | exact ih0 _ _ _ _ _ _ _
  | exact ih1 _ _ _ _ _ _ _ _ _ _
  | exact ih2 _ _ _ _ _ _ _ _ _ _ _ _ _ _
  | exact asm_whole.mono _ _
  | exact LeO.none _
  | refine LeO.ite ?_ ?_
  | refine LeO.bind ?_ (fun _ => ?_)
set_option maxHeartbeats 8000000 in
set_option maxRecDepth 100000 in
theorem asm_marked.calls (k : Nat) (A0_0 : Option Addr) (c0_0 : Nat) (l0_0 : List (S42)) (A0_1 : Option Addr) (c0_1 : Nat) (l0_1 : List (S52)) (A0_2 : Option Addr) (c0_2 : Nat) (l0_2 : List (S47)) (r : Bool) (w : World) (hr0_0 : Kd.C k42 w A0_0 l0_0.length l0_0) (hc0_0 : l0_0.length ≤ c0_0) (hr0_1 : Kd.C k52 w A0_1 l0_1.length l0_1) (hc0_1 : l0_1.length ≤ c0_1) (hr0_2 : Kd.C k47 w A0_2 l0_2.length l0_2) (hc0_2 : l0_2.length ≤ c0_2) (h : asm_marked.f k l0_0 l0_1 l0_2 = some r) (hG : GOk w := by first | exact HG.out | exact GOk.below HG.out HB.out | exact GOk.below HG.out bw) :
 Calls Tryd.prog 16 #[.agg #[.slice A0_0 l0_0.length c0_0, .slice A0_1 l0_1.length c0_1, .slice A0_2 l0_2.length c0_2]] w fun e w' => e = .returned (.bool r) ∧ Below w.heap.size w w' := by
 have HG := Aside0.mk hG
 clear hG
 have hu26 := Tryd.underlying26
 have hu42 := Tryd.underlying42
 have hu52 := Tryd.underlying52
 have HR0_0 := Aside0.mk hr0_0
 have HC0_0 := Aside0.mk hc0_0
 clear hr0_0 hc0_0
 have HR0_1 := Aside0.mk hr0_1
 have HC0_1 := Aside0.mk hc0_1
 clear hr0_1 hc0_1
 have HR0_2 := Aside0.mk hr0_2
 have HC0_2 := Aside0.mk hc0_2
 clear hr0_2 hc0_2
 have HB := Aside0.mk (Below.refl w.heap.size w)
 have H : (asm_marked.l0 k 0 l0_0 (l0_0.length : Int) 0 l0_0 l0_1 l0_2) = some r := h
 clear h
 have H' := Aside0.mk H
 clear H
 go_enter Tryd.func16, Tryd.ntmps16
 go_wp2_with (first | ((with_reducible refine gate_dst (N := 1) rfl ?_); (try (refine gate_guard (by rfl) ?_; dsimp only)); refine box_event ?hg (N := 1) ?hd (cs := #[.slice A0_0 l0_0.length c0_0, .slice A0_1 l0_1.length c0_1, .slice A0_2 l0_2.length c0_2]) (t := 26) ?hr ?_; (case hd => rfl); (case hg => rfl); (case hr => first | (go_simp; done) | (go_simp; rfl)); intro gb133 hg w2 hbox hb; have n0_ := Aside0.mk (below_step bw hb); have n1_ := Aside0.mk (hbox); have n2_ := Aside0.mk (bz hg : w.heap.size ≤ gb133); have n3_ := Aside0.mk (bz hg : w.heap.size ≤ gb133); clear HB; have HB := n0_; have BK133 := n1_; have GW133 := n2_; have GE133 := n3_; clear n0_ n1_ n2_ n3_; clear hb hbox hg; have hcz3_0 : w2.cell? ⟨gb133, 0, none⟩ = some (.slice A0_0 l0_0.length c0_0) := (blk_cell BK133.out 0).trans rfl; have hcz3_1 : w2.cell? ⟨gb133, 1, none⟩ = some (.slice A0_1 l0_1.length c0_1) := (blk_cell BK133.out 1).trans rfl; have hcz3_2 : w2.cell? ⟨gb133, 2, none⟩ = some (.slice A0_2 l0_2.length c0_2) := (blk_cell BK133.out 2).trans rfl; have hfz3_0 := blk_frozen BK133.out 0; have hfz3_1 := blk_frozen BK133.out 1; have hfz3_2 := blk_frozen BK133.out 2))
 repeat (go_quiet (first | ((with_reducible refine gate_dst (N := 1) rfl ?_); (try (refine gate_guard (by rfl) ?_; dsimp only)); refine box_event ?hg (N := 1) ?hd (cs := #[.slice A0_0 l0_0.length c0_0, .slice A0_1 l0_1.length c0_1, .slice A0_2 l0_2.length c0_2]) (t := 26) ?hr ?_; (case hd => rfl); (case hg => rfl); (case hr => first | (go_simp; done) | (go_simp; rfl)); intro gb133 hg w2 hbox hb; have n0_ := Aside0.mk (below_step bw hb); have n1_ := Aside0.mk (hbox); have n2_ := Aside0.mk (bz hg : w.heap.size ≤ gb133); have n3_ := Aside0.mk (bz hg : w.heap.size ≤ gb133); clear HB; have HB := n0_; have BK133 := n1_; have GW133 := n2_; have GE133 := n3_; clear n0_ n1_ n2_ n3_; clear hb hbox hg; have hcz3_0 : w2.cell? ⟨gb133, 0, none⟩ = some (.slice A0_0 l0_0.length c0_0) := (blk_cell BK133.out 0).trans rfl; have hcz3_1 : w2.cell? ⟨gb133, 1, none⟩ = some (.slice A0_1 l0_1.length c0_1) := (blk_cell BK133.out 1).trans rfl; have hcz3_2 : w2.cell? ⟨gb133, 2, none⟩ = some (.slice A0_2 l0_2.length c0_2) := (blk_cell BK133.out 2).trans rfl; have hfz3_0 := blk_frozen BK133.out 0; have hfz3_1 := blk_frozen BK133.out 1; have hfz3_2 := blk_frozen BK133.out 2)); try go_wp2_with (first | ((with_reducible refine gate_dst (N := 1) rfl ?_); (try (refine gate_guard (by rfl) ?_; dsimp only)); refine box_event ?hg (N := 1) ?hd (cs := #[.slice A0_0 l0_0.length c0_0, .slice A0_1 l0_1.length c0_1, .slice A0_2 l0_2.length c0_2]) (t := 26) ?hr ?_; (case hd => rfl); (case hg => rfl); (case hr => first | (go_simp; done) | (go_simp; rfl)); intro gb133 hg w2 hbox hb; have n0_ := Aside0.mk (below_step bw hb); have n1_ := Aside0.mk (hbox); have n2_ := Aside0.mk (bz hg : w.heap.size ≤ gb133); have n3_ := Aside0.mk (bz hg : w.heap.size ≤ gb133); clear HB; have HB := n0_; have BK133 := n1_; have GW133 := n2_; have GE133 := n3_; clear n0_ n1_ n2_ n3_; clear hb hbox hg; have hcz3_0 : w2.cell? ⟨gb133, 0, none⟩ = some (.slice A0_0 l0_0.length c0_0) := (blk_cell BK133.out 0).trans rfl; have hcz3_1 : w2.cell? ⟨gb133, 1, none⟩ = some (.slice A0_1 l0_1.length c0_1) := (blk_cell BK133.out 1).trans rfl; have hcz3_2 : w2.cell? ⟨gb133, 2, none⟩ = some (.slice A0_2 l0_2.length c0_2) := (blk_cell BK133.out 2).trans rfl; have hfz3_0 := blk_frozen BK133.out 0; have hfz3_1 := blk_frozen BK133.out 1; have hfz3_2 := blk_frozen BK133.out 2)))
 go_loopg [3, 11] k (fun kq v3 v11 w' => ∃ (x3_1 : Int) (x11_1 : Int), v3 = .int .i64 x3_1 ∧ v11 = .int .i64 x11_1 ∧ Aside0 (asm_marked.l0 kq x3_1 l0_0 (l0_0.length : Int) x11_1 l0_0 l0_1 l0_2 = some r) ∧ Aside0 (kq ≤ k) ∧ Aside0 (w'.heap[gb133]? = some (.cells #[(.slice A0_0 l0_0.length c0_0), (.slice A0_1 l0_1.length c0_1), (.slice A0_2 l0_2.length c0_2)] 26 (0, 0))) ∧ Aside0 (Below w.heap.size w w'))
 case atStart => exact ⟨(0), (0), rs, rs, H', ⟨Nat.le_refl _⟩, ⟨by (with_reducible repeat (first | refine blk_drewN ?_ _ | refine blk_drew ?_ | refine blk_alloc ?_ _)); exact BK133.out⟩, ⟨bw⟩⟩
 case round =>
  clear H'
  clear hcz3_0 hcz3_1 hcz3_2 hfz3_0 hfz3_1 hfz3_2
  obtain ⟨x3_1, x11_1, rfl, rfl, HA, HK1, BK133, HB⟩ := hrel
  cases gk with
  | zero => exact absurd HA.out (by simp [asm_marked.l0])
  | succ k1 =>
   have H := HA.out
   clear HA
   simp only [asm_marked.l0] at H
   by_cases c4 : x11_1 < (l0_0.length : Int)
   ·rw [if_pos c4] at H
    have c4b0 : decide (x11_1 < (l0_0.length : Int)) = true := decide_eq_true c4
    clear c4
    by_cases c5 : 0 ≤ x11_1
    ·rw [if_pos c5] at H
     have c5b0 : decide (0 ≤ x11_1) = true := decide_eq_true c5
     clear c5
     by_cases c6 : x11_1 < (l0_0.length : Int)
     ·rw [if_pos c6] at H
      have c6b0 : decide (x11_1 < (l0_0.length : Int)) = true := decide_eq_true c6
      clear c6
      have H' := Aside0.mk H
      clear H
      have p134 : 0 ≤ (x11_1 : Int) := oda
      have q134 : x11_1 < (l0_0.length : Int) := oda
      obtain ⟨ad134, A134_1, c134_1, e134, hx134_0, hx134_1, hl134_1, hi134_1⟩ := at_T42 HR0_0.out x11_1 p134 q134
      cases e134
      replace hx134_0 := up_ HB hx134_0
      replace hx134_1 := up_ HB hx134_1
      have HR134_1 := Aside0.mk hi134_1
      have HC134_1 := Aside0.mk hl134_1
      clear hi134_1 hl134_1
      replace p134 := eq_true p134
      replace q134 := eq_true q134
      go_wp2_with (first | ((with_reducible refine gate_dst (N := 5) rfl ?_); (try (refine gate_guard (by rfl) ?_; dsimp only)); refine box_event ?hg (N := 5) ?hd (cs := #[.int .i64 0, .slice none 0 0]) (t := 42) ?hr ?_; (case hd => rfl); (case hg => rfl); (case hr => first | (go_simp; done) | (go_simp; rfl)); intro gb135 hg w7 hbox hb; have n0_ := Aside0.mk (blk_below (g := gb133) (o := .cells #[.slice (some ad134) l0_0.length c0_0, .slice A0_1 l0_1.length c0_1, .slice A0_2 l0_2.length c0_2] 26 (0, 0)) bk hb); have n1_ := Aside0.mk (below_step bw hb); have n2_ := Aside0.mk (hbox); have n3_ := Aside0.mk (bz hg : w.heap.size ≤ gb135); have n4_ := Aside0.mk (bz hg : w.heap.size ≤ gb135); have n5_ := Aside0.mk ((by rw [hg]; exact Nat.ne_of_lt (blk_lt (g := gb133) (o := .cells #[.slice (some ad134) l0_0.length c0_0, .slice A0_1 l0_1.length c0_1, .slice A0_2 l0_2.length c0_2] 26 (0, 0)) bk) : gb133 ≠ gb135)); have n6_ := Aside0.mk ((by rw [hg]; exact Nat.ne_of_gt (blk_lt (g := gb133) (o := .cells #[.slice (some ad134) l0_0.length c0_0, .slice A0_1 l0_1.length c0_1, .slice A0_2 l0_2.length c0_2] 26 (0, 0)) bk) : gb135 ≠ gb133)); clear BK133; clear HB; have BK133 := n0_; have HB := n1_; have BK135 := n2_; have GW135 := n3_; have GE135 := n4_; have NB133_135 := n5_; have NB135_133 := n6_; clear n0_ n1_ n2_ n3_ n4_ n5_ n6_; clear hb hbox hg; have hnb8 := NB135_133.out; have hnc8 := NB133_135.out; have hcz9_0 : w7.cell? ⟨gb135, 0, none⟩ = some (.int .i64 0) := (blk_cell BK135.out 0).trans rfl; have hcz9_1 : w7.cell? ⟨gb135, 1, none⟩ = some (.slice none 0 0) := (blk_cell BK135.out 1).trans rfl; have hfz9_0 := blk_frozen BK135.out 0; have hfz9_1 := blk_frozen BK135.out 1))
      repeat (go_quiet (first | ((with_reducible refine gate_dst (N := 5) rfl ?_); (try (refine gate_guard (by rfl) ?_; dsimp only)); refine box_event ?hg (N := 5) ?hd (cs := #[.int .i64 0, .slice none 0 0]) (t := 42) ?hr ?_; (case hd => rfl); (case hg => rfl); (case hr => first | (go_simp; done) | (go_simp; rfl)); intro gb135 hg w7 hbox hb; have n0_ := Aside0.mk (blk_below (g := gb133) (o := .cells #[.slice (some ad134) l0_0.length c0_0, .slice A0_1 l0_1.length c0_1, .slice A0_2 l0_2.length c0_2] 26 (0, 0)) bk hb); have n1_ := Aside0.mk (below_step bw hb); have n2_ := Aside0.mk (hbox); have n3_ := Aside0.mk (bz hg : w.heap.size ≤ gb135); have n4_ := Aside0.mk (bz hg : w.heap.size ≤ gb135); have n5_ := Aside0.mk ((by rw [hg]; exact Nat.ne_of_lt (blk_lt (g := gb133) (o := .cells #[.slice (some ad134) l0_0.length c0_0, .slice A0_1 l0_1.length c0_1, .slice A0_2 l0_2.length c0_2] 26 (0, 0)) bk) : gb133 ≠ gb135)); have n6_ := Aside0.mk ((by rw [hg]; exact Nat.ne_of_gt (blk_lt (g := gb133) (o := .cells #[.slice (some ad134) l0_0.length c0_0, .slice A0_1 l0_1.length c0_1, .slice A0_2 l0_2.length c0_2] 26 (0, 0)) bk) : gb135 ≠ gb133)); clear BK133; clear HB; have BK133 := n0_; have HB := n1_; have BK135 := n2_; have GW135 := n3_; have GE135 := n4_; have NB133_135 := n5_; have NB135_133 := n6_; clear n0_ n1_ n2_ n3_ n4_ n5_ n6_; clear hb hbox hg; have hnb8 := NB135_133.out; have hnc8 := NB133_135.out; have hcz9_0 : w7.cell? ⟨gb135, 0, none⟩ = some (.int .i64 0) := (blk_cell BK135.out 0).trans rfl; have hcz9_1 : w7.cell? ⟨gb135, 1, none⟩ = some (.slice none 0 0) := (blk_cell BK135.out 1).trans rfl; have hfz9_0 := blk_frozen BK135.out 0; have hfz9_1 := blk_frozen BK135.out 1)); try go_wp2_with (first | ((with_reducible refine gate_dst (N := 5) rfl ?_); (try (refine gate_guard (by rfl) ?_; dsimp only)); refine box_event ?hg (N := 5) ?hd (cs := #[.int .i64 0, .slice none 0 0]) (t := 42) ?hr ?_; (case hd => rfl); (case hg => rfl); (case hr => first | (go_simp; done) | (go_simp; rfl)); intro gb135 hg w7 hbox hb; have n0_ := Aside0.mk (blk_below (g := gb133) (o := .cells #[.slice (some ad134) l0_0.length c0_0, .slice A0_1 l0_1.length c0_1, .slice A0_2 l0_2.length c0_2] 26 (0, 0)) bk hb); have n1_ := Aside0.mk (below_step bw hb); have n2_ := Aside0.mk (hbox); have n3_ := Aside0.mk (bz hg : w.heap.size ≤ gb135); have n4_ := Aside0.mk (bz hg : w.heap.size ≤ gb135); have n5_ := Aside0.mk ((by rw [hg]; exact Nat.ne_of_lt (blk_lt (g := gb133) (o := .cells #[.slice (some ad134) l0_0.length c0_0, .slice A0_1 l0_1.length c0_1, .slice A0_2 l0_2.length c0_2] 26 (0, 0)) bk) : gb133 ≠ gb135)); have n6_ := Aside0.mk ((by rw [hg]; exact Nat.ne_of_gt (blk_lt (g := gb133) (o := .cells #[.slice (some ad134) l0_0.length c0_0, .slice A0_1 l0_1.length c0_1, .slice A0_2 l0_2.length c0_2] 26 (0, 0)) bk) : gb135 ≠ gb133)); clear BK133; clear HB; have BK133 := n0_; have HB := n1_; have BK135 := n2_; have GW135 := n3_; have GE135 := n4_; have NB133_135 := n5_; have NB135_133 := n6_; clear n0_ n1_ n2_ n3_ n4_ n5_ n6_; clear hb hbox hg; have hnb8 := NB135_133.out; have hnc8 := NB133_135.out; have hcz9_0 : w7.cell? ⟨gb135, 0, none⟩ = some (.int .i64 0) := (blk_cell BK135.out 0).trans rfl; have hcz9_1 : w7.cell? ⟨gb135, 1, none⟩ = some (.slice none 0 0) := (blk_cell BK135.out 1).trans rfl; have hfz9_0 := blk_frozen BK135.out 0; have hfz9_1 := blk_frozen BK135.out 1)))
      go_loopg [3, 6] k1 (fun kq v3 v6 w' => ∃ (x3_2 : Int) (x6_2 : Int), v3 = .int .i64 x3_2 ∧ v6 = .int .i64 x6_2 ∧ Aside0 (asm_marked.l1 kq x3_2 x6_2 l0_0 (l0_0.length : Int) x11_1 l0_0 l0_1 l0_2 ((rd_T42 l0_0 x11_1).f0) ((rd_T42 l0_0 x11_1).f1) = some r) ∧ Aside0 (kq ≤ k1) ∧ Aside0 (w'.heap[gb133]? = some (.cells #[(.slice (some ad134) l0_0.length c0_0), (.slice A0_1 l0_1.length c0_1), (.slice A0_2 l0_2.length c0_2)] 26 (0, 0))) ∧ Aside0 (w'.heap[gb135]? = some (.cells #[.int .i64 ((rd_T42 l0_0 x11_1).f0), (.slice A134_1 ((rd_T42 l0_0 x11_1).f1).length c134_1)] 42 (0, 0))) ∧ Aside0 (Below w.heap.size w w'))
      case atStart => exact ⟨(x3_1), (0), rs, rs, H', ⟨Nat.le_refl _⟩, ⟨by (with_reducible repeat (first | refine blk_drewN ?_ _ | refine blk_drew ?_ | refine blk_alloc ?_ _)); refine blk_far ?_ NB133_135.out _; (with_reducible repeat (first | refine blk_drewN ?_ _ | refine blk_drew ?_ | refine blk_alloc ?_ _)); refine blk_far ?_ NB133_135.out _; (with_reducible repeat (first | refine blk_drewN ?_ _ | refine blk_drew ?_ | refine blk_alloc ?_ _)); exact BK133.out⟩, ⟨by (with_reducible repeat (first | refine blk_drewN ?_ _ | refine blk_drew ?_ | refine blk_alloc ?_ _)); refine blk_put (cs := #[.int .i64 ((rd_T42 l0_0 x11_1).f0), .slice none 0 0]) ?_ 1 _ rfl; (with_reducible repeat (first | refine blk_drewN ?_ _ | refine blk_drew ?_ | refine blk_alloc ?_ _)); refine blk_put (cs := #[.int .i64 0, .slice none 0 0]) ?_ 0 _ rfl; (with_reducible repeat (first | refine blk_drewN ?_ _ | refine blk_drew ?_ | refine blk_alloc ?_ _)); exact BK135.out⟩, ⟨bw⟩⟩
      case round =>
       clear H'
       clear c4b0 c5b0 c6b0 hcz9_0 hcz9_1 hfz9_0 hfz9_1 hx134_0 hx134_1 p134 q134
       obtain ⟨x3_2, x6_2, rfl, rfl, HA, HK2, BK133, BK135, HB⟩ := hrel
       cases gk with
       | zero => exact absurd HA.out (by simp [asm_marked.l1])
       | succ k2 =>
        have H := HA.out
        clear HA
        simp only [asm_marked.l1] at H
        by_cases c10 : x6_2 < (((rd_T42 l0_0 x11_1).f1).length : Int)
        ·rw [if_pos c10] at H
         have c10b0 : decide (x6_2 < (((rd_T42 l0_0 x11_1).f1).length : Int)) = true := decide_eq_true c10
         clear c10
         by_cases c11 : x3_2 ≥ (l0_1.length : Int)
         ·rw [if_pos c11] at H
          have c11b0 : decide ((l0_1.length : Int) ≤ x3_2) = true := decide_eq_true c11
          clear c11
          obtain rfl := Option.some.inj H
          have hnb12 := NB135_133.out
          have hnc12 := NB133_135.out
          have hcz13_0 : wr.cell? ⟨gb135, 0, none⟩ = some (.int .i64 ((rd_T42 l0_0 x11_1).f0)) := (blk_cell BK135.out 0).trans rfl
          have hcz13_1 : wr.cell? ⟨gb135, 1, none⟩ = some (.slice A134_1 ((rd_T42 l0_0 x11_1).f1).length c134_1) := (blk_cell BK135.out 1).trans rfl
          have hfz13_0 := blk_frozen BK135.out 0
          have hfz13_1 := blk_frozen BK135.out 1
          have hcz14_0 : wr.cell? ⟨gb133, 0, none⟩ = some (.slice (some ad134) l0_0.length c0_0) := (blk_cell BK133.out 0).trans rfl
          have hcz14_1 : wr.cell? ⟨gb133, 1, none⟩ = some (.slice A0_1 l0_1.length c0_1) := (blk_cell BK133.out 1).trans rfl
          have hcz14_2 : wr.cell? ⟨gb133, 2, none⟩ = some (.slice A0_2 l0_2.length c0_2) := (blk_cell BK133.out 2).trans rfl
          have hfz14_0 := blk_frozen BK133.out 0
          have hfz14_1 := blk_frozen BK133.out 1
          have hfz14_2 := blk_frozen BK133.out 2
          go_wp2
          repeat (go_quiet (fail); try go_wp2)
          go_ret
          exact ⟨ew, bw⟩
         rw [if_neg c11] at H
         have c11b0 : decide ((l0_1.length : Int) ≤ x3_2) = false := decide_eq_false c11
         clear c11
         by_cases c15 : 0 ≤ x3_2
         ·rw [if_pos c15] at H
          have c15b0 : decide (0 ≤ x3_2) = true := decide_eq_true c15
          clear c15
          by_cases c16 : x3_2 < (l0_1.length : Int)
          ·rw [if_pos c16] at H
           have c16b0 : decide (x3_2 < (l0_1.length : Int)) = true := decide_eq_true c16
           clear c16
           have HC17 := Aside0.mk H
           clear H
           have hnb18 := NB135_133.out
           have hnc18 := NB133_135.out
           have hcz19_0 : wr.cell? ⟨gb135, 0, none⟩ = some (.int .i64 ((rd_T42 l0_0 x11_1).f0)) := (blk_cell BK135.out 0).trans rfl
           have hcz19_1 : wr.cell? ⟨gb135, 1, none⟩ = some (.slice A134_1 ((rd_T42 l0_0 x11_1).f1).length c134_1) := (blk_cell BK135.out 1).trans rfl
           have hfz19_0 := blk_frozen BK135.out 0
           have hfz19_1 := blk_frozen BK135.out 1
           have hcz20_0 : wr.cell? ⟨gb133, 0, none⟩ = some (.slice (some ad134) l0_0.length c0_0) := (blk_cell BK133.out 0).trans rfl
           have hcz20_1 : wr.cell? ⟨gb133, 1, none⟩ = some (.slice A0_1 l0_1.length c0_1) := (blk_cell BK133.out 1).trans rfl
           have hcz20_2 : wr.cell? ⟨gb133, 2, none⟩ = some (.slice A0_2 l0_2.length c0_2) := (blk_cell BK133.out 2).trans rfl
           have hfz20_0 := blk_frozen BK133.out 0
           have hfz20_1 := blk_frozen BK133.out 1
           have hfz20_2 := blk_frozen BK133.out 2
           have p136 : 0 ≤ (x3_2 : Int) := oda
           have q136 : x3_2 < (l0_1.length : Int) := oda
           obtain ⟨ad136, e136, hx136_0, hx136_1, hx136_2⟩ := at_T52 HR0_1.out x3_2 p136 q136
           cases e136
           replace hx136_0 := up_ HB hx136_0
           replace hx136_1 := up_ HB hx136_1
           replace hx136_2 := up_ HB hx136_2
           replace p136 := eq_true p136
           replace q136 := eq_true q136
           go_upto_region 11 with (first | ((with_reducible refine gate_dst (N := 7) rfl ?_); (try (refine gate_guard (by rfl) ?_; dsimp only)); refine box_event ?hg (N := 7) ?hd (cs := #[.int .i64 0, .int .i64 0, .bool false]) (t := 52) ?hr ?_; (case hd => rfl); (case hg => rfl); (case hr => first | (go_simp; done) | (go_simp; rfl)); intro gb137 hg w21 hbox hb; have n0_ := Aside0.mk (blk_below (g := gb133) (o := .cells #[.slice (some ad134) l0_0.length c0_0, .slice (some ad136) l0_1.length c0_1, .slice A0_2 l0_2.length c0_2] 26 (0, 0)) bk hb); have n1_ := Aside0.mk (blk_below (g := gb135) (o := .cells #[.int .i64 ((rd_T42 l0_0 x11_1).f0), .slice A134_1 ((rd_T42 l0_0 x11_1).f1).length c134_1] 42 (0, 0)) bk hb); have n2_ := Aside0.mk (below_step bw hb); have n3_ := Aside0.mk (hbox); have n4_ := Aside0.mk (bz hg : w.heap.size ≤ gb137); have n5_ := Aside0.mk (bz hg : w.heap.size ≤ gb137); have n6_ := Aside0.mk ((by rw [hg]; exact Nat.ne_of_lt (blk_lt (g := gb133) (o := .cells #[.slice (some ad134) l0_0.length c0_0, .slice (some ad136) l0_1.length c0_1, .slice A0_2 l0_2.length c0_2] 26 (0, 0)) bk) : gb133 ≠ gb137)); have n7_ := Aside0.mk ((by rw [hg]; exact Nat.ne_of_gt (blk_lt (g := gb133) (o := .cells #[.slice (some ad134) l0_0.length c0_0, .slice (some ad136) l0_1.length c0_1, .slice A0_2 l0_2.length c0_2] 26 (0, 0)) bk) : gb137 ≠ gb133)); have n8_ := Aside0.mk ((by rw [hg]; exact Nat.ne_of_lt (blk_lt (g := gb135) (o := .cells #[.int .i64 ((rd_T42 l0_0 x11_1).f0), .slice A134_1 ((rd_T42 l0_0 x11_1).f1).length c134_1] 42 (0, 0)) bk) : gb135 ≠ gb137)); have n9_ := Aside0.mk ((by rw [hg]; exact Nat.ne_of_gt (blk_lt (g := gb135) (o := .cells #[.int .i64 ((rd_T42 l0_0 x11_1).f0), .slice A134_1 ((rd_T42 l0_0 x11_1).f1).length c134_1] 42 (0, 0)) bk) : gb137 ≠ gb135)); clear BK133; clear BK135; clear HB; have BK133 := n0_; have BK135 := n1_; have HB := n2_; have BK137 := n3_; have GW137 := n4_; have GE137 := n5_; have NB133_137 := n6_; have NB137_133 := n7_; have NB135_137 := n8_; have NB137_135 := n9_; clear n0_ n1_ n2_ n3_ n4_ n5_ n6_ n7_ n8_ n9_; clear hb hbox hg; have hnb22 := NB137_133.out; have hnc22 := NB133_137.out; have hnb23 := NB137_135.out; have hnc23 := NB135_137.out; have hcz24_0 : w21.cell? ⟨gb137, 0, none⟩ = some (.int .i64 0) := (blk_cell BK137.out 0).trans rfl; have hcz24_1 : w21.cell? ⟨gb137, 1, none⟩ = some (.int .i64 0) := (blk_cell BK137.out 1).trans rfl; have hcz24_2 : w21.cell? ⟨gb137, 2, none⟩ = some (.bool false) := (blk_cell BK137.out 2).trans rfl; have hfz24_0 := blk_frozen BK137.out 0; have hfz24_1 := blk_frozen BK137.out 1; have hfz24_2 := blk_frozen BK137.out 2))
           repeat (go_quiet (first | ((with_reducible refine gate_dst (N := 7) rfl ?_); (try (refine gate_guard (by rfl) ?_; dsimp only)); refine box_event ?hg (N := 7) ?hd (cs := #[.int .i64 0, .int .i64 0, .bool false]) (t := 52) ?hr ?_; (case hd => rfl); (case hg => rfl); (case hr => first | (go_simp; done) | (go_simp; rfl)); intro gb137 hg w21 hbox hb; have n0_ := Aside0.mk (blk_below (g := gb133) (o := .cells #[.slice (some ad134) l0_0.length c0_0, .slice (some ad136) l0_1.length c0_1, .slice A0_2 l0_2.length c0_2] 26 (0, 0)) bk hb); have n1_ := Aside0.mk (blk_below (g := gb135) (o := .cells #[.int .i64 ((rd_T42 l0_0 x11_1).f0), .slice A134_1 ((rd_T42 l0_0 x11_1).f1).length c134_1] 42 (0, 0)) bk hb); have n2_ := Aside0.mk (below_step bw hb); have n3_ := Aside0.mk (hbox); have n4_ := Aside0.mk (bz hg : w.heap.size ≤ gb137); have n5_ := Aside0.mk (bz hg : w.heap.size ≤ gb137); have n6_ := Aside0.mk ((by rw [hg]; exact Nat.ne_of_lt (blk_lt (g := gb133) (o := .cells #[.slice (some ad134) l0_0.length c0_0, .slice (some ad136) l0_1.length c0_1, .slice A0_2 l0_2.length c0_2] 26 (0, 0)) bk) : gb133 ≠ gb137)); have n7_ := Aside0.mk ((by rw [hg]; exact Nat.ne_of_gt (blk_lt (g := gb133) (o := .cells #[.slice (some ad134) l0_0.length c0_0, .slice (some ad136) l0_1.length c0_1, .slice A0_2 l0_2.length c0_2] 26 (0, 0)) bk) : gb137 ≠ gb133)); have n8_ := Aside0.mk ((by rw [hg]; exact Nat.ne_of_lt (blk_lt (g := gb135) (o := .cells #[.int .i64 ((rd_T42 l0_0 x11_1).f0), .slice A134_1 ((rd_T42 l0_0 x11_1).f1).length c134_1] 42 (0, 0)) bk) : gb135 ≠ gb137)); have n9_ := Aside0.mk ((by rw [hg]; exact Nat.ne_of_gt (blk_lt (g := gb135) (o := .cells #[.int .i64 ((rd_T42 l0_0 x11_1).f0), .slice A134_1 ((rd_T42 l0_0 x11_1).f1).length c134_1] 42 (0, 0)) bk) : gb137 ≠ gb135)); clear BK133; clear BK135; clear HB; have BK133 := n0_; have BK135 := n1_; have HB := n2_; have BK137 := n3_; have GW137 := n4_; have GE137 := n5_; have NB133_137 := n6_; have NB137_133 := n7_; have NB135_137 := n8_; have NB137_135 := n9_; clear n0_ n1_ n2_ n3_ n4_ n5_ n6_ n7_ n8_ n9_; clear hb hbox hg; have hnb22 := NB137_133.out; have hnc22 := NB133_137.out; have hnb23 := NB137_135.out; have hnc23 := NB135_137.out; have hcz24_0 : w21.cell? ⟨gb137, 0, none⟩ = some (.int .i64 0) := (blk_cell BK137.out 0).trans rfl; have hcz24_1 : w21.cell? ⟨gb137, 1, none⟩ = some (.int .i64 0) := (blk_cell BK137.out 1).trans rfl; have hcz24_2 : w21.cell? ⟨gb137, 2, none⟩ = some (.bool false) := (blk_cell BK137.out 2).trans rfl; have hfz24_0 := blk_frozen BK137.out 0; have hfz24_1 := blk_frozen BK137.out 1; have hfz24_2 := blk_frozen BK137.out 2)); go_upto_region 11 with (first | ((with_reducible refine gate_dst (N := 7) rfl ?_); (try (refine gate_guard (by rfl) ?_; dsimp only)); refine box_event ?hg (N := 7) ?hd (cs := #[.int .i64 0, .int .i64 0, .bool false]) (t := 52) ?hr ?_; (case hd => rfl); (case hg => rfl); (case hr => first | (go_simp; done) | (go_simp; rfl)); intro gb137 hg w21 hbox hb; have n0_ := Aside0.mk (blk_below (g := gb133) (o := .cells #[.slice (some ad134) l0_0.length c0_0, .slice (some ad136) l0_1.length c0_1, .slice A0_2 l0_2.length c0_2] 26 (0, 0)) bk hb); have n1_ := Aside0.mk (blk_below (g := gb135) (o := .cells #[.int .i64 ((rd_T42 l0_0 x11_1).f0), .slice A134_1 ((rd_T42 l0_0 x11_1).f1).length c134_1] 42 (0, 0)) bk hb); have n2_ := Aside0.mk (below_step bw hb); have n3_ := Aside0.mk (hbox); have n4_ := Aside0.mk (bz hg : w.heap.size ≤ gb137); have n5_ := Aside0.mk (bz hg : w.heap.size ≤ gb137); have n6_ := Aside0.mk ((by rw [hg]; exact Nat.ne_of_lt (blk_lt (g := gb133) (o := .cells #[.slice (some ad134) l0_0.length c0_0, .slice (some ad136) l0_1.length c0_1, .slice A0_2 l0_2.length c0_2] 26 (0, 0)) bk) : gb133 ≠ gb137)); have n7_ := Aside0.mk ((by rw [hg]; exact Nat.ne_of_gt (blk_lt (g := gb133) (o := .cells #[.slice (some ad134) l0_0.length c0_0, .slice (some ad136) l0_1.length c0_1, .slice A0_2 l0_2.length c0_2] 26 (0, 0)) bk) : gb137 ≠ gb133)); have n8_ := Aside0.mk ((by rw [hg]; exact Nat.ne_of_lt (blk_lt (g := gb135) (o := .cells #[.int .i64 ((rd_T42 l0_0 x11_1).f0), .slice A134_1 ((rd_T42 l0_0 x11_1).f1).length c134_1] 42 (0, 0)) bk) : gb135 ≠ gb137)); have n9_ := Aside0.mk ((by rw [hg]; exact Nat.ne_of_gt (blk_lt (g := gb135) (o := .cells #[.int .i64 ((rd_T42 l0_0 x11_1).f0), .slice A134_1 ((rd_T42 l0_0 x11_1).f1).length c134_1] 42 (0, 0)) bk) : gb137 ≠ gb135)); clear BK133; clear BK135; clear HB; have BK133 := n0_; have BK135 := n1_; have HB := n2_; have BK137 := n3_; have GW137 := n4_; have GE137 := n5_; have NB133_137 := n6_; have NB137_133 := n7_; have NB135_137 := n8_; have NB137_135 := n9_; clear n0_ n1_ n2_ n3_ n4_ n5_ n6_ n7_ n8_ n9_; clear hb hbox hg; have hnb22 := NB137_133.out; have hnc22 := NB133_137.out; have hnb23 := NB137_135.out; have hnc23 := NB135_137.out; have hcz24_0 : w21.cell? ⟨gb137, 0, none⟩ = some (.int .i64 0) := (blk_cell BK137.out 0).trans rfl; have hcz24_1 : w21.cell? ⟨gb137, 1, none⟩ = some (.int .i64 0) := (blk_cell BK137.out 1).trans rfl; have hcz24_2 : w21.cell? ⟨gb137, 2, none⟩ = some (.bool false) := (blk_cell BK137.out 2).trans rfl; have hfz24_0 := blk_frozen BK137.out 0; have hfz24_1 := blk_frozen BK137.out 1; have hfz24_2 := blk_frozen BK137.out 2)))
           (try simp only [Act.put, List.setIfInBounds_toArray, List.set_cons_zero, List.set_cons_succ])
           go_cut [69] (fun v69 wc => ∃ (kq : Nat) (x69_16 : Bool), v69 = .bool x69_16 ∧ Aside0 (asm_marked.j2 kq x3_2 x6_2 l0_0 (l0_0.length : Int) x11_1 x69_16 l0_0 l0_1 l0_2 ((rd_T42 l0_0 x11_1).f0) ((rd_T42 l0_0 x11_1).f1) ((rd_T52 l0_1 x3_2).f0) ((rd_T52 l0_1 x3_2).f1) ((rd_T52 l0_1 x3_2).f2) = some r) ∧ Aside0 (kq ≤ k2) ∧ Aside0 (wc.heap[gb133]? = some (.cells #[(.slice (some ad134) l0_0.length c0_0), (.slice (some ad136) l0_1.length c0_1), (.slice A0_2 l0_2.length c0_2)] 26 (0, 0))) ∧ Aside0 (wc.heap[gb135]? = some (.cells #[.int .i64 ((rd_T42 l0_0 x11_1).f0), (.slice A134_1 ((rd_T42 l0_0 x11_1).f1).length c134_1)] 42 (0, 0))) ∧ Aside0 (wc.heap[gb137]? = some (.cells #[.int .i64 ((rd_T52 l0_1 x3_2).f0), .int .i64 ((rd_T52 l0_1 x3_2).f1), .bool ((rd_T52 l0_1 x3_2).f2)] 52 (0, 0))) ∧ Aside0 (Below w.heap.size w wc))
           case first =>
            have H := HC17.out
            clear HC17
            by_cases c25 : ((rd_T52 l0_1 x3_2).f0) = (wrap64 (((rd_T42 l0_0 x11_1).f0) + x6_2))
            ·rw [if_pos c25] at H
             have c25b0 : (((rd_T52 l0_1 x3_2).f0) == (wrap64 (((rd_T42 l0_0 x11_1).f0) + x6_2))) = true := beq_iff_eq.mpr c25
             have c25b1 : (((rd_T52 l0_1 x3_2).f0) != (wrap64 (((rd_T42 l0_0 x11_1).f0) + x6_2))) = false := bne_eq_false_iff_eq.mpr c25
             clear c25
             (first | rw [c25b0] | (simp only [i64_w, i32_w]; rw [c25b0]) | skip)
             by_cases c26 : ((rd_T52 l0_1 x3_2).f1) < 1
             ·rw [if_pos c26] at H
              have c26b0 : decide (((rd_T52 l0_1 x3_2).f1) < 1) = true := decide_eq_true c26
              clear c26
              have H' := Aside0.mk H
              clear H
              have hnb27 := NB137_133.out
              have hnc27 := NB133_137.out
              have hnb28 := NB137_135.out
              have hnc28 := NB135_137.out
              have hcz29_0 : w21.cell? ⟨gb137, 0, none⟩ = some (.int .i64 0) := (blk_cell BK137.out 0).trans rfl
              have hcz29_1 : w21.cell? ⟨gb137, 1, none⟩ = some (.int .i64 0) := (blk_cell BK137.out 1).trans rfl
              have hcz29_2 : w21.cell? ⟨gb137, 2, none⟩ = some (.bool false) := (blk_cell BK137.out 2).trans rfl
              have hfz29_0 := blk_frozen BK137.out 0
              have hfz29_1 := blk_frozen BK137.out 1
              have hfz29_2 := blk_frozen BK137.out 2
              have hnb30 := NB135_133.out
              have hnc30 := NB133_135.out
              have hcz31_0 : w21.cell? ⟨gb135, 0, none⟩ = some (.int .i64 ((rd_T42 l0_0 x11_1).f0)) := (blk_cell BK135.out 0).trans rfl
              have hcz31_1 : w21.cell? ⟨gb135, 1, none⟩ = some (.slice A134_1 ((rd_T42 l0_0 x11_1).f1).length c134_1) := (blk_cell BK135.out 1).trans rfl
              have hfz31_0 := blk_frozen BK135.out 0
              have hfz31_1 := blk_frozen BK135.out 1
              go_wp2
              repeat (go_quiet (fail); try go_wp2)
              go_meet
              case rel => exact ⟨_, (true), rs, H', ⟨by have := HK1.out; have := HK2.out; first | omega | exact Nat.le_refl _⟩, ⟨by (with_reducible repeat (first | refine blk_drewN ?_ _ | refine blk_drew ?_ | refine blk_alloc ?_ _)); refine blk_far ?_ NB133_137.out _; (with_reducible repeat (first | refine blk_drewN ?_ _ | refine blk_drew ?_ | refine blk_alloc ?_ _)); refine blk_far ?_ NB133_137.out _; (with_reducible repeat (first | refine blk_drewN ?_ _ | refine blk_drew ?_ | refine blk_alloc ?_ _)); refine blk_far ?_ NB133_137.out _; (with_reducible repeat (first | refine blk_drewN ?_ _ | refine blk_drew ?_ | refine blk_alloc ?_ _)); exact BK133.out⟩, ⟨by (with_reducible repeat (first | refine blk_drewN ?_ _ | refine blk_drew ?_ | refine blk_alloc ?_ _)); refine blk_far ?_ NB135_137.out _; (with_reducible repeat (first | refine blk_drewN ?_ _ | refine blk_drew ?_ | refine blk_alloc ?_ _)); refine blk_far ?_ NB135_137.out _; (with_reducible repeat (first | refine blk_drewN ?_ _ | refine blk_drew ?_ | refine blk_alloc ?_ _)); refine blk_far ?_ NB135_137.out _; (with_reducible repeat (first | refine blk_drewN ?_ _ | refine blk_drew ?_ | refine blk_alloc ?_ _)); exact BK135.out⟩, ⟨by (with_reducible repeat (first | refine blk_drewN ?_ _ | refine blk_drew ?_ | refine blk_alloc ?_ _)); refine blk_put (cs := #[.int .i64 ((rd_T52 l0_1 x3_2).f0), .int .i64 ((rd_T52 l0_1 x3_2).f1), .bool false]) ?_ 2 _ rfl; (with_reducible repeat (first | refine blk_drewN ?_ _ | refine blk_drew ?_ | refine blk_alloc ?_ _)); refine blk_put (cs := #[.int .i64 ((rd_T52 l0_1 x3_2).f0), .int .i64 0, .bool false]) ?_ 1 _ rfl; (with_reducible repeat (first | refine blk_drewN ?_ _ | refine blk_drew ?_ | refine blk_alloc ?_ _)); refine blk_put (cs := #[.int .i64 0, .int .i64 0, .bool false]) ?_ 0 _ rfl; (with_reducible repeat (first | refine blk_drewN ?_ _ | refine blk_drew ?_ | refine blk_alloc ?_ _)); exact BK137.out⟩, ⟨bw⟩⟩
             rw [if_neg c26] at H
             have c26b0 : decide (((rd_T52 l0_1 x3_2).f1) < 1) = false := decide_eq_false c26
             clear c26
             by_cases c32 : ((rd_T52 l0_1 x3_2).f1) > (wrap64 ((((rd_T42 l0_0 x11_1).f1).length : Int) - x6_2))
             ·rw [if_pos c32] at H
              have c32b0 : decide ((wrap64 ((((rd_T42 l0_0 x11_1).f1).length : Int) - x6_2)) < ((rd_T52 l0_1 x3_2).f1)) = true := decide_eq_true c32
              clear c32
              have H' := Aside0.mk H
              clear H
              have hnb33 := NB137_133.out
              have hnc33 := NB133_137.out
              have hnb34 := NB137_135.out
              have hnc34 := NB135_137.out
              have hcz35_0 : w21.cell? ⟨gb137, 0, none⟩ = some (.int .i64 0) := (blk_cell BK137.out 0).trans rfl
              have hcz35_1 : w21.cell? ⟨gb137, 1, none⟩ = some (.int .i64 0) := (blk_cell BK137.out 1).trans rfl
              have hcz35_2 : w21.cell? ⟨gb137, 2, none⟩ = some (.bool false) := (blk_cell BK137.out 2).trans rfl
              have hfz35_0 := blk_frozen BK137.out 0
              have hfz35_1 := blk_frozen BK137.out 1
              have hfz35_2 := blk_frozen BK137.out 2
              have hnb36 := NB135_133.out
              have hnc36 := NB133_135.out
              have hcz37_0 : w21.cell? ⟨gb135, 0, none⟩ = some (.int .i64 ((rd_T42 l0_0 x11_1).f0)) := (blk_cell BK135.out 0).trans rfl
              have hcz37_1 : w21.cell? ⟨gb135, 1, none⟩ = some (.slice A134_1 ((rd_T42 l0_0 x11_1).f1).length c134_1) := (blk_cell BK135.out 1).trans rfl
              have hfz37_0 := blk_frozen BK135.out 0
              have hfz37_1 := blk_frozen BK135.out 1
              go_wp2
              repeat (go_quiet (fail); try go_wp2)
              go_meet
              case rel => exact ⟨_, (true), rs, H', ⟨by have := HK1.out; have := HK2.out; first | omega | exact Nat.le_refl _⟩, ⟨by (with_reducible repeat (first | refine blk_drewN ?_ _ | refine blk_drew ?_ | refine blk_alloc ?_ _)); refine blk_far ?_ NB133_137.out _; (with_reducible repeat (first | refine blk_drewN ?_ _ | refine blk_drew ?_ | refine blk_alloc ?_ _)); refine blk_far ?_ NB133_137.out _; (with_reducible repeat (first | refine blk_drewN ?_ _ | refine blk_drew ?_ | refine blk_alloc ?_ _)); refine blk_far ?_ NB133_137.out _; (with_reducible repeat (first | refine blk_drewN ?_ _ | refine blk_drew ?_ | refine blk_alloc ?_ _)); exact BK133.out⟩, ⟨by (with_reducible repeat (first | refine blk_drewN ?_ _ | refine blk_drew ?_ | refine blk_alloc ?_ _)); refine blk_far ?_ NB135_137.out _; (with_reducible repeat (first | refine blk_drewN ?_ _ | refine blk_drew ?_ | refine blk_alloc ?_ _)); refine blk_far ?_ NB135_137.out _; (with_reducible repeat (first | refine blk_drewN ?_ _ | refine blk_drew ?_ | refine blk_alloc ?_ _)); refine blk_far ?_ NB135_137.out _; (with_reducible repeat (first | refine blk_drewN ?_ _ | refine blk_drew ?_ | refine blk_alloc ?_ _)); exact BK135.out⟩, ⟨by (with_reducible repeat (first | refine blk_drewN ?_ _ | refine blk_drew ?_ | refine blk_alloc ?_ _)); refine blk_put (cs := #[.int .i64 ((rd_T52 l0_1 x3_2).f0), .int .i64 ((rd_T52 l0_1 x3_2).f1), .bool false]) ?_ 2 _ rfl; (with_reducible repeat (first | refine blk_drewN ?_ _ | refine blk_drew ?_ | refine blk_alloc ?_ _)); refine blk_put (cs := #[.int .i64 ((rd_T52 l0_1 x3_2).f0), .int .i64 0, .bool false]) ?_ 1 _ rfl; (with_reducible repeat (first | refine blk_drewN ?_ _ | refine blk_drew ?_ | refine blk_alloc ?_ _)); refine blk_put (cs := #[.int .i64 0, .int .i64 0, .bool false]) ?_ 0 _ rfl; (with_reducible repeat (first | refine blk_drewN ?_ _ | refine blk_drew ?_ | refine blk_alloc ?_ _)); exact BK137.out⟩, ⟨bw⟩⟩
             rw [if_neg c32] at H
             have c32b0 : decide ((wrap64 ((((rd_T42 l0_0 x11_1).f1).length : Int) - x6_2)) < ((rd_T52 l0_1 x3_2).f1)) = false := decide_eq_false c32
             clear c32
             by_cases c38 : x6_2 > 0
             ·rw [if_pos c38] at H
              have c38b0 : decide (0 < x6_2) = true := decide_eq_true c38
              clear c38
              obtain ⟨ji39, hji39⟩ : ∃ j_ : Int, (wrap64 (x3_2 - 1)) = j_ := ⟨_, rfl⟩
              replace H : (if 0 ≤ (ji39) then (if (ji39) < (l0_1.length : Int) then (asm_marked.j2 k2 x3_2 x6_2 l0_0 (l0_0.length : Int) x11_1 (((rd_T52 l0_1 (ji39)).f2) == ((rd_T52 l0_1 x3_2).f2)) l0_0 l0_1 l0_2 ((rd_T42 l0_0 x11_1).f0) ((rd_T42 l0_0 x11_1).f1) ((rd_T52 l0_1 x3_2).f0) ((rd_T52 l0_1 x3_2).f1) ((rd_T52 l0_1 x3_2).f2)) else (none)) else (none)) = some r := by first | (rw [hji39] at H; exact H) | (simp only [hji39] at H ⊢; exact H)
              have hji39w : (IntKind.i64.wrap (x3_2 - 1)) = ji39 := (i64_w _).trans hji39
              by_cases c40 : 0 ≤ (ji39)
              ·rw [if_pos c40] at H
               have c40b0 : decide (0 ≤ (ji39)) = true := decide_eq_true c40
               clear c40
               by_cases c41 : (ji39) < (l0_1.length : Int)
               ·rw [if_pos c41] at H
                have c41b0 : decide ((ji39) < (l0_1.length : Int)) = true := decide_eq_true c41
                clear c41
                have H' := Aside0.mk H
                clear H
                have hnb42 := NB137_133.out
                have hnc42 := NB133_137.out
                have hnb43 := NB137_135.out
                have hnc43 := NB135_137.out
                have hcz44_0 : w21.cell? ⟨gb137, 0, none⟩ = some (.int .i64 0) := (blk_cell BK137.out 0).trans rfl
                have hcz44_1 : w21.cell? ⟨gb137, 1, none⟩ = some (.int .i64 0) := (blk_cell BK137.out 1).trans rfl
                have hcz44_2 : w21.cell? ⟨gb137, 2, none⟩ = some (.bool false) := (blk_cell BK137.out 2).trans rfl
                have hfz44_0 := blk_frozen BK137.out 0
                have hfz44_1 := blk_frozen BK137.out 1
                have hfz44_2 := blk_frozen BK137.out 2
                have hnb45 := NB135_133.out
                have hnc45 := NB133_135.out
                have hcz46_0 : w21.cell? ⟨gb135, 0, none⟩ = some (.int .i64 ((rd_T42 l0_0 x11_1).f0)) := (blk_cell BK135.out 0).trans rfl
                have hcz46_1 : w21.cell? ⟨gb135, 1, none⟩ = some (.slice A134_1 ((rd_T42 l0_0 x11_1).f1).length c134_1) := (blk_cell BK135.out 1).trans rfl
                have hfz46_0 := blk_frozen BK135.out 0
                have hfz46_1 := blk_frozen BK135.out 1
                have hcz47_0 : w21.cell? ⟨gb133, 0, none⟩ = some (.slice (some ad134) l0_0.length c0_0) := (blk_cell BK133.out 0).trans rfl
                have hcz47_1 : w21.cell? ⟨gb133, 1, none⟩ = some (.slice (some ad136) l0_1.length c0_1) := (blk_cell BK133.out 1).trans rfl
                have hcz47_2 : w21.cell? ⟨gb133, 2, none⟩ = some (.slice A0_2 l0_2.length c0_2) := (blk_cell BK133.out 2).trans rfl
                have hfz47_0 := blk_frozen BK133.out 0
                have hfz47_1 := blk_frozen BK133.out 1
                have hfz47_2 := blk_frozen BK133.out 2
                have p138 : 0 ≤ ((ji39) : Int) := oda
                have q138 : (ji39) < (l0_1.length : Int) := oda
                obtain ⟨ad138, e138, hx138_0, hx138_1, hx138_2⟩ := at_T52 HR0_1.out (ji39) p138 q138
                obtain rfl : ad136 = ad138 := (by injection e138)
                have hn138_0 : ad136.block ≠ gb137 := Nat.ne_of_lt (Nat.lt_of_lt_of_le (by have := World.block_lt_of_cell? _ _ hx138_0; first | rwa [add_block] at this | exact this) GW137.out)
                have hn138_1 : ad136.block ≠ gb137 := Nat.ne_of_lt (Nat.lt_of_lt_of_le (by have := World.block_lt_of_cell? _ _ hx138_0; first | rwa [add_block] at this | exact this) GW137.out)
                have hn138_2 : ad136.block ≠ gb137 := Nat.ne_of_lt (Nat.lt_of_lt_of_le (by have := World.block_lt_of_cell? _ _ hx138_0; first | rwa [add_block] at this | exact this) GW137.out)
                replace hx138_0 := up_ HB hx138_0
                replace hx138_1 := up_ HB hx138_1
                replace hx138_2 := up_ HB hx138_2
                replace hx138_0 := (cell_far (p := ⟨gb137, 0, none⟩) (by first | (rw [add_block]; exact hn138_0) | (show (Addr.add _ _).block ≠ _; rw [add_block]; exact hn138_0) | exact hn138_0) (.int .i64 ((rd_T52 l0_1 x3_2).f0))).trans hx138_0
                replace hx138_1 := (cell_far (p := ⟨gb137, 0, none⟩) (by first | (rw [add_block]; exact hn138_0) | (show (Addr.add _ _).block ≠ _; rw [add_block]; exact hn138_0) | exact hn138_0) (.int .i64 ((rd_T52 l0_1 x3_2).f0))).trans hx138_1
                replace hx138_2 := (cell_far (p := ⟨gb137, 0, none⟩) (by first | (rw [add_block]; exact hn138_0) | (show (Addr.add _ _).block ≠ _; rw [add_block]; exact hn138_0) | exact hn138_0) (.int .i64 ((rd_T52 l0_1 x3_2).f0))).trans hx138_2
                replace hx138_0 := (cell_far (p := ⟨gb137, 1, none⟩) (by first | (rw [add_block]; exact hn138_1) | (show (Addr.add _ _).block ≠ _; rw [add_block]; exact hn138_1) | exact hn138_1) (.int .i64 ((rd_T52 l0_1 x3_2).f1))).trans hx138_0
                replace hx138_1 := (cell_far (p := ⟨gb137, 1, none⟩) (by first | (rw [add_block]; exact hn138_1) | (show (Addr.add _ _).block ≠ _; rw [add_block]; exact hn138_1) | exact hn138_1) (.int .i64 ((rd_T52 l0_1 x3_2).f1))).trans hx138_1
                replace hx138_2 := (cell_far (p := ⟨gb137, 1, none⟩) (by first | (rw [add_block]; exact hn138_1) | (show (Addr.add _ _).block ≠ _; rw [add_block]; exact hn138_1) | exact hn138_1) (.int .i64 ((rd_T52 l0_1 x3_2).f1))).trans hx138_2
                replace hx138_0 := (cell_far (p := ⟨gb137, 2, none⟩) (by first | (rw [add_block]; exact hn138_2) | (show (Addr.add _ _).block ≠ _; rw [add_block]; exact hn138_2) | exact hn138_2) (.bool ((rd_T52 l0_1 x3_2).f2))).trans hx138_0
                replace hx138_1 := (cell_far (p := ⟨gb137, 2, none⟩) (by first | (rw [add_block]; exact hn138_2) | (show (Addr.add _ _).block ≠ _; rw [add_block]; exact hn138_2) | exact hn138_2) (.bool ((rd_T52 l0_1 x3_2).f2))).trans hx138_1
                replace hx138_2 := (cell_far (p := ⟨gb137, 2, none⟩) (by first | (rw [add_block]; exact hn138_2) | (show (Addr.add _ _).block ≠ _; rw [add_block]; exact hn138_2) | exact hn138_2) (.bool ((rd_T52 l0_1 x3_2).f2))).trans hx138_2
                (try have hy138_0 := fun (n_ : Nat) => (show (((((w21.drewN n_).setCell ⟨gb137, 0, none⟩ (.int .i64 ((rd_T52 l0_1 x3_2).f0))).setCell ⟨gb137, 1, none⟩ (.int .i64 ((rd_T52 l0_1 x3_2).f1))).setCell ⟨gb137, 2, none⟩ (.bool ((rd_T52 l0_1 x3_2).f2)))).cell? _ = some _ from hx138_0))
                (try have hy138_1 := fun (n_ : Nat) => (show (((((w21.drewN n_).setCell ⟨gb137, 0, none⟩ (.int .i64 ((rd_T52 l0_1 x3_2).f0))).setCell ⟨gb137, 1, none⟩ (.int .i64 ((rd_T52 l0_1 x3_2).f1))).setCell ⟨gb137, 2, none⟩ (.bool ((rd_T52 l0_1 x3_2).f2)))).cell? _ = some _ from hx138_1))
                (try have hy138_2 := fun (n_ : Nat) => (show (((((w21.drewN n_).setCell ⟨gb137, 0, none⟩ (.int .i64 ((rd_T52 l0_1 x3_2).f0))).setCell ⟨gb137, 1, none⟩ (.int .i64 ((rd_T52 l0_1 x3_2).f1))).setCell ⟨gb137, 2, none⟩ (.bool ((rd_T52 l0_1 x3_2).f2)))).cell? _ = some _ from hx138_2))
                clear hn138_0
                clear hn138_1
                clear hn138_2
                replace p138 := eq_true p138
                replace q138 := eq_true q138
                go_wp2
                repeat (go_quiet (fail); try go_wp2)
                go_meet
                case rel => exact ⟨_, ((((rd_T52 l0_1 (ji39)).f2) == ((rd_T52 l0_1 x3_2).f2))), (by first | rfl | (simp; done) | (simp only [← hji39] <;> (first | rfl | simp)) | (simp [*]; done)), H', ⟨by have := HK1.out; have := HK2.out; first | omega | exact Nat.le_refl _⟩, ⟨by (with_reducible repeat (first | refine blk_drewN ?_ _ | refine blk_drew ?_ | refine blk_alloc ?_ _)); refine blk_far ?_ NB133_137.out _; (with_reducible repeat (first | refine blk_drewN ?_ _ | refine blk_drew ?_ | refine blk_alloc ?_ _)); refine blk_far ?_ NB133_137.out _; (with_reducible repeat (first | refine blk_drewN ?_ _ | refine blk_drew ?_ | refine blk_alloc ?_ _)); refine blk_far ?_ NB133_137.out _; (with_reducible repeat (first | refine blk_drewN ?_ _ | refine blk_drew ?_ | refine blk_alloc ?_ _)); exact BK133.out⟩, ⟨by (with_reducible repeat (first | refine blk_drewN ?_ _ | refine blk_drew ?_ | refine blk_alloc ?_ _)); refine blk_far ?_ NB135_137.out _; (with_reducible repeat (first | refine blk_drewN ?_ _ | refine blk_drew ?_ | refine blk_alloc ?_ _)); refine blk_far ?_ NB135_137.out _; (with_reducible repeat (first | refine blk_drewN ?_ _ | refine blk_drew ?_ | refine blk_alloc ?_ _)); refine blk_far ?_ NB135_137.out _; (with_reducible repeat (first | refine blk_drewN ?_ _ | refine blk_drew ?_ | refine blk_alloc ?_ _)); exact BK135.out⟩, ⟨by (with_reducible repeat (first | refine blk_drewN ?_ _ | refine blk_drew ?_ | refine blk_alloc ?_ _)); refine blk_put (cs := #[.int .i64 ((rd_T52 l0_1 x3_2).f0), .int .i64 ((rd_T52 l0_1 x3_2).f1), .bool false]) ?_ 2 _ rfl; (with_reducible repeat (first | refine blk_drewN ?_ _ | refine blk_drew ?_ | refine blk_alloc ?_ _)); refine blk_put (cs := #[.int .i64 ((rd_T52 l0_1 x3_2).f0), .int .i64 0, .bool false]) ?_ 1 _ rfl; (with_reducible repeat (first | refine blk_drewN ?_ _ | refine blk_drew ?_ | refine blk_alloc ?_ _)); refine blk_put (cs := #[.int .i64 0, .int .i64 0, .bool false]) ?_ 0 _ rfl; (with_reducible repeat (first | refine blk_drewN ?_ _ | refine blk_drew ?_ | refine blk_alloc ?_ _)); exact BK137.out⟩, ⟨bw⟩⟩
               rw [if_neg c41] at H
               exact absurd H (by simp)
              rw [if_neg c40] at H
              exact absurd H (by simp)
             rw [if_neg c38] at H
             have c38b0 : decide (0 < x6_2) = false := decide_eq_false c38
             clear c38
             have H' := Aside0.mk H
             clear H
             have hnb48 := NB137_133.out
             have hnc48 := NB133_137.out
             have hnb49 := NB137_135.out
             have hnc49 := NB135_137.out
             have hcz50_0 : w21.cell? ⟨gb137, 0, none⟩ = some (.int .i64 0) := (blk_cell BK137.out 0).trans rfl
             have hcz50_1 : w21.cell? ⟨gb137, 1, none⟩ = some (.int .i64 0) := (blk_cell BK137.out 1).trans rfl
             have hcz50_2 : w21.cell? ⟨gb137, 2, none⟩ = some (.bool false) := (blk_cell BK137.out 2).trans rfl
             have hfz50_0 := blk_frozen BK137.out 0
             have hfz50_1 := blk_frozen BK137.out 1
             have hfz50_2 := blk_frozen BK137.out 2
             have hnb51 := NB135_133.out
             have hnc51 := NB133_135.out
             have hcz52_0 : w21.cell? ⟨gb135, 0, none⟩ = some (.int .i64 ((rd_T42 l0_0 x11_1).f0)) := (blk_cell BK135.out 0).trans rfl
             have hcz52_1 : w21.cell? ⟨gb135, 1, none⟩ = some (.slice A134_1 ((rd_T42 l0_0 x11_1).f1).length c134_1) := (blk_cell BK135.out 1).trans rfl
             have hfz52_0 := blk_frozen BK135.out 0
             have hfz52_1 := blk_frozen BK135.out 1
             go_wp2
             repeat (go_quiet (fail); try go_wp2)
             go_meet
             case rel => exact ⟨_, (false), rs, H', ⟨by have := HK1.out; have := HK2.out; first | omega | exact Nat.le_refl _⟩, ⟨by (with_reducible repeat (first | refine blk_drewN ?_ _ | refine blk_drew ?_ | refine blk_alloc ?_ _)); refine blk_far ?_ NB133_137.out _; (with_reducible repeat (first | refine blk_drewN ?_ _ | refine blk_drew ?_ | refine blk_alloc ?_ _)); refine blk_far ?_ NB133_137.out _; (with_reducible repeat (first | refine blk_drewN ?_ _ | refine blk_drew ?_ | refine blk_alloc ?_ _)); refine blk_far ?_ NB133_137.out _; (with_reducible repeat (first | refine blk_drewN ?_ _ | refine blk_drew ?_ | refine blk_alloc ?_ _)); exact BK133.out⟩, ⟨by (with_reducible repeat (first | refine blk_drewN ?_ _ | refine blk_drew ?_ | refine blk_alloc ?_ _)); refine blk_far ?_ NB135_137.out _; (with_reducible repeat (first | refine blk_drewN ?_ _ | refine blk_drew ?_ | refine blk_alloc ?_ _)); refine blk_far ?_ NB135_137.out _; (with_reducible repeat (first | refine blk_drewN ?_ _ | refine blk_drew ?_ | refine blk_alloc ?_ _)); refine blk_far ?_ NB135_137.out _; (with_reducible repeat (first | refine blk_drewN ?_ _ | refine blk_drew ?_ | refine blk_alloc ?_ _)); exact BK135.out⟩, ⟨by (with_reducible repeat (first | refine blk_drewN ?_ _ | refine blk_drew ?_ | refine blk_alloc ?_ _)); refine blk_put (cs := #[.int .i64 ((rd_T52 l0_1 x3_2).f0), .int .i64 ((rd_T52 l0_1 x3_2).f1), .bool false]) ?_ 2 _ rfl; (with_reducible repeat (first | refine blk_drewN ?_ _ | refine blk_drew ?_ | refine blk_alloc ?_ _)); refine blk_put (cs := #[.int .i64 ((rd_T52 l0_1 x3_2).f0), .int .i64 0, .bool false]) ?_ 1 _ rfl; (with_reducible repeat (first | refine blk_drewN ?_ _ | refine blk_drew ?_ | refine blk_alloc ?_ _)); refine blk_put (cs := #[.int .i64 0, .int .i64 0, .bool false]) ?_ 0 _ rfl; (with_reducible repeat (first | refine blk_drewN ?_ _ | refine blk_drew ?_ | refine blk_alloc ?_ _)); exact BK137.out⟩, ⟨bw⟩⟩
            rw [if_neg c25] at H
            have c25b0 : (((rd_T52 l0_1 x3_2).f0) == (wrap64 (((rd_T42 l0_0 x11_1).f0) + x6_2))) = false := beq_eq_false_iff_ne.mpr c25
            have c25b1 : (((rd_T52 l0_1 x3_2).f0) != (wrap64 (((rd_T42 l0_0 x11_1).f0) + x6_2))) = true := bne_iff_ne.mpr c25
            (first | rw [c25b0] | (simp only [i64_w, i32_w]; rw [c25b0]) | skip)
            have H' := Aside0.mk H
            clear H
            have hnb53 := NB137_133.out
            have hnc53 := NB133_137.out
            have hnb54 := NB137_135.out
            have hnc54 := NB135_137.out
            have hcz55_0 : w21.cell? ⟨gb137, 0, none⟩ = some (.int .i64 0) := (blk_cell BK137.out 0).trans rfl
            have hcz55_1 : w21.cell? ⟨gb137, 1, none⟩ = some (.int .i64 0) := (blk_cell BK137.out 1).trans rfl
            have hcz55_2 : w21.cell? ⟨gb137, 2, none⟩ = some (.bool false) := (blk_cell BK137.out 2).trans rfl
            have hfz55_0 := blk_frozen BK137.out 0
            have hfz55_1 := blk_frozen BK137.out 1
            have hfz55_2 := blk_frozen BK137.out 2
            have hnb56 := NB135_133.out
            have hnc56 := NB133_135.out
            have hcz57_0 : w21.cell? ⟨gb135, 0, none⟩ = some (.int .i64 ((rd_T42 l0_0 x11_1).f0)) := (blk_cell BK135.out 0).trans rfl
            have hcz57_1 : w21.cell? ⟨gb135, 1, none⟩ = some (.slice A134_1 ((rd_T42 l0_0 x11_1).f1).length c134_1) := (blk_cell BK135.out 1).trans rfl
            have hfz57_0 := blk_frozen BK135.out 0
            have hfz57_1 := blk_frozen BK135.out 1
            go_wp2
            repeat (go_quiet (fail); try go_wp2)
            go_meet
            case rel => exact ⟨_, (true), rs, H', ⟨by have := HK1.out; have := HK2.out; first | omega | exact Nat.le_refl _⟩, ⟨by (with_reducible repeat (first | refine blk_drewN ?_ _ | refine blk_drew ?_ | refine blk_alloc ?_ _)); refine blk_far ?_ NB133_137.out _; (with_reducible repeat (first | refine blk_drewN ?_ _ | refine blk_drew ?_ | refine blk_alloc ?_ _)); refine blk_far ?_ NB133_137.out _; (with_reducible repeat (first | refine blk_drewN ?_ _ | refine blk_drew ?_ | refine blk_alloc ?_ _)); refine blk_far ?_ NB133_137.out _; (with_reducible repeat (first | refine blk_drewN ?_ _ | refine blk_drew ?_ | refine blk_alloc ?_ _)); exact BK133.out⟩, ⟨by (with_reducible repeat (first | refine blk_drewN ?_ _ | refine blk_drew ?_ | refine blk_alloc ?_ _)); refine blk_far ?_ NB135_137.out _; (with_reducible repeat (first | refine blk_drewN ?_ _ | refine blk_drew ?_ | refine blk_alloc ?_ _)); refine blk_far ?_ NB135_137.out _; (with_reducible repeat (first | refine blk_drewN ?_ _ | refine blk_drew ?_ | refine blk_alloc ?_ _)); refine blk_far ?_ NB135_137.out _; (with_reducible repeat (first | refine blk_drewN ?_ _ | refine blk_drew ?_ | refine blk_alloc ?_ _)); exact BK135.out⟩, ⟨by (with_reducible repeat (first | refine blk_drewN ?_ _ | refine blk_drew ?_ | refine blk_alloc ?_ _)); refine blk_put (cs := #[.int .i64 ((rd_T52 l0_1 x3_2).f0), .int .i64 ((rd_T52 l0_1 x3_2).f1), .bool false]) ?_ 2 _ rfl; (with_reducible repeat (first | refine blk_drewN ?_ _ | refine blk_drew ?_ | refine blk_alloc ?_ _)); refine blk_put (cs := #[.int .i64 ((rd_T52 l0_1 x3_2).f0), .int .i64 0, .bool false]) ?_ 1 _ rfl; (with_reducible repeat (first | refine blk_drewN ?_ _ | refine blk_drew ?_ | refine blk_alloc ?_ _)); refine blk_put (cs := #[.int .i64 0, .int .i64 0, .bool false]) ?_ 0 _ rfl; (with_reducible repeat (first | refine blk_drewN ?_ _ | refine blk_drew ?_ | refine blk_alloc ?_ _)); exact BK137.out⟩, ⟨bw⟩⟩
           case rest =>
            clear HC17
            clear c10b0 c11b0 c15b0 c16b0 hcz19_0 hcz19_1 hcz20_0 hcz20_1 hcz20_2 hcz24_0 hcz24_1 hcz24_2 hfz19_0 hfz19_1 hfz20_0 hfz20_1 hfz20_2 hfz24_0 hfz24_1 hfz24_2 hx136_0 hx136_1 hx136_2 p136 q136
            obtain ⟨kq, x69_16, rfl, HA, HJ16, BK133, BK135, BK137, HB⟩ := hcut
            cases kq with
            | zero => exact absurd HA.out (by simp [asm_marked.j2])
            | succ kj16 =>
             have H := HA.out
             clear HA
             simp only [asm_marked.j2] at H
             by_cases c58 : x69_16 = true
             ·subst c58
              have H1 : (some false) = some r := by rw [if_pos rfl] at H; exact H
              clear H
              have H := H1
              clear H1
              obtain rfl := Option.some.inj H
              go_wp2
              repeat (go_quiet (fail); try go_wp2)
              go_ret
              exact ⟨ew, bw⟩
             replace c58 := Bool.eq_false_iff.mpr c58
             subst c58
             have H1 : (if ((rd_T52 l0_1 x3_2).f2) = true then (if 0 ≤ x6_2 then (if x6_2 ≤ (wrap64 (x6_2 + ((rd_T52 l0_1 x3_2).f1))) then (if (wrap64 (x6_2 + ((rd_T52 l0_1 x3_2).f1))) ≤ (((rd_T42 l0_0 x11_1).f1).length : Int) then ((asm_whole.f kj16 ((((rd_T42 l0_0 x11_1).f1).take ((wrap64 (x6_2 + ((rd_T52 l0_1 x3_2).f1))) : Int).toNat).drop (x6_2 : Int).toNat)).bind fun t140 => (if t140 = true then (asm_marked.l1 kj16 (wrap64 (x3_2 + 1)) (wrap64 (x6_2 + ((rd_T52 l0_1 x3_2).f1))) l0_0 (l0_0.length : Int) x11_1 l0_0 l0_1 l0_2 ((rd_T42 l0_0 x11_1).f0) ((rd_T42 l0_0 x11_1).f1)) else (some false))) else (none)) else (none)) else (none)) else (asm_marked.l1 kj16 (wrap64 (x3_2 + 1)) (wrap64 (x6_2 + ((rd_T52 l0_1 x3_2).f1))) l0_0 (l0_0.length : Int) x11_1 l0_0 l0_1 l0_2 ((rd_T42 l0_0 x11_1).f0) ((rd_T42 l0_0 x11_1).f1))) = some r := by rw [if_neg (show ¬ (false = true) by decide)] at H; exact H
             clear H
             have H := H1
             clear H1
             by_cases c59 : ((rd_T52 l0_1 x3_2).f2) = true
             ·rw [if_pos c59] at H
              have c59b0 : ((rd_T52 l0_1 x3_2).f2) = true := c59
              clear c59
              by_cases c60 : 0 ≤ x6_2
              ·rw [if_pos c60] at H
               have c60b0 := eq_true c60
               have c60b1 : decide (0 ≤ x6_2) = true := decide_eq_true c60
               clear c60
               by_cases c61 : x6_2 ≤ (wrap64 (x6_2 + ((rd_T52 l0_1 x3_2).f1)))
               ·rw [if_pos c61] at H
                have c61b0 := eq_true c61
                have c61b1 : decide (x6_2 ≤ (wrap64 (x6_2 + ((rd_T52 l0_1 x3_2).f1)))) = true := decide_eq_true c61
                by_cases c62 : (wrap64 (x6_2 + ((rd_T52 l0_1 x3_2).f1))) ≤ (((rd_T42 l0_0 x11_1).f1).length : Int)
                ·rw [if_pos c62] at H
                 have c62b0 := eq_true c62
                 have c62b1 : decide ((wrap64 (x6_2 + ((rd_T52 l0_1 x3_2).f1))) ≤ (((rd_T42 l0_0 x11_1).f1).length : Int)) = true := decide_eq_true c62
                 replace H := Option.bind_eq_some_iff.mp H
                 obtain ⟨t140, A630, H⟩ := H
                 replace H : (if t140 = true then (asm_marked.l1 kj16 (wrap64 (x3_2 + 1)) (wrap64 (x6_2 + ((rd_T52 l0_1 x3_2).f1))) l0_0 (l0_0.length : Int) x11_1 l0_0 l0_1 l0_2 ((rd_T42 l0_0 x11_1).f0) ((rd_T42 l0_0 x11_1).f1)) else (some false)) = some r := H
                 have A63 := Aside0.mk A630
                 clear A630
                 by_cases c64 : t140 = true
                 ·subst c64
                  have H1 : (asm_marked.l1 kj16 (wrap64 (x3_2 + 1)) (wrap64 (x6_2 + ((rd_T52 l0_1 x3_2).f1))) l0_0 (l0_0.length : Int) x11_1 l0_0 l0_1 l0_2 ((rd_T42 l0_0 x11_1).f0) ((rd_T42 l0_0 x11_1).f1)) = some r := by rw [if_pos rfl] at H; exact H
                  clear H
                  have H := H1
                  clear H1
                  have H' := Aside0.mk H
                  clear H
                  have hnb65 := NB137_133.out
                  have hnc65 := NB133_137.out
                  have hnb66 := NB137_135.out
                  have hnc66 := NB135_137.out
                  have hcz67_0 : wc.cell? ⟨gb137, 0, none⟩ = some (.int .i64 ((rd_T52 l0_1 x3_2).f0)) := (blk_cell BK137.out 0).trans rfl
                  have hcz67_1 : wc.cell? ⟨gb137, 1, none⟩ = some (.int .i64 ((rd_T52 l0_1 x3_2).f1)) := (blk_cell BK137.out 1).trans rfl
                  have hcz67_2 : wc.cell? ⟨gb137, 2, none⟩ = some (.bool ((rd_T52 l0_1 x3_2).f2)) := (blk_cell BK137.out 2).trans rfl
                  have hfz67_0 := blk_frozen BK137.out 0
                  have hfz67_1 := blk_frozen BK137.out 1
                  have hfz67_2 := blk_frozen BK137.out 2
                  have hnb68 := NB135_133.out
                  have hnc68 := NB133_135.out
                  have hcz69_0 : wc.cell? ⟨gb135, 0, none⟩ = some (.int .i64 ((rd_T42 l0_0 x11_1).f0)) := (blk_cell BK135.out 0).trans rfl
                  have hcz69_1 : wc.cell? ⟨gb135, 1, none⟩ = some (.slice A134_1 ((rd_T42 l0_0 x11_1).f1).length c134_1) := (blk_cell BK135.out 1).trans rfl
                  have hfz69_0 := blk_frozen BK135.out 0
                  have hfz69_1 := blk_frozen BK135.out 1
                  obtain ⟨i070, hi070, _, hsz70, _⟩ := info_parts info5
                  obtain ⟨A70, hcut70, hA70, hC70⟩ := print_mid_of (P := Tryd.prog) (Value.int .u8) 0 33 5 .i64 .i64 Tryd.underlying33 hi070 hsz70 A134_1 c134_1 ((rd_T42 l0_0 x11_1).f1) x6_2 (wrap64 (x6_2 + ((rd_T52 l0_1 x3_2).f1))) (oda) (by first | omega | exact oda) (oda) HC134_1.out
                  have HR139 := Aside0.mk (Kd.C_of_reads (h1 := fun _ => rfl) (hA70 _ (Kd.reads_of_C HR134_1.out)))
                  have HC139 := Aside0.mk hC70
                  clear hA70 hC70 hi070 hsz70
                  have hlE : Aside0 ((((((rd_T42 l0_0 x11_1).f1).take ((wrap64 (x6_2 + ((rd_T52 l0_1 x3_2).f1))) : Int).toNat).drop (x6_2 : Int).toNat)).length = (wrap64 (x6_2 + (rd_T52 l0_1 x3_2).f1)).toNat - x6_2.toNat) := ⟨by have hle : wrap64 (x6_2 + (rd_T52 l0_1 x3_2).f1) ≤ (((rd_T42 l0_0 x11_1).f1).length : Int) := oda; rw [List.length_drop, List.length_take]; omega⟩
                  go_wp2_with (first | (go_at_call 23; rw [← hlE.out]; (with_reducible refine (asm_whole.calls kj16 (fun k_ => k_ < w.heap.size) _ _ ((((rd_T42 l0_0 x11_1).f1).take ((wrap64 (x6_2 + ((rd_T52 l0_1 x3_2).f1))) : Int).toNat).drop (x6_2 : Int).toNat) true _ ?side1 A63.out (GOk.below HG.out HB.out)).mono ?_); (case side1 => exact Kd.V_mk HC139.out (Kd.F_below (Kd.C_F (Kd.heap_int .u8) HR139.out) bw)); rintro e w71 ⟨rfl, hb⟩; have n0_ := Aside0.mk (blk_below (g := gb133) (o := .cells #[.slice (some ad134) l0_0.length c0_0, .slice (some ad136) l0_1.length c0_1, .slice A0_2 l0_2.length c0_2] 26 (0, 0)) bk hb); have n1_ := Aside0.mk (blk_below (g := gb135) (o := .cells #[.int .i64 ((rd_T42 l0_0 x11_1).f0), .slice A134_1 ((rd_T42 l0_0 x11_1).f1).length c134_1] 42 (0, 0)) bk hb); have n2_ := Aside0.mk (blk_below (g := gb137) (o := .cells #[.int .i64 ((rd_T52 l0_1 x3_2).f0), .int .i64 ((rd_T52 l0_1 x3_2).f1), .bool ((rd_T52 l0_1 x3_2).f2)] 52 (0, 0)) bk hb); have n3_ := Aside0.mk (below_step bw hb); clear BK133; clear BK135; clear BK137; clear HB; have BK133 := n0_; have BK135 := n1_; have BK137 := n2_; have HB := n3_; clear n0_ n1_ n2_ n3_; (try clear hb); (try clear hb2); (try clear hk); (try clear hi); have hcz72_0 : w71.cell? ⟨gb137, 0, none⟩ = some (.int .i64 ((rd_T52 l0_1 x3_2).f0)) := (blk_cell BK137.out 0).trans rfl; have hcz72_1 : w71.cell? ⟨gb137, 1, none⟩ = some (.int .i64 ((rd_T52 l0_1 x3_2).f1)) := (blk_cell BK137.out 1).trans rfl; have hcz72_2 : w71.cell? ⟨gb137, 2, none⟩ = some (.bool ((rd_T52 l0_1 x3_2).f2)) := (blk_cell BK137.out 2).trans rfl; have hfz72_0 := blk_frozen BK137.out 0; have hfz72_1 := blk_frozen BK137.out 1; have hfz72_2 := blk_frozen BK137.out 2))
                  repeat (go_quiet (first | (go_at_call 23; (with_reducible refine (asm_whole.calls kj16 (fun k_ => k_ < w.heap.size) _ _ ((((rd_T42 l0_0 x11_1).f1).take ((wrap64 (x6_2 + ((rd_T52 l0_1 x3_2).f1))) : Int).toNat).drop (x6_2 : Int).toNat) true _ ?side1 A63.out (GOk.below HG.out HB.out)).mono ?_); (case side1 => exact Kd.V_mk HC139.out (Kd.F_below (Kd.C_F (Kd.heap_int .u8) HR139.out) bw)); rintro e w71 ⟨rfl, hb⟩; have n0_ := Aside0.mk (blk_below (g := gb133) (o := .cells #[.slice (some ad134) l0_0.length c0_0, .slice (some ad136) l0_1.length c0_1, .slice A0_2 l0_2.length c0_2] 26 (0, 0)) bk hb); have n1_ := Aside0.mk (blk_below (g := gb135) (o := .cells #[.int .i64 ((rd_T42 l0_0 x11_1).f0), .slice A134_1 ((rd_T42 l0_0 x11_1).f1).length c134_1] 42 (0, 0)) bk hb); have n2_ := Aside0.mk (blk_below (g := gb137) (o := .cells #[.int .i64 ((rd_T52 l0_1 x3_2).f0), .int .i64 ((rd_T52 l0_1 x3_2).f1), .bool ((rd_T52 l0_1 x3_2).f2)] 52 (0, 0)) bk hb); have n3_ := Aside0.mk (below_step bw hb); clear BK133; clear BK135; clear BK137; clear HB; have BK133 := n0_; have BK135 := n1_; have BK137 := n2_; have HB := n3_; clear n0_ n1_ n2_ n3_; (try clear hb); (try clear hb2); (try clear hk); (try clear hi); have hcz72_0 : w71.cell? ⟨gb137, 0, none⟩ = some (.int .i64 ((rd_T52 l0_1 x3_2).f0)) := (blk_cell BK137.out 0).trans rfl; have hcz72_1 : w71.cell? ⟨gb137, 1, none⟩ = some (.int .i64 ((rd_T52 l0_1 x3_2).f1)) := (blk_cell BK137.out 1).trans rfl; have hcz72_2 : w71.cell? ⟨gb137, 2, none⟩ = some (.bool ((rd_T52 l0_1 x3_2).f2)) := (blk_cell BK137.out 2).trans rfl; have hfz72_0 := blk_frozen BK137.out 0; have hfz72_1 := blk_frozen BK137.out 1; have hfz72_2 := blk_frozen BK137.out 2)); try go_wp2_with (first | (go_at_call 23; (with_reducible refine (asm_whole.calls kj16 (fun k_ => k_ < w.heap.size) _ _ ((((rd_T42 l0_0 x11_1).f1).take ((wrap64 (x6_2 + ((rd_T52 l0_1 x3_2).f1))) : Int).toNat).drop (x6_2 : Int).toNat) true _ ?side1 A63.out (GOk.below HG.out HB.out)).mono ?_); (case side1 => exact Kd.V_mk HC139.out (Kd.F_below (Kd.C_F (Kd.heap_int .u8) HR139.out) bw)); rintro e w71 ⟨rfl, hb⟩; have n0_ := Aside0.mk (blk_below (g := gb133) (o := .cells #[.slice (some ad134) l0_0.length c0_0, .slice (some ad136) l0_1.length c0_1, .slice A0_2 l0_2.length c0_2] 26 (0, 0)) bk hb); have n1_ := Aside0.mk (blk_below (g := gb135) (o := .cells #[.int .i64 ((rd_T42 l0_0 x11_1).f0), .slice A134_1 ((rd_T42 l0_0 x11_1).f1).length c134_1] 42 (0, 0)) bk hb); have n2_ := Aside0.mk (blk_below (g := gb137) (o := .cells #[.int .i64 ((rd_T52 l0_1 x3_2).f0), .int .i64 ((rd_T52 l0_1 x3_2).f1), .bool ((rd_T52 l0_1 x3_2).f2)] 52 (0, 0)) bk hb); have n3_ := Aside0.mk (below_step bw hb); clear BK133; clear BK135; clear BK137; clear HB; have BK133 := n0_; have BK135 := n1_; have BK137 := n2_; have HB := n3_; clear n0_ n1_ n2_ n3_; (try clear hb); (try clear hb2); (try clear hk); (try clear hi); have hcz72_0 : w71.cell? ⟨gb137, 0, none⟩ = some (.int .i64 ((rd_T52 l0_1 x3_2).f0)) := (blk_cell BK137.out 0).trans rfl; have hcz72_1 : w71.cell? ⟨gb137, 1, none⟩ = some (.int .i64 ((rd_T52 l0_1 x3_2).f1)) := (blk_cell BK137.out 1).trans rfl; have hcz72_2 : w71.cell? ⟨gb137, 2, none⟩ = some (.bool ((rd_T52 l0_1 x3_2).f2)) := (blk_cell BK137.out 2).trans rfl; have hfz72_0 := blk_frozen BK137.out 0; have hfz72_1 := blk_frozen BK137.out 1; have hfz72_2 := blk_frozen BK137.out 2)))
                  go_roundg kj16
                  case measure => have := HK1.out; have := HK2.out; have := HJ16.out; omega
                  case rel => exact ⟨(wrap64 (x3_2 + 1)), (wrap64 (x6_2 + ((rd_T52 l0_1 x3_2).f1))), rs, rs, H', ⟨by have := HK1.out; have := HK2.out; have := HJ16.out; omega⟩, ⟨by (with_reducible repeat (first | refine blk_drewN ?_ _ | refine blk_drew ?_ | refine blk_alloc ?_ _)); exact BK133.out⟩, ⟨by (with_reducible repeat (first | refine blk_drewN ?_ _ | refine blk_drew ?_ | refine blk_alloc ?_ _)); exact BK135.out⟩, ⟨bw⟩⟩
                 replace c64 := Bool.eq_false_iff.mpr c64
                 subst c64
                 have H1 : (some false) = some r := by rw [if_neg (show ¬ (false = true) by decide)] at H; exact H
                 clear H
                 have H := H1
                 clear H1
                 obtain rfl := Option.some.inj H
                 have hnb73 := NB137_133.out
                 have hnc73 := NB133_137.out
                 have hnb74 := NB137_135.out
                 have hnc74 := NB135_137.out
                 have hcz75_0 : wc.cell? ⟨gb137, 0, none⟩ = some (.int .i64 ((rd_T52 l0_1 x3_2).f0)) := (blk_cell BK137.out 0).trans rfl
                 have hcz75_1 : wc.cell? ⟨gb137, 1, none⟩ = some (.int .i64 ((rd_T52 l0_1 x3_2).f1)) := (blk_cell BK137.out 1).trans rfl
                 have hcz75_2 : wc.cell? ⟨gb137, 2, none⟩ = some (.bool ((rd_T52 l0_1 x3_2).f2)) := (blk_cell BK137.out 2).trans rfl
                 have hfz75_0 := blk_frozen BK137.out 0
                 have hfz75_1 := blk_frozen BK137.out 1
                 have hfz75_2 := blk_frozen BK137.out 2
                 have hnb76 := NB135_133.out
                 have hnc76 := NB133_135.out
                 have hcz77_0 : wc.cell? ⟨gb135, 0, none⟩ = some (.int .i64 ((rd_T42 l0_0 x11_1).f0)) := (blk_cell BK135.out 0).trans rfl
                 have hcz77_1 : wc.cell? ⟨gb135, 1, none⟩ = some (.slice A134_1 ((rd_T42 l0_0 x11_1).f1).length c134_1) := (blk_cell BK135.out 1).trans rfl
                 have hfz77_0 := blk_frozen BK135.out 0
                 have hfz77_1 := blk_frozen BK135.out 1
                 obtain ⟨i078, hi078, _, hsz78, _⟩ := info_parts info5
                 obtain ⟨A78, hcut78, hA78, hC78⟩ := print_mid_of (P := Tryd.prog) (Value.int .u8) 0 33 5 .i64 .i64 Tryd.underlying33 hi078 hsz78 A134_1 c134_1 ((rd_T42 l0_0 x11_1).f1) x6_2 (wrap64 (x6_2 + ((rd_T52 l0_1 x3_2).f1))) (oda) (by first | omega | exact oda) (oda) HC134_1.out
                 have HR139 := Aside0.mk (Kd.C_of_reads (h1 := fun _ => rfl) (hA78 _ (Kd.reads_of_C HR134_1.out)))
                 have HC139 := Aside0.mk hC78
                 clear hA78 hC78 hi078 hsz78
                 have hlE : Aside0 ((((((rd_T42 l0_0 x11_1).f1).take ((wrap64 (x6_2 + ((rd_T52 l0_1 x3_2).f1))) : Int).toNat).drop (x6_2 : Int).toNat)).length = (wrap64 (x6_2 + (rd_T52 l0_1 x3_2).f1)).toNat - x6_2.toNat) := ⟨by have hle : wrap64 (x6_2 + (rd_T52 l0_1 x3_2).f1) ≤ (((rd_T42 l0_0 x11_1).f1).length : Int) := oda; rw [List.length_drop, List.length_take]; omega⟩
                 go_wp2_with (first | (go_at_call 23; rw [← hlE.out]; (with_reducible refine (asm_whole.calls kj16 (fun k_ => k_ < w.heap.size) _ _ ((((rd_T42 l0_0 x11_1).f1).take ((wrap64 (x6_2 + ((rd_T52 l0_1 x3_2).f1))) : Int).toNat).drop (x6_2 : Int).toNat) false _ ?side1 A63.out (GOk.below HG.out HB.out)).mono ?_); (case side1 => exact Kd.V_mk HC139.out (Kd.F_below (Kd.C_F (Kd.heap_int .u8) HR139.out) bw)); rintro e w79 ⟨rfl, hb⟩; have n0_ := Aside0.mk (blk_below (g := gb133) (o := .cells #[.slice (some ad134) l0_0.length c0_0, .slice (some ad136) l0_1.length c0_1, .slice A0_2 l0_2.length c0_2] 26 (0, 0)) bk hb); have n1_ := Aside0.mk (blk_below (g := gb135) (o := .cells #[.int .i64 ((rd_T42 l0_0 x11_1).f0), .slice A134_1 ((rd_T42 l0_0 x11_1).f1).length c134_1] 42 (0, 0)) bk hb); have n2_ := Aside0.mk (blk_below (g := gb137) (o := .cells #[.int .i64 ((rd_T52 l0_1 x3_2).f0), .int .i64 ((rd_T52 l0_1 x3_2).f1), .bool ((rd_T52 l0_1 x3_2).f2)] 52 (0, 0)) bk hb); have n3_ := Aside0.mk (below_step bw hb); clear BK133; clear BK135; clear BK137; clear HB; have BK133 := n0_; have BK135 := n1_; have BK137 := n2_; have HB := n3_; clear n0_ n1_ n2_ n3_; (try clear hb); (try clear hb2); (try clear hk); (try clear hi)))
                 repeat (go_quiet (first | (go_at_call 23; (with_reducible refine (asm_whole.calls kj16 (fun k_ => k_ < w.heap.size) _ _ ((((rd_T42 l0_0 x11_1).f1).take ((wrap64 (x6_2 + ((rd_T52 l0_1 x3_2).f1))) : Int).toNat).drop (x6_2 : Int).toNat) false _ ?side1 A63.out (GOk.below HG.out HB.out)).mono ?_); (case side1 => exact Kd.V_mk HC139.out (Kd.F_below (Kd.C_F (Kd.heap_int .u8) HR139.out) bw)); rintro e w79 ⟨rfl, hb⟩; have n0_ := Aside0.mk (blk_below (g := gb133) (o := .cells #[.slice (some ad134) l0_0.length c0_0, .slice (some ad136) l0_1.length c0_1, .slice A0_2 l0_2.length c0_2] 26 (0, 0)) bk hb); have n1_ := Aside0.mk (blk_below (g := gb135) (o := .cells #[.int .i64 ((rd_T42 l0_0 x11_1).f0), .slice A134_1 ((rd_T42 l0_0 x11_1).f1).length c134_1] 42 (0, 0)) bk hb); have n2_ := Aside0.mk (blk_below (g := gb137) (o := .cells #[.int .i64 ((rd_T52 l0_1 x3_2).f0), .int .i64 ((rd_T52 l0_1 x3_2).f1), .bool ((rd_T52 l0_1 x3_2).f2)] 52 (0, 0)) bk hb); have n3_ := Aside0.mk (below_step bw hb); clear BK133; clear BK135; clear BK137; clear HB; have BK133 := n0_; have BK135 := n1_; have BK137 := n2_; have HB := n3_; clear n0_ n1_ n2_ n3_; (try clear hb); (try clear hb2); (try clear hk); (try clear hi))); try go_wp2_with (first | (go_at_call 23; (with_reducible refine (asm_whole.calls kj16 (fun k_ => k_ < w.heap.size) _ _ ((((rd_T42 l0_0 x11_1).f1).take ((wrap64 (x6_2 + ((rd_T52 l0_1 x3_2).f1))) : Int).toNat).drop (x6_2 : Int).toNat) false _ ?side1 A63.out (GOk.below HG.out HB.out)).mono ?_); (case side1 => exact Kd.V_mk HC139.out (Kd.F_below (Kd.C_F (Kd.heap_int .u8) HR139.out) bw)); rintro e w79 ⟨rfl, hb⟩; have n0_ := Aside0.mk (blk_below (g := gb133) (o := .cells #[.slice (some ad134) l0_0.length c0_0, .slice (some ad136) l0_1.length c0_1, .slice A0_2 l0_2.length c0_2] 26 (0, 0)) bk hb); have n1_ := Aside0.mk (blk_below (g := gb135) (o := .cells #[.int .i64 ((rd_T42 l0_0 x11_1).f0), .slice A134_1 ((rd_T42 l0_0 x11_1).f1).length c134_1] 42 (0, 0)) bk hb); have n2_ := Aside0.mk (blk_below (g := gb137) (o := .cells #[.int .i64 ((rd_T52 l0_1 x3_2).f0), .int .i64 ((rd_T52 l0_1 x3_2).f1), .bool ((rd_T52 l0_1 x3_2).f2)] 52 (0, 0)) bk hb); have n3_ := Aside0.mk (below_step bw hb); clear BK133; clear BK135; clear BK137; clear HB; have BK133 := n0_; have BK135 := n1_; have BK137 := n2_; have HB := n3_; clear n0_ n1_ n2_ n3_; (try clear hb); (try clear hb2); (try clear hk); (try clear hi))))
                 go_ret
                 exact ⟨ew, bw⟩
                rw [if_neg c62] at H
                exact absurd H (by simp)
               rw [if_neg c61] at H
               exact absurd H (by simp)
              rw [if_neg c60] at H
              exact absurd H (by simp)
             rw [if_neg c59] at H
             have c59b0 : ((rd_T52 l0_1 x3_2).f2) = false := by simpa using c59
             clear c59
             have H' := Aside0.mk H
             clear H
             have hnb80 := NB137_133.out
             have hnc80 := NB133_137.out
             have hnb81 := NB137_135.out
             have hnc81 := NB135_137.out
             have hcz82_0 : wc.cell? ⟨gb137, 0, none⟩ = some (.int .i64 ((rd_T52 l0_1 x3_2).f0)) := (blk_cell BK137.out 0).trans rfl
             have hcz82_1 : wc.cell? ⟨gb137, 1, none⟩ = some (.int .i64 ((rd_T52 l0_1 x3_2).f1)) := (blk_cell BK137.out 1).trans rfl
             have hcz82_2 : wc.cell? ⟨gb137, 2, none⟩ = some (.bool ((rd_T52 l0_1 x3_2).f2)) := (blk_cell BK137.out 2).trans rfl
             have hfz82_0 := blk_frozen BK137.out 0
             have hfz82_1 := blk_frozen BK137.out 1
             have hfz82_2 := blk_frozen BK137.out 2
             go_wp2
             repeat (go_quiet (fail); try go_wp2)
             go_roundg kj16
             case measure => have := HK1.out; have := HK2.out; have := HJ16.out; omega
             case rel => exact ⟨(wrap64 (x3_2 + 1)), (wrap64 (x6_2 + ((rd_T52 l0_1 x3_2).f1))), rs, rs, H', ⟨by have := HK1.out; have := HK2.out; have := HJ16.out; omega⟩, ⟨by (with_reducible repeat (first | refine blk_drewN ?_ _ | refine blk_drew ?_ | refine blk_alloc ?_ _)); exact BK133.out⟩, ⟨by (with_reducible repeat (first | refine blk_drewN ?_ _ | refine blk_drew ?_ | refine blk_alloc ?_ _)); exact BK135.out⟩, ⟨bw⟩⟩
          rw [if_neg c16] at H
          exact absurd H (by simp)
         rw [if_neg c15] at H
         exact absurd H (by simp)
        rw [if_neg c10] at H
        have c10b0 : decide (x6_2 < (((rd_T42 l0_0 x11_1).f1).length : Int)) = false := decide_eq_false c10
        clear c10
        have H' := Aside0.mk H
        clear H
        have hnb83 := NB135_133.out
        have hnc83 := NB133_135.out
        have hcz84_0 : wr.cell? ⟨gb135, 0, none⟩ = some (.int .i64 ((rd_T42 l0_0 x11_1).f0)) := (blk_cell BK135.out 0).trans rfl
        have hcz84_1 : wr.cell? ⟨gb135, 1, none⟩ = some (.slice A134_1 ((rd_T42 l0_0 x11_1).f1).length c134_1) := (blk_cell BK135.out 1).trans rfl
        have hfz84_0 := blk_frozen BK135.out 0
        have hfz84_1 := blk_frozen BK135.out 1
        go_wp2
        repeat (go_quiet (fail); try go_wp2)
        go_roundg k2
        case measure => have := HK1.out; have := HK2.out; omega
        case rel => exact ⟨(x3_2), (wrap64 (x11_1 + 1)), rs, rs, H', ⟨by have := HK1.out; have := HK2.out; omega⟩, ⟨by (with_reducible repeat (first | refine blk_drewN ?_ _ | refine blk_drew ?_ | refine blk_alloc ?_ _)); exact BK133.out⟩, ⟨bw⟩⟩
     rw [if_neg c6] at H
     exact absurd H (by simp)
    rw [if_neg c5] at H
    exact absurd H (by simp)
   rw [if_neg c4] at H
   have c4b0 : decide (x11_1 < (l0_0.length : Int)) = false := decide_eq_false c4
   clear c4
   obtain rfl := Option.some.inj H
   have hcz85_0 : wr.cell? ⟨gb133, 0, none⟩ = some (.slice A0_0 l0_0.length c0_0) := (blk_cell BK133.out 0).trans rfl
   have hcz85_1 : wr.cell? ⟨gb133, 1, none⟩ = some (.slice A0_1 l0_1.length c0_1) := (blk_cell BK133.out 1).trans rfl
   have hcz85_2 : wr.cell? ⟨gb133, 2, none⟩ = some (.slice A0_2 l0_2.length c0_2) := (blk_cell BK133.out 2).trans rfl
   have hfz85_0 := blk_frozen BK133.out 0
   have hfz85_1 := blk_frozen BK133.out 1
   have hfz85_2 := blk_frozen BK133.out 2
   go_wp2
   repeat (go_quiet (fail); try go_wp2)
   go_ret
   exact ⟨ew, bw⟩

-- NOT PRINTED: function 76 (bytealg_IndexByteString)

-- NOT PRINTED: function 69 (stringslite_IndexByte)

-- NOT PRINTED: function 70 (bytealg_IndexString)

/-! ### bytealg_Cutover: function 71 -/
def bytealg_Cutover.f (a0 : Int) : Option (Int) := some (wrap64 (Int.tdiv (wrap64 (a0 + 16)) 8))
set_option maxHeartbeats 8000000 in
set_option maxRecDepth 100000 in
theorem bytealg_Cutover.calls (a0 : Int) (r : Int) (w : World) (h : bytealg_Cutover.f a0 = some r) :
 Calls Tryd.prog 71 #[.int .i64 a0] w fun e w' => e = .returned (.int .i64 r) ∧ Drawn0 w w' := by
 have H : (some (wrap64 (Int.tdiv (wrap64 (a0 + 16)) 8))) = some r := h
 clear h
 obtain rfl := Option.some.inj H
 go_enter Tryd.func71, Tryd.ntmps71
 go_wp2
 go_ret
 exact ⟨by first | rfl | (simp; done) | (simp [*]; done), by repeat (first | exact Drawn0.refl _ | apply Drawn0.step)⟩

end Go.Proofs.YtbffmfeflcdgbaaDoor.POb
