/- Written by a program of this session (gprint.py, over the kit's printer): functions of the seat YtbffmfeflcdgbaaDoor and their contracts. No condition but each contract's own. -/
import Derived.Test.YtbffmfeflcdgbaaDoorPObx0
import Derived.Test.YtbffmfeflcdgbaaDoorPObx10
namespace Go.Proofs.YtbffmfeflcdgbaaDoor.POb
open Go.RowKit Go.Proofs.YtbffmfeflcdgbaaDoorW.PrintWords Go.Proofs.YtbffmfeflcdgbaaDoorW.PrintLast Go.Proofs.YtbffmfeflcdgbaaDoorW.PrintMore
attribute [local go_sem] max2_int min2_int max_two min_two max_three min_three max_four min_four   -- for this text's walks alone
set_option linter.unusedVariables false
set_option linter.unusedSimpArgs false

/-! ### vesperref14_marksMay: function 21 -/
mutual
def vesperref14_marksMay.l0 : Nat → Int → Int → List (S42) → List (S52) → List (S47) → Option (Bool)
 | 0, _, _, _, _, _ => none
 | k + 1, x3, x4, x241000, x241001, x241002 => if x4 < (x241000.length : Int) then (if 0 ≤ x4 then (vesperref14_marksMay.l1 k x3 x4 ((rd_T42 x241000 x4).f0) (wrap64 (((rd_T42 x241000 x4).f0) + (((rd_T42 x241000 x4).f1).length : Int))) true x241000 x241001 x241002) else (none)) else (some (x3 == (x241001.length : Int)))
def vesperref14_marksMay.l1 : Nat → Int → Int → Int → Int → Bool → List (S42) → List (S52) → List (S47) → Option (Bool)
 | 0, _, _, _, _, _, _, _, _ => none
 | k + 1, x3, x4, x5, x6, x7, x241000, x241001, x241002 => if x5 < x6 then (if x3 = (x241001.length : Int) then (vesperref14_marksMay.j2 k x3 x4 x5 x6 x7 true x241000 x241001 x241002) else (if 0 ≤ x3 then (if x3 < (x241001.length : Int) then (if ((rd_T52 x241001 x3).f0) = x5 then (if ((rd_T52 x241001 x3).f1) < 1 then (vesperref14_marksMay.j2 k x3 x4 x5 x6 x7 true x241000 x241001 x241002) else (vesperref14_marksMay.j2 k x3 x4 x5 x6 x7 (decide (((rd_T52 x241001 x3).f1) > (wrap64 (x6 - x5)))) x241000 x241001 x241002)) else (vesperref14_marksMay.j2 k x3 x4 x5 x6 x7 true x241000 x241001 x241002)) else (none)) else (none))) else (vesperref14_marksMay.l0 k x3 (wrap64 (x4 + 1)) x241000 x241001 x241002)
def vesperref14_marksMay.j2 : Nat → Int → Int → Int → Int → Bool → Bool → List (S42) → List (S52) → List (S47) → Option (Bool)
 | 0, _, _, _, _, _, _, _, _, _ => none
 | k + 1, x3, x4, x5, x6, x7, x68, x241000, x241001, x241002 => if x68 = true then (some false) else (if x7 = true then (vesperref14_marksMay.j3 k x3 x4 x5 x6 false x241000 x241001 x241002) else (if 0 ≤ x3 then (if x3 < (x241001.length : Int) then (if 0 ≤ (wrap64 (x3 - 1)) then (if (wrap64 (x3 - 1)) < (x241001.length : Int) then (vesperref14_marksMay.j3 k x3 x4 x5 x6 (((rd_T52 x241001 x3).f2) == ((rd_T52 x241001 (wrap64 (x3 - 1))).f2)) x241000 x241001 x241002) else (none)) else (none)) else (none)) else (none)))
def vesperref14_marksMay.j3 : Nat → Int → Int → Int → Int → Bool → List (S42) → List (S52) → List (S47) → Option (Bool)
 | 0, _, _, _, _, _, _, _, _ => none
 | k + 1, x3, x4, x5, x6, x86, x241000, x241001, x241002 => if x86 = true then (some false) else (if 0 ≤ x3 then (if x3 < (x241001.length : Int) then (if (rd_T52 x241001 x3).f2 = true then (if 0 ≤ x4 then (if x4 < (x241000.length : Int) then (if 0 ≤ (wrap64 (x5 - ((rd_T42 x241000 x4).f0))) then (if (wrap64 (x5 - ((rd_T42 x241000 x4).f0))) ≤ (wrap64 ((wrap64 (x5 - ((rd_T42 x241000 x4).f0))) + ((rd_T52 x241001 x3).f1))) then (if (wrap64 ((wrap64 (x5 - ((rd_T42 x241000 x4).f0))) + ((rd_T52 x241001 x3).f1))) ≤ (((rd_T42 x241000 x4).f1).length : Int) then ((vesperref14_whole.f k ((((rd_T42 x241000 x4).f1).take ((wrap64 ((wrap64 (x5 - ((rd_T42 x241000 x4).f0))) + ((rd_T52 x241001 x3).f1))) : Int).toNat).drop ((wrap64 (x5 - ((rd_T42 x241000 x4).f0))) : Int).toNat)).bind fun t254 => (if t254 = true then (vesperref14_marksMay.l1 k (wrap64 (x3 + 1)) x4 (wrap64 (x5 + ((rd_T52 x241001 x3).f1))) x6 false x241000 x241001 x241002) else (some false))) else (none)) else (none)) else (none)) else (none)) else (none)) else (vesperref14_marksMay.l1 k (wrap64 (x3 + 1)) x4 (wrap64 (x5 + ((rd_T52 x241001 x3).f1))) x6 false x241000 x241001 x241002)) else (none)) else (none))
end
def vesperref14_marksMay.f (k : Nat) (l0_0 : List (S42)) (l0_1 : List (S52)) (l0_2 : List (S47)) : Option (Bool) := vesperref14_marksMay.l0 k 0 0 l0_0 l0_1 l0_2
theorem vesperref14_marksMay.mono_l : ∀ k, (∀ y0 y1 y2 y3 y4, LeO (vesperref14_marksMay.l0 k y0 y1 y2 y3 y4) (vesperref14_marksMay.l0 (k + 1) y0 y1 y2 y3 y4)) ∧ (∀ y0 y1 y2 y3 y4 y5 y6 y7, LeO (vesperref14_marksMay.l1 k y0 y1 y2 y3 y4 y5 y6 y7) (vesperref14_marksMay.l1 (k + 1) y0 y1 y2 y3 y4 y5 y6 y7)) ∧ (∀ y0 y1 y2 y3 y4 y5 y6 y7 y8, LeO (vesperref14_marksMay.j2 k y0 y1 y2 y3 y4 y5 y6 y7 y8) (vesperref14_marksMay.j2 (k + 1) y0 y1 y2 y3 y4 y5 y6 y7 y8)) ∧ (∀ y0 y1 y2 y3 y4 y5 y6 y7, LeO (vesperref14_marksMay.j3 k y0 y1 y2 y3 y4 y5 y6 y7) (vesperref14_marksMay.j3 (k + 1) y0 y1 y2 y3 y4 y5 y6 y7))
 | 0 => ⟨fun _ _ _ _ _ r h => by simp [vesperref14_marksMay.l0] at h, fun _ _ _ _ _ _ _ _ r h => by simp [vesperref14_marksMay.l1] at h, fun _ _ _ _ _ _ _ _ _ r h => by simp [vesperref14_marksMay.j2] at h, fun _ _ _ _ _ _ _ _ r h => by simp [vesperref14_marksMay.j3] at h⟩
 | k + 1 => by
  obtain ⟨ih0, ih1, ih2, ih3⟩ := vesperref14_marksMay.mono_l k
  refine ⟨?_, ?_, ?_, ?_⟩
  ·intro y0 y1 y2 y3 y4
   unfold vesperref14_marksMay.l0
   repeat' first
   | (with_reducible exact ih0 _ _ _ _ _)
   | (with_reducible exact ih1 _ _ _ _ _ _ _ _)
   | (with_reducible exact ih2 _ _ _ _ _ _ _ _ _)
   | (with_reducible exact ih3 _ _ _ _ _ _ _ _)
   | (with_reducible exact vesperref14_whole.mono _ _)
   | (with_reducible exact LeO.refl _)
   | (with_reducible exact LeO.none _)
   | (with_reducible refine LeO.ite ?_ ?_)
   | (with_reducible refine LeO.bind ?_ (fun _ => ?_))
   | exact ih0 _ _ _ _ _
   | exact ih1 _ _ _ _ _ _ _ _
   | exact ih2 _ _ _ _ _ _ _ _ _
   | exact ih3 _ _ _ _ _ _ _ _
   | exact vesperref14_whole.mono _ _
   | exact LeO.none _
   | refine LeO.ite ?_ ?_
   | refine LeO.bind ?_ (fun _ => ?_)
  ·intro y0 y1 y2 y3 y4 y5 y6 y7
   unfold vesperref14_marksMay.l1
   repeat' first
   | (with_reducible exact ih0 _ _ _ _ _)
   | (with_reducible exact ih1 _ _ _ _ _ _ _ _)
   | (with_reducible exact ih2 _ _ _ _ _ _ _ _ _)
   | (with_reducible exact ih3 _ _ _ _ _ _ _ _)
   | (with_reducible exact vesperref14_whole.mono _ _)
   | (with_reducible exact LeO.refl _)
   | (with_reducible exact LeO.none _)
   | (with_reducible refine LeO.ite ?_ ?_)
   | (with_reducible refine LeO.bind ?_ (fun _ => ?_))
   | exact ih0 _ _ _ _ _
   | exact ih1 _ _ _ _ _ _ _ _
   | exact ih2 _ _ _ _ _ _ _ _ _
   | exact ih3 _ _ _ _ _ _ _ _
   | exact vesperref14_whole.mono _ _
   | exact LeO.none _
   | refine LeO.ite ?_ ?_
   | refine LeO.bind ?_ (fun _ => ?_)
  ·intro y0 y1 y2 y3 y4 y5 y6 y7 y8
   unfold vesperref14_marksMay.j2
   repeat' first
   | (with_reducible exact ih0 _ _ _ _ _)
   | (with_reducible exact ih1 _ _ _ _ _ _ _ _)
   | (with_reducible exact ih2 _ _ _ _ _ _ _ _ _)
   | (with_reducible exact ih3 _ _ _ _ _ _ _ _)
   | (with_reducible exact vesperref14_whole.mono _ _)
   | (with_reducible exact LeO.refl _)
   | (with_reducible exact LeO.none _)
   | (with_reducible refine LeO.ite ?_ ?_)
   | (with_reducible refine LeO.bind ?_ (fun _ => ?_))
   | exact ih0 _ _ _ _ _
   | exact ih1 _ _ _ _ _ _ _ _
   | exact ih2 _ _ _ _ _ _ _ _ _
   | exact ih3 _ _ _ _ _ _ _ _
   | exact vesperref14_whole.mono _ _
   | exact LeO.none _
   | refine LeO.ite ?_ ?_
   | refine LeO.bind ?_ (fun _ => ?_)
  intro y0 y1 y2 y3 y4 y5 y6 y7
  unfold vesperref14_marksMay.j3
  repeat' first
  | (with_reducible exact ih0 _ _ _ _ _)
  | (with_reducible exact ih1 _ _ _ _ _ _ _ _)
  | (with_reducible exact ih2 _ _ _ _ _ _ _ _ _)
  | (with_reducible exact ih3 _ _ _ _ _ _ _ _)
  | (with_reducible exact vesperref14_whole.mono _ _)
  | (with_reducible exact LeO.refl _)
  | (with_reducible exact LeO.none _)
  | (with_reducible refine LeO.ite ?_ ?_)
  | (with_reducible refine LeO.bind ?_ (fun _ => ?_))
  | exact ih0 _ _ _ _ _
  | exact ih1 _ _ _ _ _ _ _ _
  | exact ih2 _ _ _ _ _ _ _ _ _
  | exact ih3 _ _ _ _ _ _ _ _
  | exact vesperref14_whole.mono _ _
  | exact LeO.none _
  | refine LeO.ite ?_ ?_
  | refine LeO.bind ?_ (fun _ => ?_)
theorem vesperref14_marksMay.mono : ∀ a0 a1 a2 k, LeO (vesperref14_marksMay.f k a0 a1 a2) (vesperref14_marksMay.f (k + 1) a0 a1 a2) := by
 intro a0 a1 a2 k
 obtain ⟨ih0, ih1, ih2, ih3⟩ := vesperref14_marksMay.mono_l k
 unfold vesperref14_marksMay.f
 repeat' first
  | (with_reducible exact ih0 _ _ _ _ _)
  | (with_reducible exact ih1 _ _ _ _ _ _ _ _)
  | (with_reducible exact ih2 _ _ _ _ _ _ _ _ _)
  | (with_reducible exact ih3 _ _ _ _ _ _ _ _)
  | (with_reducible exact vesperref14_whole.mono _ _)
  | (with_reducible exact LeO.refl _)
  | (with_reducible exact LeO.none _)
  | (with_reducible refine LeO.ite ?_ ?_)
  | (with_reducible refine LeO.bind ?_ (fun _ => ?_))
  | exact ih0 _ _ _ _ _
  | exact ih1 _ _ _ _ _ _ _ _
  | exact ih2 _ _ _ _ _ _ _ _ _
  | exact ih3 _ _ _ _ _ _ _ _
  | exact vesperref14_whole.mono _ _
  | exact LeO.none _
  | refine LeO.ite ?_ ?_
  | refine LeO.bind ?_ (fun _ => ?_)
def vesperref14_marksMay.T11 : Bool × List (List Nat × List Nat) := (true, [([], []), ([0], [0]), ([1], [1]), ([2], [2]), ([3, 2], [2, 3]), ([2], [2]), ([4, 5, 2], [2, 4, 5]), ([6, 2], [2, 6]), ([7, 2], [2, 7]), ([2], [2]), ([9, 2], [2, 9]), ([2], [2]), ([11, 2], [2, 11]), ([10, 12, 2], [2, 10, 12]), ([13, 2], [2, 13]), ([14, 2], [2, 14]), ([8, 15, 2], [2, 8, 15]), ([2, 16], [2, 16])])
def vesperref14_marksMay.B11 : List Nat := [0, 1, 3, 7, 15, 7, 63, 127, 255, 7, 519, 7, 2055, 7687, 15879, 32263, 65535, 131071]
theorem vesperref14_marksMay.tab11 : rtab .any (opsOf Tryd.f21 11) = vesperref14_marksMay.T11 := by kernel_rfl
theorem vesperref14_marksMay.bits11 : waitsOk vesperref14_marksMay.T11.2 vesperref14_marksMay.B11 = true := by kernel_rfl
def vesperref14_marksMay.T13 : Bool × List (List Nat × List Nat) := (true, [([], []), ([0], [0]), ([], []), ([1, 2], [1, 2]), ([3], [3]), ([4], [4]), ([5], [5]), ([6], [6]), ([7, 6], [6, 7]), ([6], [6]), ([8, 9, 6], [6, 8, 9]), ([10, 6], [6, 10]), ([11, 6], [6, 11]), ([6], [6]), ([6], [6]), ([14, 6], [6, 14]), ([6], [6]), ([15, 16, 6], [6, 15, 16]), ([17, 6], [6, 17]), ([18, 6], [6, 18]), ([13, 19, 6], [6, 13, 19]), ([6], [6]), ([6], [6]), ([22, 6], [6, 22]), ([6], [6]), ([23, 24, 6], [6, 23, 24]), ([25, 6], [6, 25]), ([26, 6], [6, 26]), ([21, 27, 6], [6, 21, 27]), ([6], [6]), ([29, 6], [6, 29]), ([6], [6]), ([30, 31, 6], [6, 30, 31]), ([32, 6], [6, 32]), ([33, 6], [6, 33]), ([28, 34, 6], [6, 28, 34]), ([12, 20, 35, 6], [6, 12, 20, 35]), ([36, 6, 6], [6, 36]), ([37, 6], [6, 37]), ([6, 38], [6, 38])])
def vesperref14_marksMay.B13 : List Nat := [0, 1, 0, 7, 15, 31, 63, 127, 255, 127, 1023, 2047, 4095, 127, 127, 16511, 127, 114815, 245887, 508031, 1040511, 127, 127, 4194431, 127, 29360255, 62914687, 130023551, 266338431, 127, 536871039, 127, 3758096511, 8053063807, 16642998399, 34357641343, 68719476735, 137438953471, 274877906943, 549755813887]
theorem vesperref14_marksMay.tab13 : rtab .any (opsOf Tryd.f21 13) = vesperref14_marksMay.T13 := by kernel_rfl
theorem vesperref14_marksMay.bits13 : waitsOk vesperref14_marksMay.T13.2 vesperref14_marksMay.B13 = true := by kernel_rfl
set_option maxHeartbeats 8000000 in
set_option maxRecDepth 100000 in
theorem vesperref14_marksMay.calls (k : Nat) (A0_0 : Option Addr) (c0_0 : Nat) (l0_0 : List (S42)) (A0_1 : Option Addr) (c0_1 : Nat) (l0_1 : List (S52)) (A0_2 : Option Addr) (c0_2 : Nat) (l0_2 : List (S47)) (r : Bool) (w : World) (hr0_0 : Kd.C k42 w A0_0 l0_0.length l0_0) (hc0_0 : l0_0.length ≤ c0_0) (hr0_1 : Kd.C k52 w A0_1 l0_1.length l0_1) (hc0_1 : l0_1.length ≤ c0_1) (hr0_2 : Kd.C k47 w A0_2 l0_2.length l0_2) (hc0_2 : l0_2.length ≤ c0_2) (h : vesperref14_marksMay.f k l0_0 l0_1 l0_2 = some r) :
 Calls Tryd.prog 21 #[.agg #[.slice A0_0 l0_0.length c0_0, .slice A0_1 l0_1.length c0_1, .slice A0_2 l0_2.length c0_2]] w fun e w' => e = .returned (.bool r) ∧ Below w.heap.size w w' := by
 have hu26 := Tryd.underlying26
 have HR0_0 := Aside0.mk hr0_0
 have HC0_0 := Aside0.mk hc0_0
 clear hr0_0 hc0_0
 have HR0_1 := Aside0.mk hr0_1
 have HC0_1 := Aside0.mk hc0_1
 clear hr0_1 hc0_1
 have HR0_2 := Aside0.mk hr0_2
 have HC0_2 := Aside0.mk hc0_2
 clear hr0_2 hc0_2
 have HB := Aside0.mk (Below.refl w.heap.size w)
 have H : (vesperref14_marksMay.l0 k 0 0 l0_0 l0_1 l0_2) = some r := h
 clear h
 have H' := Aside0.mk H
 clear H
 go_enter Tryd.func21, Tryd.ntmps21
 go_wp2_with (first | ((with_reducible refine gate_dst (N := 1) rfl ?_); refine box_event ?hg (N := 1) ?hd (cs := #[.slice A0_0 l0_0.length c0_0, .slice A0_1 l0_1.length c0_1, .slice A0_2 l0_2.length c0_2]) (t := 26) ?hr ?_; (case hd => rfl); (case hg => rfl); (case hr => first | (go_simp; done) | (go_simp; rfl)); intro gb240 hg w2 hbox hb; have n0_ := Aside0.mk (below_step bw hb); have n1_ := Aside0.mk (hbox); have n2_ := Aside0.mk (bz hg : w.heap.size ≤ gb240); have n3_ := Aside0.mk (bz hg : w.heap.size ≤ gb240); clear HB; have HB := n0_; have BK240 := n1_; have GW240 := n2_; have GE240 := n3_; clear n0_ n1_ n2_ n3_; clear hb hbox hg))
 go_loopg [3, 4] k (fun kq v3 v4 w' => ∃ (x3_1 : Int) (x4_1 : Int), v3 = .int .i64 x3_1 ∧ v4 = .int .i64 x4_1 ∧ Aside0 (vesperref14_marksMay.l0 kq x3_1 x4_1 l0_0 l0_1 l0_2 = some r) ∧ Aside0 (kq ≤ k) ∧ Aside0 (w'.heap[gb240]? = some (.cells #[(.slice A0_0 l0_0.length c0_0), (.slice A0_1 l0_1.length c0_1), (.slice A0_2 l0_2.length c0_2)] 26 (0, 0))) ∧ Aside0 (Below w.heap.size w w'))
 case atStart => exact ⟨(0), (0), rs, rs, H', ⟨Nat.le_refl _⟩, ⟨by (with_reducible repeat (first | refine blk_drewN ?_ _ | refine blk_drew ?_ | refine blk_alloc ?_ _)); exact BK240.out⟩, ⟨bw⟩⟩
 case round =>
  clear H'
  obtain ⟨x3_1, x4_1, rfl, rfl, HA, HK1, BK240, HB⟩ := hrel
  cases gk with
  | zero => exact absurd HA.out (by simp [vesperref14_marksMay.l0])
  | succ k1 =>
   have H := HA.out
   clear HA
   simp only [vesperref14_marksMay.l0] at H
   by_cases c3 : x4_1 < (l0_0.length : Int)
   ·rw [if_pos c3] at H
    have c3b0 : decide (x4_1 < (l0_0.length : Int)) = true := decide_eq_true c3
    clear c3
    by_cases c4 : 0 ≤ x4_1
    ·rw [if_pos c4] at H
     have c4b0 : decide (0 ≤ x4_1) = true := decide_eq_true c4
     clear c4
     have H' := Aside0.mk H
     clear H
     have hcz5_0 : wr.cell? ⟨gb240, 0, none⟩ = some (.slice A0_0 l0_0.length c0_0) := (blk_cell BK240.out 0).trans rfl
     have hcz5_1 : wr.cell? ⟨gb240, 1, none⟩ = some (.slice A0_1 l0_1.length c0_1) := (blk_cell BK240.out 1).trans rfl
     have hcz5_2 : wr.cell? ⟨gb240, 2, none⟩ = some (.slice A0_2 l0_2.length c0_2) := (blk_cell BK240.out 2).trans rfl
     have hfz5_0 := blk_frozen BK240.out 0
     have hfz5_1 := blk_frozen BK240.out 1
     have hfz5_2 := blk_frozen BK240.out 2
     have p241 : 0 ≤ (x4_1 : Int) := oda
     have q241 : x4_1 < (l0_0.length : Int) := oda
     obtain ⟨ad241, A241_1, c241_1, e241, hx241_0, hx241_1, hl241_1, hi241_1⟩ := at_T42 HR0_0.out x4_1 p241 q241
     cases e241
     replace hx241_0 := up_ HB hx241_0
     replace hx241_1 := up_ HB hx241_1
     have HR241_1 := Aside0.mk hi241_1
     have HC241_1 := Aside0.mk hl241_1
     clear hi241_1 hl241_1
     replace p241 := eq_true p241
     replace q241 := eq_true q241
     have p242 : 0 ≤ (x4_1 : Int) := oda
     have q242 : x4_1 < (l0_0.length : Int) := oda
     obtain ⟨ad242, A242_1, c242_1, e242, hx242_0, hx242_1, hl242_1, hi242_1⟩ := at_T42 HR0_0.out x4_1 p242 q242
     obtain rfl : ad241 = ad242 := (by injection e242)
     replace hx242_0 := up_ HB hx242_0
     replace hx242_1 := up_ HB hx242_1
     have HR242_1 := Aside0.mk hi242_1
     have HC242_1 := Aside0.mk hl242_1
     clear hi242_1 hl242_1
     replace p242 := eq_true p242
     replace q242 := eq_true q242
     have ea_ := Option.some.inj (hx241_1.symm.trans hx242_1)
     injection ea_ with ea_ en_ ec_
     subst ea_
     subst ec_
     clear en_
     go_wp2
     go_loopg [3, 5, 7] k1 (fun kq v3 v5 v7 w' => ∃ (x3_2 : Int) (x5_2 : Int) (x7_2 : Bool), v3 = .int .i64 x3_2 ∧ v5 = .int .i64 x5_2 ∧ v7 = .bool x7_2 ∧ Aside0 (vesperref14_marksMay.l1 kq x3_2 x4_1 x5_2 (wrap64 (((rd_T42 l0_0 x4_1).f0) + (((rd_T42 l0_0 x4_1).f1).length : Int))) x7_2 l0_0 l0_1 l0_2 = some r) ∧ Aside0 (kq ≤ k1) ∧ Aside0 (w'.heap[gb240]? = some (.cells #[(.slice (some ad241) l0_0.length c0_0), (.slice A0_1 l0_1.length c0_1), (.slice A0_2 l0_2.length c0_2)] 26 (0, 0))) ∧ Aside0 (Below w.heap.size w w'))
     case atStart => exact ⟨(x3_1), ((rd_T42 l0_0 x4_1).f0), (true), rs, rs, rs, H', ⟨Nat.le_refl _⟩, ⟨by (with_reducible repeat (first | refine blk_drewN ?_ _ | refine blk_drew ?_ | refine blk_alloc ?_ _)); exact BK240.out⟩, ⟨bw⟩⟩
     case round =>
      clear H'
      clear c3b0 c4b0 hcz5_0 hcz5_1 hcz5_2 hfz5_0 hfz5_1 hfz5_2 hx241_0 hx241_1 hx242_0 hx242_1 p241 p242 q241 q242
      obtain ⟨x3_2, x5_2, x7_2, rfl, rfl, rfl, HA, HK2, BK240, HB⟩ := hrel
      cases gk with
      | zero => exact absurd HA.out (by simp [vesperref14_marksMay.l1])
      | succ k2 =>
       have H := HA.out
       clear HA
       simp only [vesperref14_marksMay.l1] at H
       by_cases c6 : x5_2 < (wrap64 (((rd_T42 l0_0 x4_1).f0) + (((rd_T42 l0_0 x4_1).f1).length : Int)))
       ·rw [if_pos c6] at H
        have c6b0 : decide (x5_2 < (wrap64 (((rd_T42 l0_0 x4_1).f0) + (((rd_T42 l0_0 x4_1).f1).length : Int)))) = true := decide_eq_true c6
        clear c6
        have HC7 := Aside0.mk H
        clear H
        go_upto_region 9 with (fail)
        go_cut [68] (fun v68 wc => ∃ (kq : Nat) (x68_6 : Bool), v68 = .bool x68_6 ∧ Aside0 (vesperref14_marksMay.j2 kq x3_2 x4_1 x5_2 (wrap64 (((rd_T42 l0_0 x4_1).f0) + (((rd_T42 l0_0 x4_1).f1).length : Int))) x7_2 x68_6 l0_0 l0_1 l0_2 = some r) ∧ Aside0 (kq ≤ k2) ∧ Aside0 (wc.heap[gb240]? = some (.cells #[(.slice (some ad241) l0_0.length c0_0), (.slice A0_1 l0_1.length c0_1), (.slice A0_2 l0_2.length c0_2)] 26 (0, 0))) ∧ Aside0 (Below w.heap.size w wc))
        case first =>
         have H := HC7.out
         clear HC7
         by_cases c8 : x3_2 = (l0_1.length : Int)
         ·rw [if_pos c8] at H
          have c8b0 : (x3_2 == (l0_1.length : Int)) = true := beq_iff_eq.mpr c8
          have c8b1 : (x3_2 != (l0_1.length : Int)) = false := bne_eq_false_iff_eq.mpr c8
          clear c8
          (first | rw [c8b0] | (simp only [i64_w, i32_w]; rw [c8b0]) | skip)
          have H' := Aside0.mk H
          clear H
          have hcz9_0 : wr.cell? ⟨gb240, 0, none⟩ = some (.slice (some ad241) l0_0.length c0_0) := (blk_cell BK240.out 0).trans rfl
          have hcz9_1 : wr.cell? ⟨gb240, 1, none⟩ = some (.slice A0_1 l0_1.length c0_1) := (blk_cell BK240.out 1).trans rfl
          have hcz9_2 : wr.cell? ⟨gb240, 2, none⟩ = some (.slice A0_2 l0_2.length c0_2) := (blk_cell BK240.out 2).trans rfl
          have hfz9_0 := blk_frozen BK240.out 0
          have hfz9_1 := blk_frozen BK240.out 1
          have hfz9_2 := blk_frozen BK240.out 2
          go_wp2
          go_meet
          case rel => exact ⟨_, (true), rs, H', ⟨by have := HK1.out; have := HK2.out; first | omega | exact Nat.le_refl _⟩, ⟨by (with_reducible repeat (first | refine blk_drewN ?_ _ | refine blk_drew ?_ | refine blk_alloc ?_ _)); exact BK240.out⟩, ⟨bw⟩⟩
         rw [if_neg c8] at H
         have c8b0 : (x3_2 == (l0_1.length : Int)) = false := beq_eq_false_iff_ne.mpr c8
         have c8b1 : (x3_2 != (l0_1.length : Int)) = true := bne_iff_ne.mpr c8
         (first | rw [c8b0] | (simp only [i64_w, i32_w]; rw [c8b0]) | skip)
         by_cases c10 : 0 ≤ x3_2
         ·rw [if_pos c10] at H
          have c10b0 : decide (0 ≤ x3_2) = true := decide_eq_true c10
          clear c10
          by_cases c11 : x3_2 < (l0_1.length : Int)
          ·rw [if_pos c11] at H
           have c11b0 : decide (x3_2 < (l0_1.length : Int)) = true := decide_eq_true c11
           clear c11
           by_cases c12 : ((rd_T52 l0_1 x3_2).f0) = x5_2
           ·rw [if_pos c12] at H
            have c12b0 : (((rd_T52 l0_1 x3_2).f0) == x5_2) = true := beq_iff_eq.mpr c12
            have c12b1 : (((rd_T52 l0_1 x3_2).f0) != x5_2) = false := bne_eq_false_iff_eq.mpr c12
            clear c12
            by_cases c13 : ((rd_T52 l0_1 x3_2).f1) < 1
            ·rw [if_pos c13] at H
             have c13b0 : decide (((rd_T52 l0_1 x3_2).f1) < 1) = true := decide_eq_true c13
             clear c13
             have H' := Aside0.mk H
             clear H
             have hcz14_0 : wr.cell? ⟨gb240, 0, none⟩ = some (.slice (some ad241) l0_0.length c0_0) := (blk_cell BK240.out 0).trans rfl
             have hcz14_1 : wr.cell? ⟨gb240, 1, none⟩ = some (.slice A0_1 l0_1.length c0_1) := (blk_cell BK240.out 1).trans rfl
             have hcz14_2 : wr.cell? ⟨gb240, 2, none⟩ = some (.slice A0_2 l0_2.length c0_2) := (blk_cell BK240.out 2).trans rfl
             have hfz14_0 := blk_frozen BK240.out 0
             have hfz14_1 := blk_frozen BK240.out 1
             have hfz14_2 := blk_frozen BK240.out 2
             have p243 : 0 ≤ (x3_2 : Int) := oda
             have q243 : x3_2 < (l0_1.length : Int) := oda
             obtain ⟨ad243, e243, hx243_0, hx243_1, hx243_2⟩ := at_T52 HR0_1.out x3_2 p243 q243
             cases e243
             replace hx243_0 := up_ HB hx243_0
             replace hx243_1 := up_ HB hx243_1
             replace hx243_2 := up_ HB hx243_2
             replace p243 := eq_true p243
             replace q243 := eq_true q243
             have p244 : 0 ≤ (x3_2 : Int) := oda
             have q244 : x3_2 < (l0_1.length : Int) := oda
             obtain ⟨ad244, e244, hx244_0, hx244_1, hx244_2⟩ := at_T52 HR0_1.out x3_2 p244 q244
             obtain rfl : ad243 = ad244 := (by injection e244)
             replace hx244_0 := up_ HB hx244_0
             replace hx244_1 := up_ HB hx244_1
             replace hx244_2 := up_ HB hx244_2
             replace p244 := eq_true p244
             replace q244 := eq_true q244
             go_wp2
             go_meet
             case rel => exact ⟨_, (true), rs, H', ⟨by have := HK1.out; have := HK2.out; first | omega | exact Nat.le_refl _⟩, ⟨by (with_reducible repeat (first | refine blk_drewN ?_ _ | refine blk_drew ?_ | refine blk_alloc ?_ _)); exact BK240.out⟩, ⟨bw⟩⟩
            rw [if_neg c13] at H
            have c13b0 : decide (((rd_T52 l0_1 x3_2).f1) < 1) = false := decide_eq_false c13
            clear c13
            have H' := Aside0.mk H
            clear H
            have hcz15_0 : wr.cell? ⟨gb240, 0, none⟩ = some (.slice (some ad241) l0_0.length c0_0) := (blk_cell BK240.out 0).trans rfl
            have hcz15_1 : wr.cell? ⟨gb240, 1, none⟩ = some (.slice A0_1 l0_1.length c0_1) := (blk_cell BK240.out 1).trans rfl
            have hcz15_2 : wr.cell? ⟨gb240, 2, none⟩ = some (.slice A0_2 l0_2.length c0_2) := (blk_cell BK240.out 2).trans rfl
            have hfz15_0 := blk_frozen BK240.out 0
            have hfz15_1 := blk_frozen BK240.out 1
            have hfz15_2 := blk_frozen BK240.out 2
            have p243 : 0 ≤ (x3_2 : Int) := oda
            have q243 : x3_2 < (l0_1.length : Int) := oda
            obtain ⟨ad243, e243, hx243_0, hx243_1, hx243_2⟩ := at_T52 HR0_1.out x3_2 p243 q243
            cases e243
            replace hx243_0 := up_ HB hx243_0
            replace hx243_1 := up_ HB hx243_1
            replace hx243_2 := up_ HB hx243_2
            replace p243 := eq_true p243
            replace q243 := eq_true q243
            have p244 : 0 ≤ (x3_2 : Int) := oda
            have q244 : x3_2 < (l0_1.length : Int) := oda
            obtain ⟨ad244, e244, hx244_0, hx244_1, hx244_2⟩ := at_T52 HR0_1.out x3_2 p244 q244
            obtain rfl : ad243 = ad244 := (by injection e244)
            replace hx244_0 := up_ HB hx244_0
            replace hx244_1 := up_ HB hx244_1
            replace hx244_2 := up_ HB hx244_2
            replace p244 := eq_true p244
            replace q244 := eq_true q244
            have p245 : 0 ≤ (x3_2 : Int) := oda
            have q245 : x3_2 < (l0_1.length : Int) := oda
            obtain ⟨ad245, e245, hx245_0, hx245_1, hx245_2⟩ := at_T52 HR0_1.out x3_2 p245 q245
            obtain rfl : ad243 = ad245 := (by injection e245)
            replace hx245_0 := up_ HB hx245_0
            replace hx245_1 := up_ HB hx245_1
            replace hx245_2 := up_ HB hx245_2
            replace p245 := eq_true p245
            replace q245 := eq_true q245
            go_wp2
            go_meet
            case rel => exact ⟨_, (decide (((rd_T52 l0_1 x3_2).f1) > (wrap64 ((wrap64 (((rd_T42 l0_0 x4_1).f0) + (((rd_T42 l0_0 x4_1).f1).length : Int))) - x5_2)))), rs, H', ⟨by have := HK1.out; have := HK2.out; first | omega | exact Nat.le_refl _⟩, ⟨by (with_reducible repeat (first | refine blk_drewN ?_ _ | refine blk_drew ?_ | refine blk_alloc ?_ _)); exact BK240.out⟩, ⟨bw⟩⟩
           rw [if_neg c12] at H
           have c12b0 : (((rd_T52 l0_1 x3_2).f0) == x5_2) = false := beq_eq_false_iff_ne.mpr c12
           have c12b1 : (((rd_T52 l0_1 x3_2).f0) != x5_2) = true := bne_iff_ne.mpr c12
           have H' := Aside0.mk H
           clear H
           have hcz16_0 : wr.cell? ⟨gb240, 0, none⟩ = some (.slice (some ad241) l0_0.length c0_0) := (blk_cell BK240.out 0).trans rfl
           have hcz16_1 : wr.cell? ⟨gb240, 1, none⟩ = some (.slice A0_1 l0_1.length c0_1) := (blk_cell BK240.out 1).trans rfl
           have hcz16_2 : wr.cell? ⟨gb240, 2, none⟩ = some (.slice A0_2 l0_2.length c0_2) := (blk_cell BK240.out 2).trans rfl
           have hfz16_0 := blk_frozen BK240.out 0
           have hfz16_1 := blk_frozen BK240.out 1
           have hfz16_2 := blk_frozen BK240.out 2
           have p243 : 0 ≤ (x3_2 : Int) := oda
           have q243 : x3_2 < (l0_1.length : Int) := oda
           obtain ⟨ad243, e243, hx243_0, hx243_1, hx243_2⟩ := at_T52 HR0_1.out x3_2 p243 q243
           cases e243
           replace hx243_0 := up_ HB hx243_0
           replace hx243_1 := up_ HB hx243_1
           replace hx243_2 := up_ HB hx243_2
           replace p243 := eq_true p243
           replace q243 := eq_true q243
           go_wp2
           go_meet
           case rel => exact ⟨_, (true), rs, H', ⟨by have := HK1.out; have := HK2.out; first | omega | exact Nat.le_refl _⟩, ⟨by (with_reducible repeat (first | refine blk_drewN ?_ _ | refine blk_drew ?_ | refine blk_alloc ?_ _)); exact BK240.out⟩, ⟨bw⟩⟩
          rw [if_neg c11] at H
          exact absurd H (by simp)
         rw [if_neg c10] at H
         exact absurd H (by simp)
        case rest =>
         clear HC7
         clear c6b0
         obtain ⟨kq, x68_6, rfl, HA, HJ6, BK240, HB⟩ := hcut
         cases kq with
         | zero => exact absurd HA.out (by simp [vesperref14_marksMay.j2])
         | succ kj6 =>
          have H := HA.out
          clear HA
          simp only [vesperref14_marksMay.j2] at H
          by_cases c17 : x68_6 = true
          ·subst c17
           have H1 : (some false) = some r := by rw [if_pos rfl] at H; exact H
           clear H
           have H := H1
           clear H1
           obtain rfl := Option.some.inj H
           go_wp2
           go_ret
           exact ⟨ew, bw⟩
          replace c17 := Bool.eq_false_iff.mpr c17
          subst c17
          have H1 : (if x7_2 = true then (vesperref14_marksMay.j3 kj6 x3_2 x4_1 x5_2 (wrap64 (((rd_T42 l0_0 x4_1).f0) + (((rd_T42 l0_0 x4_1).f1).length : Int))) false l0_0 l0_1 l0_2) else (if 0 ≤ x3_2 then (if x3_2 < (l0_1.length : Int) then (if 0 ≤ (wrap64 (x3_2 - 1)) then (if (wrap64 (x3_2 - 1)) < (l0_1.length : Int) then (vesperref14_marksMay.j3 kj6 x3_2 x4_1 x5_2 (wrap64 (((rd_T42 l0_0 x4_1).f0) + (((rd_T42 l0_0 x4_1).f1).length : Int))) (((rd_T52 l0_1 x3_2).f2) == ((rd_T52 l0_1 (wrap64 (x3_2 - 1))).f2)) l0_0 l0_1 l0_2) else (none)) else (none)) else (none)) else (none))) = some r := by rw [if_neg (show ¬ (false = true) by decide)] at H; exact H
          clear H
          have H := H1
          clear H1
          have HC18 := Aside0.mk H
          clear H
          go_upto_region 11 with (fail)
          go_cut [86] (fun v86 wc => ∃ (kq : Nat) (x86_17 : Bool), v86 = .bool x86_17 ∧ Aside0 (vesperref14_marksMay.j3 kq x3_2 x4_1 x5_2 (wrap64 (((rd_T42 l0_0 x4_1).f0) + (((rd_T42 l0_0 x4_1).f1).length : Int))) x86_17 l0_0 l0_1 l0_2 = some r) ∧ Aside0 (kq ≤ kj6) ∧ Aside0 (wc.heap[gb240]? = some (.cells #[(.slice (some ad241) l0_0.length c0_0), (.slice A0_1 l0_1.length c0_1), (.slice A0_2 l0_2.length c0_2)] 26 (0, 0))) ∧ Aside0 (Below w.heap.size w wc))
          case first =>
           have H := HC18.out
           clear HC18
           by_cases c19 : x7_2 = true
           ·subst c19
            have H1 : (vesperref14_marksMay.j3 kj6 x3_2 x4_1 x5_2 (wrap64 (((rd_T42 l0_0 x4_1).f0) + (((rd_T42 l0_0 x4_1).f1).length : Int))) false l0_0 l0_1 l0_2) = some r := by rw [if_pos rfl] at H; exact H
            clear H
            have H := H1
            clear H1
            have H' := Aside0.mk H
            clear H
            try go_wp2
            have n0_ := Aside0.mk (blk_drew BK240.out)
            have n1_ := Aside0.mk (below_drew1 HB.out)
            clear BK240
            clear HB
            have BK240 := n0_
            have HB := n1_
            clear n0_ n1_
            refine start_ (n := 18) (S := fun w' => True) (ds := []) #[false, false, false, false, false, false, false, false, false, false, false, false, false, false, false, false, false, false] (by kernel_rfl) rfl rfl trivial (fun hHeld => ?_); refine with_tabW vesperref14_marksMay.tab11 vesperref14_marksMay.bits11 (fun HT_ HW_ => ?_)
            generalize wc.drew = w20 at BK240 HB hHeld ⊢
            refine pz 0 (some 69) ?_ HT_ rfl rfl (by kernel_rfl) (by rfl) ?_ ?_ ?_ ?_
            rotate_left
            ·intro w'
             go_simp
             with_reducible rfl
            rotate_left
            ·simp only [put_l, List.set, i64_w, i32_w]
             rfl
            refine pz 1 (some 70) ?_ HT_ rfl rfl (by kernel_rfl) (by rfl) ?_ ?_ ?_ ?_
            rotate_left
            ·intro w'
             go_simp
             with_reducible rfl
            rotate_left
            ·simp only [put_l, List.set, i64_w, i32_w]
             rfl
            refine pz 2 (some 71) ?_ HT_ rfl rfl (by kernel_rfl) (by rfl) ?_ ?_ ?_ ?_
            rotate_left
            ·intro w'
             go_simp
             with_reducible rfl
            rotate_left
            ·simp only [put_l, List.set, i64_w, i32_w]
             rfl
            refine pu 3 (some 72) ?_ HT_ rfl rfl (by kernel_rfl) (by rfl) ?_ ?_
            rotate_left
            ·simp only [put_l, List.set, i64_w, i32_w]
             rfl
            refine pu 4 (some 73) ?_ HT_ rfl rfl (by kernel_rfl) (by rfl) ?_ ?_
            rotate_left
            ·simp only [put_l, List.set, i64_w, i32_w]
             rfl
            refine pu 5 (some 74) ?_ HT_ rfl rfl (by kernel_rfl) (by rfl) ?_ ?_
            rotate_left
            ·simp only [put_l, List.set, i64_w, i32_w]
             rfl
            refine pu 6 (some 75) ?_ HT_ rfl rfl (by kernel_rfl) (by rfl) ?_ ?_
            rotate_left
            ·simp only [put_l, List.set, i64_w, i32_w]
             rfl
            refine pu 7 (some 76) ?_ HT_ rfl rfl (by kernel_rfl) (by rfl) ?_ ?_
            rotate_left
            ·simp only [put_l, List.set, i64_w, i32_w]
             rfl
            refine pu 8 (some 77) ?_ HT_ rfl rfl (by kernel_rfl) (by rfl) ?_ ?_
            rotate_left
            ·simp only [put_l, List.set, i64_w, i32_w]
             rfl
            refine pu 9 (some 78) ?_ HT_ rfl rfl (by kernel_rfl) (by rfl) ?_ ?_
            rotate_left
            ·simp only [put_l, List.set, i64_w, i32_w]
             rfl
            refine pu 10 (some 79) ?_ HT_ rfl rfl (by kernel_rfl) (by rfl) ?_ ?_
            rotate_left
            ·simp only [put_l, List.set, i64_w, i32_w]
             rfl
            refine pu 11 (some 80) ?_ HT_ rfl rfl (by kernel_rfl) (by rfl) ?_ ?_
            rotate_left
            ·simp only [put_l, List.set, i64_w, i32_w]
             rfl
            refine pu 12 (some 81) ?_ HT_ rfl rfl (by kernel_rfl) (by rfl) ?_ ?_
            rotate_left
            ·simp only [put_l, List.set, i64_w, i32_w]
             rfl
            refine pu 13 (some 82) ?_ HT_ rfl rfl (by kernel_rfl) (by rfl) ?_ ?_
            rotate_left
            ·simp only [put_l, List.set, i64_w, i32_w]
             rfl
            refine pu 14 (some 83) ?_ HT_ rfl rfl (by kernel_rfl) (by rfl) ?_ ?_
            rotate_left
            ·simp only [put_l, List.set, i64_w, i32_w]
             rfl
            refine pu 15 (some 84) ?_ HT_ rfl rfl (by kernel_rfl) (by rfl) ?_ ?_
            rotate_left
            ·simp only [put_l, List.set, i64_w, i32_w]
             rfl
            refine pu 16 (some 85) ?_ HT_ rfl rfl (by kernel_rfl) (by rfl) ?_ ?_
            rotate_left
            ·simp only [put_l, List.set, i64_w, i32_w]
             rfl
            refine pz 17 (some 86) ?_ HT_ rfl rfl (by kernel_rfl) (by rfl) ?_ ?_ ?_ ?_
            rotate_left
            ·intro w'
             go_simp
             with_reducible rfl
            rotate_left
            ·simp only [put_l, List.set, i64_w, i32_w]
             rfl
            refine done_ (done_of HT_.out (by kernel_rfl)) ?_
            try go_wp2
            go_meet
            case rel => exact ⟨_, (false), rs, H', ⟨by have := HK1.out; have := HK2.out; have := HJ6.out; first | omega | exact Nat.le_refl _⟩, ⟨by (with_reducible repeat (first | refine blk_drewN ?_ _ | refine blk_drew ?_ | refine blk_alloc ?_ _)); exact BK240.out⟩, ⟨bw⟩⟩
           replace c19 := Bool.eq_false_iff.mpr c19
           subst c19
           have H1 : (if 0 ≤ x3_2 then (if x3_2 < (l0_1.length : Int) then (if 0 ≤ (wrap64 (x3_2 - 1)) then (if (wrap64 (x3_2 - 1)) < (l0_1.length : Int) then (vesperref14_marksMay.j3 kj6 x3_2 x4_1 x5_2 (wrap64 (((rd_T42 l0_0 x4_1).f0) + (((rd_T42 l0_0 x4_1).f1).length : Int))) (((rd_T52 l0_1 x3_2).f2) == ((rd_T52 l0_1 (wrap64 (x3_2 - 1))).f2)) l0_0 l0_1 l0_2) else (none)) else (none)) else (none)) else (none)) = some r := by rw [if_neg (show ¬ (false = true) by decide)] at H; exact H
           clear H
           have H := H1
           clear H1
           by_cases c21 : 0 ≤ x3_2
           ·rw [if_pos c21] at H
            have c21b0 : decide (0 ≤ x3_2) = true := decide_eq_true c21
            clear c21
            (first | rw [c21b0] | (simp only [i64_w, i32_w]; rw [c21b0]) | skip)
            by_cases c22 : x3_2 < (l0_1.length : Int)
            ·rw [if_pos c22] at H
             have c22b0 : decide (x3_2 < (l0_1.length : Int)) = true := decide_eq_true c22
             clear c22
             obtain ⟨ji23, hji23⟩ : ∃ j_ : Int, (wrap64 (x3_2 - 1)) = j_ := ⟨_, rfl⟩
             replace H : (if 0 ≤ (ji23) then (if (ji23) < (l0_1.length : Int) then (vesperref14_marksMay.j3 kj6 x3_2 x4_1 x5_2 (wrap64 (((rd_T42 l0_0 x4_1).f0) + (((rd_T42 l0_0 x4_1).f1).length : Int))) (((rd_T52 l0_1 x3_2).f2) == ((rd_T52 l0_1 (ji23)).f2)) l0_0 l0_1 l0_2) else (none)) else (none)) = some r := by first | (rw [hji23] at H; exact H) | (simp only [hji23] at H ⊢; exact H)
             have hji23w : (IntKind.i64.wrap (x3_2 - 1)) = ji23 := (i64_w _).trans hji23
             by_cases c24 : 0 ≤ (ji23)
             ·rw [if_pos c24] at H
              have c24b0 : decide (0 ≤ (ji23)) = true := decide_eq_true c24
              clear c24
              by_cases c25 : (ji23) < (l0_1.length : Int)
              ·rw [if_pos c25] at H
               have c25b0 : decide ((ji23) < (l0_1.length : Int)) = true := decide_eq_true c25
               clear c25
               have H' := Aside0.mk H
               clear H
               try go_wp2
               have n0_ := Aside0.mk (blk_drew BK240.out)
               have n1_ := Aside0.mk (below_drew1 HB.out)
               clear BK240
               clear HB
               have BK240 := n0_
               have HB := n1_
               clear n0_ n1_
               have p246 : 0 ≤ (x3_2 : Int) := oda
               have q246 : x3_2 < (l0_1.length : Int) := oda
               obtain ⟨ad246, e246, hx246_0, hx246_1, hx246_2⟩ := at_T52 HR0_1.out x3_2 p246 q246
               have hw246_2 := hx246_2
               have hw246_1 := hx246_1
               have hw246_0 := hx246_0
               cases e246
               replace hx246_0 := up_ HB hx246_0
               replace hx246_1 := up_ HB hx246_1
               replace hx246_2 := up_ HB hx246_2
               replace p246 := eq_true p246
               replace q246 := eq_true q246
               have p247 : 0 ≤ ((ji23) : Int) := oda
               have q247 : (ji23) < (l0_1.length : Int) := oda
               obtain ⟨ad247, e247, hx247_0, hx247_1, hx247_2⟩ := at_T52 HR0_1.out (ji23) p247 q247
               have hw247_2 := hx247_2
               have hw247_1 := hx247_1
               have hw247_0 := hx247_0
               obtain rfl : ad246 = ad247 := (by injection e247)
               replace hx247_0 := up_ HB hx247_0
               replace hx247_1 := up_ HB hx247_1
               replace hx247_2 := up_ HB hx247_2
               replace p247 := eq_true p247
               replace q247 := eq_true q247
               refine start_ (n := 18) (S := fun w' => w'.cell? ⟨gb240, 0, none⟩ = some (.slice (some ad241) l0_0.length c0_0) ∧ w'.cell? ⟨gb240, 1, none⟩ = some (.slice (some ad246) l0_1.length c0_1) ∧ w'.cell? ⟨gb240, 2, none⟩ = some (.slice A0_2 l0_2.length c0_2) ∧ w'.cell? (ad246.add ((x3_2).toNat * 3)) = some (.int .i64 ((rd_T52 l0_1 x3_2).f0)) ∧ w'.cell? ⟨(ad246.add ((x3_2).toNat * 3)).block, (ad246.add ((x3_2).toNat * 3)).off + 1, none⟩ = some (.int .i64 ((rd_T52 l0_1 x3_2).f1)) ∧ w'.cell? ⟨(ad246.add ((x3_2).toNat * 3)).block, (ad246.add ((x3_2).toNat * 3)).off + 2, none⟩ = some (.bool ((rd_T52 l0_1 x3_2).f2)) ∧ w'.cell? (ad246.add (((ji23)).toNat * 3)) = some (.int .i64 ((rd_T52 l0_1 (ji23)).f0)) ∧ w'.cell? ⟨(ad246.add (((ji23)).toNat * 3)).block, (ad246.add (((ji23)).toNat * 3)).off + 1, none⟩ = some (.int .i64 ((rd_T52 l0_1 (ji23)).f1)) ∧ w'.cell? ⟨(ad246.add (((ji23)).toNat * 3)).block, (ad246.add (((ji23)).toNat * 3)).off + 2, none⟩ = some (.bool ((rd_T52 l0_1 (ji23)).f2))) (ds := []) #[false, false, false, false, false, false, false, false, false, false, false, false, false, false, false, false, false, false] (by kernel_rfl) rfl rfl ⟨(blk_cell BK240.out 0).trans rfl, (blk_cell BK240.out 1).trans rfl, (blk_cell BK240.out 2).trans rfl, ((HB.out.cell (World.block_lt_of_cell? w _ hw246_0)).trans hw246_0), ((HB.out.cell (World.block_lt_of_cell? w _ hw246_1)).trans hw246_1), ((HB.out.cell (World.block_lt_of_cell? w _ hw246_2)).trans hw246_2), ((HB.out.cell (World.block_lt_of_cell? w _ hw247_0)).trans hw247_0), ((HB.out.cell (World.block_lt_of_cell? w _ hw247_1)).trans hw247_1), ((HB.out.cell (World.block_lt_of_cell? w _ hw247_2)).trans hw247_2)⟩ (fun hHeld => ?_); refine with_tabW vesperref14_marksMay.tab11 vesperref14_marksMay.bits11 (fun HT_ HW_ => ?_)
               generalize wc.drew = w26 at BK240 HB hx246_0 hx246_1 hx246_2 hx247_0 hx247_1 hx247_2 hHeld ⊢
               refine pz 0 (some 69) ?_ HT_ rfl rfl (by kernel_rfl) (by rfl) ?_ ?_ ?_ ?_
               rotate_left
               ·intro w'
                go_simp
                with_reducible rfl
               rotate_left
               ·simp only [put_l, List.set, i64_w, i32_w]
                rfl
               refine pz 1 (some 70) ?_ HT_ rfl rfl (by kernel_rfl) (by rfl) ?_ ?_ ?_ ?_
               rotate_left
               ·intro w'
                go_simp
                with_reducible rfl
               rotate_left
               ·simp only [put_l, List.set, i64_w, i32_w]
                rfl
               refine pz 2 (some 71) ?_ HT_ rfl rfl (by kernel_rfl) (by rfl) ?_ ?_ ?_ ?_
               rotate_left
               ·intro w'
                go_simp
                with_reducible rfl
               rotate_left
               ·simp only [put_l, List.set, i64_w, i32_w]
                rfl
               refine pz 3 (some 72) ?_ HT_ rfl rfl (by kernel_rfl) (by rfl) ?_ ?_ ?_ ?_
               rotate_left
               ·intro w'
                go_simp
                with_reducible rfl
               rotate_left
               ·simp only [put_l, List.set, i64_w, i32_w]
                rfl
               refine pz 5 (some 74) ?_ HT_ rfl rfl (by kernel_rfl) (by rfl) ?_ ?_ ?_ ?_
               rotate_left
               ·intro w'
                go_simp
                with_reducible rfl
               rotate_left
               ·simp only [put_l, List.set, i64_w, i32_w]
                rfl
               refine pz 9 (some 78) ?_ HT_ rfl rfl (by kernel_rfl) (by rfl) ?_ ?_ ?_ ?_
               rotate_left
               ·intro w'
                go_simp
                with_reducible rfl
               rotate_left
               ·simp only [put_l, List.set, i64_w, i32_w]
                rfl
               refine pz 11 (some 80) ?_ HT_ rfl rfl (by kernel_rfl) (by rfl) ?_ ?_ ?_ ?_
               rotate_left
               ·intro w'
                go_simp
                with_reducible rfl
               rotate_left
               ·simp only [put_l, List.set, i64_w, i32_w]
                rfl
               refine pz 12 (some 81) ?_ HT_ rfl rfl (by kernel_rfl) (by rfl) ?_ ?_ ?_ ?_
               rotate_left
               ·intro w'
                go_simp
                with_reducible rfl
               rotate_left
               ·simp only [put_l, List.set, i64_w, i32_w]
                rfl
               refine tz 4 (some 73) ?_ HT_ HW_ rfl rfl (by kernel_rfl) (by rfl) ?_ hHeld ?_ ?_ ?_
               rotate_left
               ·rintro w' ⟨s0, s1, s2, s3, s4, s5, s6, s7, s8⟩
                go_simp
                with_reducible rfl
               rotate_left
               ·simp only [put_l, List.set, i64_w, i32_w]
                rfl
               refine pz 6 (some 75) ?_ HT_ rfl rfl (by kernel_rfl) (by rfl) ?_ ?_ ?_ ?_
               rotate_left
               ·intro w'
                go_simp
                with_reducible rfl
               rotate_left
               ·simp only [put_l, List.set, i64_w, i32_w]
                rfl
               refine pz 7 (some 76) ?_ HT_ rfl rfl (by kernel_rfl) (by rfl) ?_ ?_ ?_ ?_
               rotate_left
               ·intro w'
                go_simp
                with_reducible rfl
               rotate_left
               ·simp only [put_l, List.set, i64_w, i32_w]
                rfl
               refine tz 8 (some 77) ?_ HT_ HW_ rfl rfl (by kernel_rfl) (by rfl) ?_ hHeld ?_ ?_ ?_
               rotate_left
               ·rintro w' ⟨s0, s1, s2, s3, s4, s5, s6, s7, s8⟩
                go_simp
                with_reducible rfl
               rotate_left
               ·simp only [put_l, List.set, i64_w, i32_w]
                rfl
               refine tz 10 (some 79) ?_ HT_ HW_ rfl rfl (by kernel_rfl) (by rfl) ?_ hHeld ?_ ?_ ?_
               rotate_left
               ·rintro w' ⟨s0, s1, s2, s3, s4, s5, s6, s7, s8⟩
                go_simp
                with_reducible rfl
               rotate_left
               ·simp only [put_l, List.set, i64_w, i32_w]
                rfl
               refine pz 13 (some 82) ?_ HT_ rfl rfl (by kernel_rfl) (by rfl) ?_ ?_ ?_ ?_
               rotate_left
               ·intro w'
                go_simp
                with_reducible rfl
               rotate_left
               ·simp only [put_l, List.set, i64_w, i32_w]
                rfl
               refine pz 14 (some 83) ?_ HT_ rfl rfl (by kernel_rfl) (by rfl) ?_ ?_ ?_ ?_
               rotate_left
               ·intro w'
                go_simp
                with_reducible rfl
               rotate_left
               ·simp only [put_l, List.set, i64_w, i32_w]
                rfl
               refine tz 15 (some 84) ?_ HT_ HW_ rfl rfl (by kernel_rfl) (by rfl) ?_ hHeld ?_ ?_ ?_
               rotate_left
               ·rintro w' ⟨s0, s1, s2, s3, s4, s5, s6, s7, s8⟩
                go_simp
                with_reducible rfl
               rotate_left
               ·simp only [put_l, List.set, i64_w, i32_w]
                rfl
               refine pz 16 (some 85) ?_ HT_ rfl rfl (by kernel_rfl) (by rfl) ?_ ?_ ?_ ?_
               rotate_left
               ·intro w'
                go_simp
                with_reducible rfl
               rotate_left
               ·simp only [put_l, List.set, i64_w, i32_w]
                rfl
               refine pz 17 (some 86) ?_ HT_ rfl rfl (by kernel_rfl) (by rfl) ?_ ?_ ?_ ?_
               rotate_left
               ·intro w'
                go_simp
                with_reducible rfl
               rotate_left
               ·simp only [put_l, List.set, i64_w, i32_w]
                rfl
               refine done_ (done_of HT_.out (by kernel_rfl)) ?_
               try go_wp2
               go_meet
               case rel => exact ⟨_, ((((rd_T52 l0_1 x3_2).f2) == ((rd_T52 l0_1 (ji23)).f2))), (by first | rfl | (simp; done) | (simp only [← hji23] <;> (first | rfl | simp)) | (simp [*]; done)), H', ⟨by have := HK1.out; have := HK2.out; have := HJ6.out; first | omega | exact Nat.le_refl _⟩, ⟨by (with_reducible repeat (first | refine blk_drewN ?_ _ | refine blk_drew ?_ | refine blk_alloc ?_ _)); exact BK240.out⟩, ⟨bw⟩⟩
              rw [if_neg c25] at H
              exact absurd H (by simp)
             rw [if_neg c24] at H
             exact absurd H (by simp)
            rw [if_neg c22] at H
            exact absurd H (by simp)
           rw [if_neg c21] at H
           exact absurd H (by simp)
          case rest =>
           clear HC18
           obtain ⟨kq, x86_17, rfl, HA, HJ17, BK240, HB⟩ := hcut
           cases kq with
           | zero => exact absurd HA.out (by simp [vesperref14_marksMay.j3])
           | succ kj17 =>
            have H := HA.out
            clear HA
            simp only [vesperref14_marksMay.j3] at H
            by_cases c27 : x86_17 = true
            ·subst c27
             have H1 : (some false) = some r := by rw [if_pos rfl] at H; exact H
             clear H
             have H := H1
             clear H1
             obtain rfl := Option.some.inj H
             go_wp2
             go_ret
             exact ⟨ew, bw⟩
            replace c27 := Bool.eq_false_iff.mpr c27
            subst c27
            have H1 : (if 0 ≤ x3_2 then (if x3_2 < (l0_1.length : Int) then (if (rd_T52 l0_1 x3_2).f2 = true then (if 0 ≤ x4_1 then (if x4_1 < (l0_0.length : Int) then (if 0 ≤ (wrap64 (x5_2 - ((rd_T42 l0_0 x4_1).f0))) then (if (wrap64 (x5_2 - ((rd_T42 l0_0 x4_1).f0))) ≤ (wrap64 ((wrap64 (x5_2 - ((rd_T42 l0_0 x4_1).f0))) + ((rd_T52 l0_1 x3_2).f1))) then (if (wrap64 ((wrap64 (x5_2 - ((rd_T42 l0_0 x4_1).f0))) + ((rd_T52 l0_1 x3_2).f1))) ≤ (((rd_T42 l0_0 x4_1).f1).length : Int) then ((vesperref14_whole.f kj17 ((((rd_T42 l0_0 x4_1).f1).take ((wrap64 ((wrap64 (x5_2 - ((rd_T42 l0_0 x4_1).f0))) + ((rd_T52 l0_1 x3_2).f1))) : Int).toNat).drop ((wrap64 (x5_2 - ((rd_T42 l0_0 x4_1).f0))) : Int).toNat)).bind fun t254 => (if t254 = true then (vesperref14_marksMay.l1 kj17 (wrap64 (x3_2 + 1)) x4_1 (wrap64 (x5_2 + ((rd_T52 l0_1 x3_2).f1))) (wrap64 (((rd_T42 l0_0 x4_1).f0) + (((rd_T42 l0_0 x4_1).f1).length : Int))) false l0_0 l0_1 l0_2) else (some false))) else (none)) else (none)) else (none)) else (none)) else (none)) else (vesperref14_marksMay.l1 kj17 (wrap64 (x3_2 + 1)) x4_1 (wrap64 (x5_2 + ((rd_T52 l0_1 x3_2).f1))) (wrap64 (((rd_T42 l0_0 x4_1).f0) + (((rd_T42 l0_0 x4_1).f1).length : Int))) false l0_0 l0_1 l0_2)) else (none)) else (none)) = some r := by rw [if_neg (show ¬ (false = true) by decide)] at H; exact H
            clear H
            have H := H1
            clear H1
            by_cases c28 : 0 ≤ x3_2
            ·rw [if_pos c28] at H
             have c28b0 : decide (0 ≤ x3_2) = true := decide_eq_true c28
             clear c28
             by_cases c29 : x3_2 < (l0_1.length : Int)
             ·rw [if_pos c29] at H
              have c29b0 : decide (x3_2 < (l0_1.length : Int)) = true := decide_eq_true c29
              clear c29
              obtain ⟨bq30, hbq30⟩ : ∃ b_ : Bool, b_ = ((rd_T52 l0_1 x3_2).f2) := ⟨_, rfl⟩
              replace H : (if bq30 = true then (if 0 ≤ x4_1 then (if x4_1 < (l0_0.length : Int) then (if 0 ≤ (wrap64 (x5_2 - ((rd_T42 l0_0 x4_1).f0))) then (if (wrap64 (x5_2 - ((rd_T42 l0_0 x4_1).f0))) ≤ (wrap64 ((wrap64 (x5_2 - ((rd_T42 l0_0 x4_1).f0))) + ((rd_T52 l0_1 x3_2).f1))) then (if (wrap64 ((wrap64 (x5_2 - ((rd_T42 l0_0 x4_1).f0))) + ((rd_T52 l0_1 x3_2).f1))) ≤ (((rd_T42 l0_0 x4_1).f1).length : Int) then ((vesperref14_whole.f kj17 ((((rd_T42 l0_0 x4_1).f1).take ((wrap64 ((wrap64 (x5_2 - ((rd_T42 l0_0 x4_1).f0))) + ((rd_T52 l0_1 x3_2).f1))) : Int).toNat).drop ((wrap64 (x5_2 - ((rd_T42 l0_0 x4_1).f0))) : Int).toNat)).bind fun t254 => (if t254 = true then (vesperref14_marksMay.l1 kj17 (wrap64 (x3_2 + 1)) x4_1 (wrap64 (x5_2 + ((rd_T52 l0_1 x3_2).f1))) (wrap64 (((rd_T42 l0_0 x4_1).f0) + (((rd_T42 l0_0 x4_1).f1).length : Int))) false l0_0 l0_1 l0_2) else (some false))) else (none)) else (none)) else (none)) else (none)) else (none)) else (vesperref14_marksMay.l1 kj17 (wrap64 (x3_2 + 1)) x4_1 (wrap64 (x5_2 + ((rd_T52 l0_1 x3_2).f1))) (wrap64 (((rd_T42 l0_0 x4_1).f0) + (((rd_T42 l0_0 x4_1).f1).length : Int))) false l0_0 l0_1 l0_2)) = some r := by rw [← hbq30] at H; exact H
              have Nbq30 := Aside0.mk hbq30
              clear hbq30
              by_cases c31 : bq30 = true
              ·subst c31
               have H1 : (if 0 ≤ x4_1 then (if x4_1 < (l0_0.length : Int) then (if 0 ≤ (wrap64 (x5_2 - ((rd_T42 l0_0 x4_1).f0))) then (if (wrap64 (x5_2 - ((rd_T42 l0_0 x4_1).f0))) ≤ (wrap64 ((wrap64 (x5_2 - ((rd_T42 l0_0 x4_1).f0))) + ((rd_T52 l0_1 x3_2).f1))) then (if (wrap64 ((wrap64 (x5_2 - ((rd_T42 l0_0 x4_1).f0))) + ((rd_T52 l0_1 x3_2).f1))) ≤ (((rd_T42 l0_0 x4_1).f1).length : Int) then ((vesperref14_whole.f kj17 ((((rd_T42 l0_0 x4_1).f1).take ((wrap64 ((wrap64 (x5_2 - ((rd_T42 l0_0 x4_1).f0))) + ((rd_T52 l0_1 x3_2).f1))) : Int).toNat).drop ((wrap64 (x5_2 - ((rd_T42 l0_0 x4_1).f0))) : Int).toNat)).bind fun t254 => (if t254 = true then (vesperref14_marksMay.l1 kj17 (wrap64 (x3_2 + 1)) x4_1 (wrap64 (x5_2 + ((rd_T52 l0_1 x3_2).f1))) (wrap64 (((rd_T42 l0_0 x4_1).f0) + (((rd_T42 l0_0 x4_1).f1).length : Int))) false l0_0 l0_1 l0_2) else (some false))) else (none)) else (none)) else (none)) else (none)) else (none)) = some r := by rw [if_pos rfl] at H; exact H
               clear H
               have H := H1
               clear H1
               by_cases c32 : 0 ≤ x4_1
               ·rw [if_pos c32] at H
                have c32b0 : decide (0 ≤ x4_1) = true := decide_eq_true c32
                clear c32
                by_cases c33 : x4_1 < (l0_0.length : Int)
                ·rw [if_pos c33] at H
                 have c33b0 : decide (x4_1 < (l0_0.length : Int)) = true := decide_eq_true c33
                 clear c33
                 obtain ⟨ji34, hji34⟩ : ∃ j_ : Int, (wrap64 (x5_2 - ((rd_T42 l0_0 x4_1).f0))) = j_ := ⟨_, rfl⟩
                 replace H : (if 0 ≤ (ji34) then (if (ji34) ≤ (wrap64 ((ji34) + ((rd_T52 l0_1 x3_2).f1))) then (if (wrap64 ((ji34) + ((rd_T52 l0_1 x3_2).f1))) ≤ (((rd_T42 l0_0 x4_1).f1).length : Int) then ((vesperref14_whole.f kj17 ((((rd_T42 l0_0 x4_1).f1).take ((wrap64 ((ji34) + ((rd_T52 l0_1 x3_2).f1))) : Int).toNat).drop ((ji34) : Int).toNat)).bind fun t254 => (if t254 = true then (vesperref14_marksMay.l1 kj17 (wrap64 (x3_2 + 1)) x4_1 (wrap64 (x5_2 + ((rd_T52 l0_1 x3_2).f1))) (wrap64 (((rd_T42 l0_0 x4_1).f0) + (((rd_T42 l0_0 x4_1).f1).length : Int))) false l0_0 l0_1 l0_2) else (some false))) else (none)) else (none)) else (none)) = some r := by first | (rw [hji34] at H; exact H) | (simp only [hji34] at H ⊢; exact H)
                 have hji34w : (IntKind.i64.wrap (x5_2 - ((rd_T42 l0_0 x4_1).f0))) = ji34 := (i64_w _).trans hji34
                 by_cases c35 : 0 ≤ (ji34)
                 ·rw [if_pos c35] at H
                  have c35b0 := eq_true c35
                  have c35b1 : decide (0 ≤ (ji34)) = true := decide_eq_true c35
                  clear c35
                  by_cases c36 : (ji34) ≤ (wrap64 ((ji34) + ((rd_T52 l0_1 x3_2).f1)))
                  ·rw [if_pos c36] at H
                   have c36b0 := eq_true c36
                   have c36b1 : decide ((ji34) ≤ (wrap64 ((ji34) + ((rd_T52 l0_1 x3_2).f1)))) = true := decide_eq_true c36
                   by_cases c37 : (wrap64 ((ji34) + ((rd_T52 l0_1 x3_2).f1))) ≤ (((rd_T42 l0_0 x4_1).f1).length : Int)
                   ·rw [if_pos c37] at H
                    have c37b0 := eq_true c37
                    have c37b1 : decide ((wrap64 ((ji34) + ((rd_T52 l0_1 x3_2).f1))) ≤ (((rd_T42 l0_0 x4_1).f1).length : Int)) = true := decide_eq_true c37
                    replace H := Option.bind_eq_some_iff.mp H
                    obtain ⟨t254, A380, H⟩ := H
                    replace H : (if t254 = true then (vesperref14_marksMay.l1 kj17 (wrap64 (x3_2 + 1)) x4_1 (wrap64 (x5_2 + ((rd_T52 l0_1 x3_2).f1))) (wrap64 (((rd_T42 l0_0 x4_1).f0) + (((rd_T42 l0_0 x4_1).f1).length : Int))) false l0_0 l0_1 l0_2) else (some false)) = some r := H
                    have A38 := Aside0.mk A380
                    clear A380
                    by_cases c39 : t254 = true
                    ·subst c39
                     have H1 : (vesperref14_marksMay.l1 kj17 (wrap64 (x3_2 + 1)) x4_1 (wrap64 (x5_2 + ((rd_T52 l0_1 x3_2).f1))) (wrap64 (((rd_T42 l0_0 x4_1).f0) + (((rd_T42 l0_0 x4_1).f1).length : Int))) false l0_0 l0_1 l0_2) = some r := by rw [if_pos rfl] at H; exact H
                     clear H
                     have H := H1
                     clear H1
                     have H' := Aside0.mk H
                     clear H
                     try go_wp2
                     have n0_ := Aside0.mk (blk_drew BK240.out)
                     have n1_ := Aside0.mk (below_drew1 HB.out)
                     clear BK240
                     clear HB
                     have BK240 := n0_
                     have HB := n1_
                     clear n0_ n1_
                     have p248 : 0 ≤ (x3_2 : Int) := oda
                     have q248 : x3_2 < (l0_1.length : Int) := oda
                     obtain ⟨ad248, e248, hx248_0, hx248_1, hx248_2⟩ := at_T52 HR0_1.out x3_2 p248 q248
                     have hw248_2 := hx248_2
                     have hw248_1 := hx248_1
                     have hw248_0 := hx248_0
                     (try rw [← Nbq30.out] at hx248_2)
                     cases e248
                     replace hx248_0 := up_ HB hx248_0
                     replace hx248_1 := up_ HB hx248_1
                     replace hx248_2 := up_ HB hx248_2
                     replace p248 := eq_true p248
                     replace q248 := eq_true q248
                     have p249 : 0 ≤ (x4_1 : Int) := oda
                     have q249 : x4_1 < (l0_0.length : Int) := oda
                     obtain ⟨ad249, A249_1, c249_1, e249, hx249_0, hx249_1, hl249_1, hi249_1⟩ := at_T42 HR0_0.out x4_1 p249 q249
                     have hw249_1 := hx249_1
                     have hw249_0 := hx249_0
                     obtain rfl : ad241 = ad249 := (by injection e249)
                     replace hx249_0 := up_ HB hx249_0
                     replace hx249_1 := up_ HB hx249_1
                     have HR249_1 := Aside0.mk hi249_1
                     have HC249_1 := Aside0.mk hl249_1
                     clear hi249_1 hl249_1
                     replace p249 := eq_true p249
                     replace q249 := eq_true q249
                     have p250 : 0 ≤ (x4_1 : Int) := oda
                     have q250 : x4_1 < (l0_0.length : Int) := oda
                     obtain ⟨ad250, A250_1, c250_1, e250, hx250_0, hx250_1, hl250_1, hi250_1⟩ := at_T42 HR0_0.out x4_1 p250 q250
                     have hw250_1 := hx250_1
                     have hw250_0 := hx250_0
                     obtain rfl : ad241 = ad250 := (by injection e250)
                     replace hx250_0 := up_ HB hx250_0
                     replace hx250_1 := up_ HB hx250_1
                     have HR250_1 := Aside0.mk hi250_1
                     have HC250_1 := Aside0.mk hl250_1
                     clear hi250_1 hl250_1
                     replace p250 := eq_true p250
                     replace q250 := eq_true q250
                     have ea_ := Option.some.inj (hx249_1.symm.trans hx250_1)
                     injection ea_ with ea_ en_ ec_
                     subst ea_
                     subst ec_
                     clear en_
                     have p251 : 0 ≤ (x4_1 : Int) := oda
                     have q251 : x4_1 < (l0_0.length : Int) := oda
                     obtain ⟨ad251, A251_1, c251_1, e251, hx251_0, hx251_1, hl251_1, hi251_1⟩ := at_T42 HR0_0.out x4_1 p251 q251
                     have hw251_1 := hx251_1
                     have hw251_0 := hx251_0
                     obtain rfl : ad241 = ad251 := (by injection e251)
                     replace hx251_0 := up_ HB hx251_0
                     replace hx251_1 := up_ HB hx251_1
                     have HR251_1 := Aside0.mk hi251_1
                     have HC251_1 := Aside0.mk hl251_1
                     clear hi251_1 hl251_1
                     replace p251 := eq_true p251
                     replace q251 := eq_true q251
                     have ea_ := Option.some.inj (hx249_1.symm.trans hx251_1)
                     injection ea_ with ea_ en_ ec_
                     subst ea_
                     subst ec_
                     clear en_
                     have p252 : 0 ≤ (x3_2 : Int) := oda
                     have q252 : x3_2 < (l0_1.length : Int) := oda
                     obtain ⟨ad252, e252, hx252_0, hx252_1, hx252_2⟩ := at_T52 HR0_1.out x3_2 p252 q252
                     have hw252_2 := hx252_2
                     have hw252_1 := hx252_1
                     have hw252_0 := hx252_0
                     (try rw [← Nbq30.out] at hx252_2)
                     obtain rfl : ad248 = ad252 := (by injection e252)
                     replace hx252_0 := up_ HB hx252_0
                     replace hx252_1 := up_ HB hx252_1
                     replace hx252_2 := up_ HB hx252_2
                     replace p252 := eq_true p252
                     replace q252 := eq_true q252
                     obtain ⟨i041, hi041, _, hsz41, _⟩ := info_parts info5
                     obtain ⟨A41, hcut41, hA41, hC41⟩ := print_mid_of (P := Tryd.prog) (Value.int .u8) 0 33 5 .i64 .i64 Tryd.underlying33 hi041 hsz41 A249_1 c249_1 ((rd_T42 l0_0 x4_1).f1) (ji34) (wrap64 ((ji34) + ((rd_T52 l0_1 x3_2).f1))) (oda) (by first | omega | exact oda) (oda) HC249_1.out
                     have HR253 := Aside0.mk (Kd.C_of_reads (h1 := fun _ => rfl) (hA41 _ (Kd.reads_of_C HR249_1.out)))
                     have HC253 := Aside0.mk hC41
                     clear hA41 hC41 hi041 hsz41
                     refine start_ (n := 40) (S := fun w' => w'.cell? ⟨gb240, 0, none⟩ = some (.slice (some ad241) l0_0.length c0_0) ∧ w'.cell? ⟨gb240, 1, none⟩ = some (.slice (some ad248) l0_1.length c0_1) ∧ w'.cell? ⟨gb240, 2, none⟩ = some (.slice A0_2 l0_2.length c0_2) ∧ w'.cell? (ad248.add ((x3_2).toNat * 3)) = some (.int .i64 ((rd_T52 l0_1 x3_2).f0)) ∧ w'.cell? ⟨(ad248.add ((x3_2).toNat * 3)).block, (ad248.add ((x3_2).toNat * 3)).off + 1, none⟩ = some (.int .i64 ((rd_T52 l0_1 x3_2).f1)) ∧ w'.cell? ⟨(ad248.add ((x3_2).toNat * 3)).block, (ad248.add ((x3_2).toNat * 3)).off + 2, none⟩ = some (.bool true) ∧ w'.cell? (ad241.add ((x4_1).toNat * 2)) = some (.int .i64 ((rd_T42 l0_0 x4_1).f0)) ∧ w'.cell? ⟨(ad241.add ((x4_1).toNat * 2)).block, (ad241.add ((x4_1).toNat * 2)).off + 1, none⟩ = some (.slice A249_1 ((rd_T42 l0_0 x4_1).f1).length c249_1) ∧ w'.cell? (ad241.add ((x4_1).toNat * 2)) = some (.int .i64 ((rd_T42 l0_0 x4_1).f0)) ∧ w'.cell? ⟨(ad241.add ((x4_1).toNat * 2)).block, (ad241.add ((x4_1).toNat * 2)).off + 1, none⟩ = some (.slice A249_1 ((rd_T42 l0_0 x4_1).f1).length c249_1) ∧ w'.cell? (ad241.add ((x4_1).toNat * 2)) = some (.int .i64 ((rd_T42 l0_0 x4_1).f0)) ∧ w'.cell? ⟨(ad241.add ((x4_1).toNat * 2)).block, (ad241.add ((x4_1).toNat * 2)).off + 1, none⟩ = some (.slice A249_1 ((rd_T42 l0_0 x4_1).f1).length c249_1) ∧ w'.cell? (ad248.add ((x3_2).toNat * 3)) = some (.int .i64 ((rd_T52 l0_1 x3_2).f0)) ∧ w'.cell? ⟨(ad248.add ((x3_2).toNat * 3)).block, (ad248.add ((x3_2).toNat * 3)).off + 1, none⟩ = some (.int .i64 ((rd_T52 l0_1 x3_2).f1)) ∧ w'.cell? ⟨(ad248.add ((x3_2).toNat * 3)).block, (ad248.add ((x3_2).toNat * 3)).off + 2, none⟩ = some (.bool (true))) (ds := []) #[false, false, false, false, false, false, false, false, false, false, false, false, false, false, false, false, false, false, false, false, false, false, false, false, false, false, false, false, false, false, false, false, false, false, false, false, false, false, false, false] (by kernel_rfl) rfl rfl ⟨(blk_cell BK240.out 0).trans rfl, (blk_cell BK240.out 1).trans rfl, (blk_cell BK240.out 2).trans rfl, ((HB.out.cell (World.block_lt_of_cell? w _ hw248_0)).trans hw248_0), ((HB.out.cell (World.block_lt_of_cell? w _ hw248_1)).trans hw248_1), ((HB.out.cell (World.block_lt_of_cell? w _ hw248_2)).trans (hw248_2.trans (by first | rfl | rw [Nbq30.out]))), ((HB.out.cell (World.block_lt_of_cell? w _ hw249_0)).trans hw249_0), ((HB.out.cell (World.block_lt_of_cell? w _ hw249_1)).trans hw249_1), ((HB.out.cell (World.block_lt_of_cell? w _ hw250_0)).trans hw250_0), ((HB.out.cell (World.block_lt_of_cell? w _ hw250_1)).trans hw250_1), ((HB.out.cell (World.block_lt_of_cell? w _ hw251_0)).trans hw251_0), ((HB.out.cell (World.block_lt_of_cell? w _ hw251_1)).trans hw251_1), ((HB.out.cell (World.block_lt_of_cell? w _ hw252_0)).trans hw252_0), ((HB.out.cell (World.block_lt_of_cell? w _ hw252_1)).trans hw252_1), ((HB.out.cell (World.block_lt_of_cell? w _ hw252_2)).trans (hw252_2.trans (by first | rfl | rw [Nbq30.out])))⟩ (fun hHeld => ?_); refine with_tabW vesperref14_marksMay.tab13 vesperref14_marksMay.bits13 (fun HT_ HW_ => ?_)
                     generalize wc.drew = w40 at BK240 HB HR249_1 HR250_1 HR251_1 HR253 hx248_0 hx248_1 hx248_2 hx249_0 hx249_1 hx250_0 hx250_1 hx251_0 hx251_1 hx252_0 hx252_1 hx252_2 hHeld ⊢
                     refine pz 0 (some 87) ?_ HT_ rfl rfl (by kernel_rfl) (by rfl) ?_ ?_ ?_ ?_
                     rotate_left
                     ·intro w'
                      go_simp
                      with_reducible rfl
                     rotate_left
                     ·simp only [put_l, List.set, i64_w, i32_w]
                      rfl
                     refine pz 2 (some 89) ?_ HT_ rfl rfl (by kernel_rfl) (by rfl) ?_ ?_ ?_ ?_
                     rotate_left
                     ·intro w'
                      go_simp
                      with_reducible rfl
                     rotate_left
                     ·simp only [put_l, List.set, i64_w, i32_w]
                      rfl
                     refine tz 1 (some 88) ?_ HT_ HW_ rfl rfl (by kernel_rfl) (by rfl) ?_ hHeld ?_ ?_ ?_
                     rotate_left
                     ·rintro w' ⟨s0, s1, s2, s3, s4, s5, s6, s7, s8, s9, s10, s11, s12, s13, s14⟩
                      go_simp
                      with_reducible rfl
                     rotate_left
                     ·simp only [put_l, List.set, i64_w, i32_w]
                      rfl
                     refine pz 3 (some 90) ?_ HT_ rfl rfl (by kernel_rfl) (by rfl) ?_ ?_ ?_ ?_
                     rotate_left
                     ·intro w'
                      go_simp
                      with_reducible rfl
                     rotate_left
                     ·simp only [put_l, List.set, i64_w, i32_w]
                      rfl
                     refine pz 4 (some 91) ?_ HT_ rfl rfl (by kernel_rfl) (by rfl) ?_ ?_ ?_ ?_
                     rotate_left
                     ·intro w'
                      go_simp
                      with_reducible rfl
                     rotate_left
                     ·simp only [put_l, List.set, i64_w, i32_w]
                      rfl
                     refine tz 5 (some 92) ?_ HT_ HW_ rfl rfl (by kernel_rfl) (by rfl) ?_ hHeld ?_ ?_ ?_
                     rotate_left
                     ·rintro w' ⟨s0, s1, s2, s3, s4, s5, s6, s7, s8, s9, s10, s11, s12, s13, s14⟩
                      go_simp
                      with_reducible rfl
                     rotate_left
                     ·simp only [put_l, List.set, i64_w, i32_w]
                      rfl
                     refine pz 6 (some 93) ?_ HT_ rfl rfl (by kernel_rfl) (by rfl) ?_ ?_ ?_ ?_
                     rotate_left
                     ·intro w'
                      go_simp
                      with_reducible rfl
                     rotate_left
                     ·simp only [put_l, List.set, i64_w, i32_w]
                      rfl
                     refine pz 7 (some 94) ?_ HT_ rfl rfl (by kernel_rfl) (by rfl) ?_ ?_ ?_ ?_
                     rotate_left
                     ·intro w'
                      go_simp
                      with_reducible rfl
                     rotate_left
                     ·simp only [put_l, List.set, i64_w, i32_w]
                      rfl
                     refine pz 9 (some 96) ?_ HT_ rfl rfl (by kernel_rfl) (by rfl) ?_ ?_ ?_ ?_
                     rotate_left
                     ·intro w'
                      go_simp
                      with_reducible rfl
                     rotate_left
                     ·simp only [put_l, List.set, i64_w, i32_w]
                      rfl
                     refine pz 13 (some 100) ?_ HT_ rfl rfl (by kernel_rfl) (by rfl) ?_ ?_ ?_ ?_
                     rotate_left
                     ·intro w'
                      go_simp
                      with_reducible rfl
                     rotate_left
                     ·simp only [put_l, List.set, i64_w, i32_w]
                      rfl
                     refine pz 14 (some 101) ?_ HT_ rfl rfl (by kernel_rfl) (by rfl) ?_ ?_ ?_ ?_
                     rotate_left
                     ·intro w'
                      go_simp
                      with_reducible rfl
                     rotate_left
                     ·simp only [put_l, List.set, i64_w, i32_w]
                      rfl
                     refine pz 16 (some 103) ?_ HT_ rfl rfl (by kernel_rfl) (by rfl) ?_ ?_ ?_ ?_
                     rotate_left
                     ·intro w'
                      go_simp
                      with_reducible rfl
                     rotate_left
                     ·simp only [put_l, List.set, i64_w, i32_w]
                      rfl
                     refine pz 21 (some 108) ?_ HT_ rfl rfl (by kernel_rfl) (by rfl) ?_ ?_ ?_ ?_
                     rotate_left
                     ·intro w'
                      go_simp
                      with_reducible rfl
                     rotate_left
                     ·simp only [put_l, List.set, i64_w, i32_w]
                      rfl
                     refine pz 22 (some 109) ?_ HT_ rfl rfl (by kernel_rfl) (by rfl) ?_ ?_ ?_ ?_
                     rotate_left
                     ·intro w'
                      go_simp
                      with_reducible rfl
                     rotate_left
                     ·simp only [put_l, List.set, i64_w, i32_w]
                      rfl
                     refine pz 24 (some 111) ?_ HT_ rfl rfl (by kernel_rfl) (by rfl) ?_ ?_ ?_ ?_
                     rotate_left
                     ·intro w'
                      go_simp
                      with_reducible rfl
                     rotate_left
                     ·simp only [put_l, List.set, i64_w, i32_w]
                      rfl
                     refine pz 29 (some 116) ?_ HT_ rfl rfl (by kernel_rfl) (by rfl) ?_ ?_ ?_ ?_
                     rotate_left
                     ·intro w'
                      go_simp
                      with_reducible rfl
                     rotate_left
                     ·simp only [put_l, List.set, i64_w, i32_w]
                      rfl
                     refine pz 31 (some 118) ?_ HT_ rfl rfl (by kernel_rfl) (by rfl) ?_ ?_ ?_ ?_
                     rotate_left
                     ·intro w'
                      go_simp
                      with_reducible rfl
                     rotate_left
                     ·simp only [put_l, List.set, i64_w, i32_w]
                      rfl
                     refine tz 8 (some 95) ?_ HT_ HW_ rfl rfl (by kernel_rfl) (by rfl) ?_ hHeld ?_ ?_ ?_
                     rotate_left
                     ·rintro w' ⟨s0, s1, s2, s3, s4, s5, s6, s7, s8, s9, s10, s11, s12, s13, s14⟩
                      go_simp
                      with_reducible rfl
                     rotate_left
                     ·simp only [put_l, List.set, i64_w, i32_w]
                      rfl
                     refine pz 10 (some 97) ?_ HT_ rfl rfl (by kernel_rfl) (by rfl) ?_ ?_ ?_ ?_
                     rotate_left
                     ·intro w'
                      go_simp
                      with_reducible rfl
                     rotate_left
                     ·simp only [put_l, List.set, i64_w, i32_w]
                      rfl
                     refine pz 11 (some 98) ?_ HT_ rfl rfl (by kernel_rfl) (by rfl) ?_ ?_ ?_ ?_
                     rotate_left
                     ·intro w'
                      go_simp
                      with_reducible rfl
                     rotate_left
                     ·simp only [put_l, List.set, i64_w, i32_w]
                      rfl
                     refine tz 12 (some 99) ?_ HT_ HW_ rfl rfl (by kernel_rfl) (by rfl) ?_ hHeld ?_ ?_ ?_
                     rotate_left
                     ·rintro w' ⟨s0, s1, s2, s3, s4, s5, s6, s7, s8, s9, s10, s11, s12, s13, s14⟩
                      go_simp
                      with_reducible rfl
                     rotate_left
                     ·simp only [put_l, List.set, i64_w, i32_w]
                      rfl
                     refine tz 15 (some 102) ?_ HT_ HW_ rfl rfl (by kernel_rfl) (by rfl) ?_ hHeld ?_ ?_ ?_
                     rotate_left
                     ·rintro w' ⟨s0, s1, s2, s3, s4, s5, s6, s7, s8, s9, s10, s11, s12, s13, s14⟩
                      go_simp
                      with_reducible rfl
                     rotate_left
                     ·simp only [put_l, List.set, i64_w, i32_w]
                      rfl
                     refine pz 17 (some 104) ?_ HT_ rfl rfl (by kernel_rfl) (by rfl) ?_ ?_ ?_ ?_
                     rotate_left
                     ·intro w'
                      go_simp
                      with_reducible rfl
                     rotate_left
                     ·simp only [put_l, List.set, i64_w, i32_w]
                      rfl
                     refine pz 18 (some 105) ?_ HT_ rfl rfl (by kernel_rfl) (by rfl) ?_ ?_ ?_ ?_
                     rotate_left
                     ·intro w'
                      go_simp
                      with_reducible rfl
                     rotate_left
                     ·simp only [put_l, List.set, i64_w, i32_w]
                      rfl
                     refine tz 19 (some 106) ?_ HT_ HW_ rfl rfl (by kernel_rfl) (by rfl) ?_ hHeld ?_ ?_ ?_
                     rotate_left
                     ·rintro w' ⟨s0, s1, s2, s3, s4, s5, s6, s7, s8, s9, s10, s11, s12, s13, s14⟩
                      go_simp
                      with_reducible rfl
                     rotate_left
                     ·simp only [put_l, List.set, i64_w, i32_w]
                      rfl
                     refine pz 20 (some 107) ?_ HT_ rfl rfl (by kernel_rfl) (by rfl) ?_ ?_ ?_ ?_
                     rotate_left
                     ·intro w'
                      go_simp
                      with_reducible rfl
                     rotate_left
                     ·simp only [put_l, List.set, i64_w, i32_w]
                      rfl
                     refine tz 23 (some 110) ?_ HT_ HW_ rfl rfl (by kernel_rfl) (by rfl) ?_ hHeld ?_ ?_ ?_
                     rotate_left
                     ·rintro w' ⟨s0, s1, s2, s3, s4, s5, s6, s7, s8, s9, s10, s11, s12, s13, s14⟩
                      go_simp
                      with_reducible rfl
                     rotate_left
                     ·simp only [put_l, List.set, i64_w, i32_w]
                      rfl
                     refine pz 25 (some 112) ?_ HT_ rfl rfl (by kernel_rfl) (by rfl) ?_ ?_ ?_ ?_
                     rotate_left
                     ·intro w'
                      go_simp
                      with_reducible rfl
                     rotate_left
                     ·simp only [put_l, List.set, i64_w, i32_w]
                      rfl
                     refine pz 26 (some 113) ?_ HT_ rfl rfl (by kernel_rfl) (by rfl) ?_ ?_ ?_ ?_
                     rotate_left
                     ·intro w'
                      go_simp
                      with_reducible rfl
                     rotate_left
                     ·simp only [put_l, List.set, i64_w, i32_w]
                      rfl
                     refine tz 27 (some 114) ?_ HT_ HW_ rfl rfl (by kernel_rfl) (by rfl) ?_ hHeld ?_ ?_ ?_
                     rotate_left
                     ·rintro w' ⟨s0, s1, s2, s3, s4, s5, s6, s7, s8, s9, s10, s11, s12, s13, s14⟩
                      go_simp
                      with_reducible rfl
                     rotate_left
                     ·simp only [put_l, List.set, i64_w, i32_w]
                      rfl
                     refine pz 28 (some 115) ?_ HT_ rfl rfl (by kernel_rfl) (by rfl) ?_ ?_ ?_ ?_
                     rotate_left
                     ·intro w'
                      go_simp
                      with_reducible rfl
                     rotate_left
                     ·simp only [put_l, List.set, i64_w, i32_w]
                      rfl
                     refine tz 30 (some 117) ?_ HT_ HW_ rfl rfl (by kernel_rfl) (by rfl) ?_ hHeld ?_ ?_ ?_
                     rotate_left
                     ·rintro w' ⟨s0, s1, s2, s3, s4, s5, s6, s7, s8, s9, s10, s11, s12, s13, s14⟩
                      go_simp
                      with_reducible rfl
                     rotate_left
                     ·simp only [put_l, List.set, i64_w, i32_w]
                      rfl
                     refine pz 32 (some 119) ?_ HT_ rfl rfl (by kernel_rfl) (by rfl) ?_ ?_ ?_ ?_
                     rotate_left
                     ·intro w'
                      go_simp
                      with_reducible rfl
                     rotate_left
                     ·simp only [put_l, List.set, i64_w, i32_w]
                      rfl
                     refine pz 33 (some 120) ?_ HT_ rfl rfl (by kernel_rfl) (by rfl) ?_ ?_ ?_ ?_
                     rotate_left
                     ·intro w'
                      go_simp
                      with_reducible rfl
                     rotate_left
                     ·simp only [put_l, List.set, i64_w, i32_w]
                      rfl
                     refine tz 34 (some 121) ?_ HT_ HW_ rfl rfl (by kernel_rfl) (by rfl) ?_ hHeld ?_ ?_ ?_
                     rotate_left
                     ·rintro w' ⟨s0, s1, s2, s3, s4, s5, s6, s7, s8, s9, s10, s11, s12, s13, s14⟩
                      go_simp
                      with_reducible rfl
                     rotate_left
                     ·simp only [put_l, List.set, i64_w, i32_w]
                      rfl
                     refine pz 35 (some 122) ?_ HT_ rfl rfl (by kernel_rfl) (by rfl) ?_ ?_ ?_ ?_
                     rotate_left
                     ·intro w'
                      go_simp
                      with_reducible rfl
                     rotate_left
                     ·simp only [put_l, List.set, i64_w, i32_w]
                      rfl
                     refine pz 36 (some 123) ?_ HT_ rfl rfl (by kernel_rfl) (by rfl) ?_ ?_ ?_ ?_
                     rotate_left
                     ·intro w'
                      go_simp
                      with_reducible rfl
                     rotate_left
                     ·simp only [put_l, List.set, i64_w, i32_w]
                      rfl
                     refine one_ (i := 37) (N := some 124) #[true, true, true, true, true, true, true, true, true, true, true, true, true, true, true, true, true, true, true, true, true, true, true, true, true, true, true, true, true, true, true, true, true, true, true, true, true, true, false, false] rfl rfl (one_of HT_.out (by kernel_rfl)) (by decide) (fun K hK => ?_)
                     refine goes_ Tryd.func28 (by kernel_rfl) rfl #[.slice A41 ((((rd_T42 l0_0 x4_1).f1).take ((wrap64 ((ji34) + ((rd_T52 l0_1 x3_2).f1))) : Int).toNat).drop ((ji34) : Int).toNat).length (c249_1 - (ji34).toNat)] (by rfl) rfl rfl (by (try simp only [List.map_toArray, List.map_cons, List.map_nil]); first | done | (rw [show ((((rd_T42 l0_0 x4_1).f1).take ((wrap64 ((ji34) + ((rd_T52 l0_1 x3_2).f1))) : Int).toNat).drop ((ji34) : Int).toNat).length = ((wrap64 ((ji34) + ((rd_T52 l0_1 x3_2).f1))).toNat - (ji34).toNat) from (by rw [List.length_drop, List.length_take]; have h_ : ((wrap64 ((ji34) + ((rd_T52 l0_1 x3_2).f1))) : Int) ≤ (((rd_T42 l0_0 x4_1).f1).length : Int) := oda; omega)] <;> rfl) | (simp only [hji34]; rfl) | rfl | (simp only [List.length_drop, List.length_take]; rfl)) ?_
                     with_reducible refine (vesperref14_whole.calls kj17 _ _ ((((rd_T42 l0_0 x4_1).f1).take ((wrap64 ((ji34) + ((rd_T52 l0_1 x3_2).f1))) : Int).toNat).drop ((ji34) : Int).toNat) true _ ?side1 ?side2 A38.out).mono ?_
                     (case side1 => repeat (first | exact (Kd.C_below HR253.out HB.out) | (with_reducible refine Kd.C_alloc ?_ _) | (with_reducible refine Kd.C_drewN ?_ _) | (with_reducible refine Kd.C_drew ?_)))
                     (case side2 => exact HC253.out)
                     rintro e w42 ⟨rfl, hb⟩
                     refine ⟨_, rfl, ?_⟩
                     have n0_ := Aside0.mk (blk_below (g := gb240) (o := .cells #[.slice (some ad241) l0_0.length c0_0, .slice (some ad248) l0_1.length c0_1, .slice A0_2 l0_2.length c0_2] 26 (0, 0)) bk hb)
                     have n1_ := Aside0.mk (below_step bw hb)
                     clear BK240
                     clear HB
                     have BK240 := n0_
                     have HB := n1_
                     clear n0_ n1_
                     (try clear hb)
                     (try clear hb2)
                     (try clear hk)
                     (try clear hi)
                     refine hK.out _ _ ⟨(blk_cell BK240.out 0).trans rfl, (blk_cell BK240.out 1).trans rfl, (blk_cell BK240.out 2).trans rfl, ((HB.out.cell (World.block_lt_of_cell? w _ hw248_0)).trans hw248_0), ((HB.out.cell (World.block_lt_of_cell? w _ hw248_1)).trans hw248_1), ((HB.out.cell (World.block_lt_of_cell? w _ hw248_2)).trans (hw248_2.trans (by first | rfl | rw [Nbq30.out]))), ((HB.out.cell (World.block_lt_of_cell? w _ hw249_0)).trans hw249_0), ((HB.out.cell (World.block_lt_of_cell? w _ hw249_1)).trans hw249_1), ((HB.out.cell (World.block_lt_of_cell? w _ hw250_0)).trans hw250_0), ((HB.out.cell (World.block_lt_of_cell? w _ hw250_1)).trans hw250_1), ((HB.out.cell (World.block_lt_of_cell? w _ hw251_0)).trans hw251_0), ((HB.out.cell (World.block_lt_of_cell? w _ hw251_1)).trans hw251_1), ((HB.out.cell (World.block_lt_of_cell? w _ hw252_0)).trans hw252_0), ((HB.out.cell (World.block_lt_of_cell? w _ hw252_1)).trans hw252_1), ((HB.out.cell (World.block_lt_of_cell? w _ hw252_2)).trans (hw252_2.trans (by first | rfl | rw [Nbq30.out])))⟩ (fun hHeld => ?_)
                     clear hK K
                     refine norm_ (a' := ?_) ?_ ?_
                     rotate_left
                     ·show Act.put _ (some 124) _ = _
                      simp only [put_l, List.set, i64_w, i32_w]
                      rfl
                     refine pz 38 (some 125) ?_ HT_ rfl rfl (by kernel_rfl) (by rfl) ?_ ?_ ?_ ?_
                     rotate_left
                     ·intro w'
                      go_simp
                      with_reducible rfl
                     rotate_left
                     ·simp only [put_l, List.set, i64_w, i32_w]
                      rfl
                     refine pz 39 (some 126) ?_ HT_ rfl rfl (by kernel_rfl) (by rfl) ?_ ?_ ?_ ?_
                     rotate_left
                     ·intro w'
                      go_simp
                      with_reducible rfl
                     rotate_left
                     ·simp only [put_l, List.set, i64_w, i32_w]
                      rfl
                     refine done_ (done_of HT_.out (by kernel_rfl)) ?_
                     have hcz43_0 : w42.cell? ⟨gb240, 0, none⟩ = some (.slice (some ad241) l0_0.length c0_0) := (blk_cell BK240.out 0).trans rfl
                     have hcz43_1 : w42.cell? ⟨gb240, 1, none⟩ = some (.slice (some ad248) l0_1.length c0_1) := (blk_cell BK240.out 1).trans rfl
                     have hcz43_2 : w42.cell? ⟨gb240, 2, none⟩ = some (.slice A0_2 l0_2.length c0_2) := (blk_cell BK240.out 2).trans rfl
                     have hfz43_0 := blk_frozen BK240.out 0
                     have hfz43_1 := blk_frozen BK240.out 1
                     have hfz43_2 := blk_frozen BK240.out 2
                     have p255 : 0 ≤ (x3_2 : Int) := oda
                     have q255 : x3_2 < (l0_1.length : Int) := oda
                     obtain ⟨ad255, e255, hx255_0, hx255_1, hx255_2⟩ := at_T52 HR0_1.out x3_2 p255 q255
                     (try rw [← Nbq30.out] at hx255_2)
                     obtain rfl : ad248 = ad255 := (by injection e255)
                     replace hx255_0 := up_ HB hx255_0
                     replace hx255_1 := up_ HB hx255_1
                     replace hx255_2 := up_ HB hx255_2
                     replace p255 := eq_true p255
                     replace q255 := eq_true q255
                     try go_wp2
                     go_roundg kj17
                     case measure => have := HK1.out; have := HK2.out; have := HJ6.out; have := HJ17.out; omega
                     case rel => exact ⟨(wrap64 (x3_2 + 1)), (wrap64 (x5_2 + ((rd_T52 l0_1 x3_2).f1))), (false), rs, rs, rs, H', ⟨by have := HK1.out; have := HK2.out; have := HJ6.out; have := HJ17.out; omega⟩, ⟨by (with_reducible repeat (first | refine blk_drewN ?_ _ | refine blk_drew ?_ | refine blk_alloc ?_ _)); exact BK240.out⟩, ⟨bw⟩⟩
                    replace c39 := Bool.eq_false_iff.mpr c39
                    subst c39
                    have H1 : (some false) = some r := by rw [if_neg (show ¬ (false = true) by decide)] at H; exact H
                    clear H
                    have H := H1
                    clear H1
                    obtain rfl := Option.some.inj H
                    try go_wp2
                    have n0_ := Aside0.mk (blk_drew BK240.out)
                    have n1_ := Aside0.mk (below_drew1 HB.out)
                    clear BK240
                    clear HB
                    have BK240 := n0_
                    have HB := n1_
                    clear n0_ n1_
                    have p248 : 0 ≤ (x3_2 : Int) := oda
                    have q248 : x3_2 < (l0_1.length : Int) := oda
                    obtain ⟨ad248, e248, hx248_0, hx248_1, hx248_2⟩ := at_T52 HR0_1.out x3_2 p248 q248
                    have hw248_2 := hx248_2
                    have hw248_1 := hx248_1
                    have hw248_0 := hx248_0
                    (try rw [← Nbq30.out] at hx248_2)
                    cases e248
                    replace hx248_0 := up_ HB hx248_0
                    replace hx248_1 := up_ HB hx248_1
                    replace hx248_2 := up_ HB hx248_2
                    replace p248 := eq_true p248
                    replace q248 := eq_true q248
                    have p249 : 0 ≤ (x4_1 : Int) := oda
                    have q249 : x4_1 < (l0_0.length : Int) := oda
                    obtain ⟨ad249, A249_1, c249_1, e249, hx249_0, hx249_1, hl249_1, hi249_1⟩ := at_T42 HR0_0.out x4_1 p249 q249
                    have hw249_1 := hx249_1
                    have hw249_0 := hx249_0
                    obtain rfl : ad241 = ad249 := (by injection e249)
                    replace hx249_0 := up_ HB hx249_0
                    replace hx249_1 := up_ HB hx249_1
                    have HR249_1 := Aside0.mk hi249_1
                    have HC249_1 := Aside0.mk hl249_1
                    clear hi249_1 hl249_1
                    replace p249 := eq_true p249
                    replace q249 := eq_true q249
                    have p250 : 0 ≤ (x4_1 : Int) := oda
                    have q250 : x4_1 < (l0_0.length : Int) := oda
                    obtain ⟨ad250, A250_1, c250_1, e250, hx250_0, hx250_1, hl250_1, hi250_1⟩ := at_T42 HR0_0.out x4_1 p250 q250
                    have hw250_1 := hx250_1
                    have hw250_0 := hx250_0
                    obtain rfl : ad241 = ad250 := (by injection e250)
                    replace hx250_0 := up_ HB hx250_0
                    replace hx250_1 := up_ HB hx250_1
                    have HR250_1 := Aside0.mk hi250_1
                    have HC250_1 := Aside0.mk hl250_1
                    clear hi250_1 hl250_1
                    replace p250 := eq_true p250
                    replace q250 := eq_true q250
                    have ea_ := Option.some.inj (hx249_1.symm.trans hx250_1)
                    injection ea_ with ea_ en_ ec_
                    subst ea_
                    subst ec_
                    clear en_
                    have p251 : 0 ≤ (x4_1 : Int) := oda
                    have q251 : x4_1 < (l0_0.length : Int) := oda
                    obtain ⟨ad251, A251_1, c251_1, e251, hx251_0, hx251_1, hl251_1, hi251_1⟩ := at_T42 HR0_0.out x4_1 p251 q251
                    have hw251_1 := hx251_1
                    have hw251_0 := hx251_0
                    obtain rfl : ad241 = ad251 := (by injection e251)
                    replace hx251_0 := up_ HB hx251_0
                    replace hx251_1 := up_ HB hx251_1
                    have HR251_1 := Aside0.mk hi251_1
                    have HC251_1 := Aside0.mk hl251_1
                    clear hi251_1 hl251_1
                    replace p251 := eq_true p251
                    replace q251 := eq_true q251
                    have ea_ := Option.some.inj (hx249_1.symm.trans hx251_1)
                    injection ea_ with ea_ en_ ec_
                    subst ea_
                    subst ec_
                    clear en_
                    have p252 : 0 ≤ (x3_2 : Int) := oda
                    have q252 : x3_2 < (l0_1.length : Int) := oda
                    obtain ⟨ad252, e252, hx252_0, hx252_1, hx252_2⟩ := at_T52 HR0_1.out x3_2 p252 q252
                    have hw252_2 := hx252_2
                    have hw252_1 := hx252_1
                    have hw252_0 := hx252_0
                    (try rw [← Nbq30.out] at hx252_2)
                    obtain rfl : ad248 = ad252 := (by injection e252)
                    replace hx252_0 := up_ HB hx252_0
                    replace hx252_1 := up_ HB hx252_1
                    replace hx252_2 := up_ HB hx252_2
                    replace p252 := eq_true p252
                    replace q252 := eq_true q252
                    obtain ⟨i045, hi045, _, hsz45, _⟩ := info_parts info5
                    obtain ⟨A45, hcut45, hA45, hC45⟩ := print_mid_of (P := Tryd.prog) (Value.int .u8) 0 33 5 .i64 .i64 Tryd.underlying33 hi045 hsz45 A249_1 c249_1 ((rd_T42 l0_0 x4_1).f1) (ji34) (wrap64 ((ji34) + ((rd_T52 l0_1 x3_2).f1))) (oda) (by first | omega | exact oda) (oda) HC249_1.out
                    have HR253 := Aside0.mk (Kd.C_of_reads (h1 := fun _ => rfl) (hA45 _ (Kd.reads_of_C HR249_1.out)))
                    have HC253 := Aside0.mk hC45
                    clear hA45 hC45 hi045 hsz45
                    refine start_ (n := 40) (S := fun w' => w'.cell? ⟨gb240, 0, none⟩ = some (.slice (some ad241) l0_0.length c0_0) ∧ w'.cell? ⟨gb240, 1, none⟩ = some (.slice (some ad248) l0_1.length c0_1) ∧ w'.cell? ⟨gb240, 2, none⟩ = some (.slice A0_2 l0_2.length c0_2) ∧ w'.cell? (ad248.add ((x3_2).toNat * 3)) = some (.int .i64 ((rd_T52 l0_1 x3_2).f0)) ∧ w'.cell? ⟨(ad248.add ((x3_2).toNat * 3)).block, (ad248.add ((x3_2).toNat * 3)).off + 1, none⟩ = some (.int .i64 ((rd_T52 l0_1 x3_2).f1)) ∧ w'.cell? ⟨(ad248.add ((x3_2).toNat * 3)).block, (ad248.add ((x3_2).toNat * 3)).off + 2, none⟩ = some (.bool true) ∧ w'.cell? (ad241.add ((x4_1).toNat * 2)) = some (.int .i64 ((rd_T42 l0_0 x4_1).f0)) ∧ w'.cell? ⟨(ad241.add ((x4_1).toNat * 2)).block, (ad241.add ((x4_1).toNat * 2)).off + 1, none⟩ = some (.slice A249_1 ((rd_T42 l0_0 x4_1).f1).length c249_1) ∧ w'.cell? (ad241.add ((x4_1).toNat * 2)) = some (.int .i64 ((rd_T42 l0_0 x4_1).f0)) ∧ w'.cell? ⟨(ad241.add ((x4_1).toNat * 2)).block, (ad241.add ((x4_1).toNat * 2)).off + 1, none⟩ = some (.slice A249_1 ((rd_T42 l0_0 x4_1).f1).length c249_1) ∧ w'.cell? (ad241.add ((x4_1).toNat * 2)) = some (.int .i64 ((rd_T42 l0_0 x4_1).f0)) ∧ w'.cell? ⟨(ad241.add ((x4_1).toNat * 2)).block, (ad241.add ((x4_1).toNat * 2)).off + 1, none⟩ = some (.slice A249_1 ((rd_T42 l0_0 x4_1).f1).length c249_1) ∧ w'.cell? (ad248.add ((x3_2).toNat * 3)) = some (.int .i64 ((rd_T52 l0_1 x3_2).f0)) ∧ w'.cell? ⟨(ad248.add ((x3_2).toNat * 3)).block, (ad248.add ((x3_2).toNat * 3)).off + 1, none⟩ = some (.int .i64 ((rd_T52 l0_1 x3_2).f1)) ∧ w'.cell? ⟨(ad248.add ((x3_2).toNat * 3)).block, (ad248.add ((x3_2).toNat * 3)).off + 2, none⟩ = some (.bool (true))) (ds := []) #[false, false, false, false, false, false, false, false, false, false, false, false, false, false, false, false, false, false, false, false, false, false, false, false, false, false, false, false, false, false, false, false, false, false, false, false, false, false, false, false] (by kernel_rfl) rfl rfl ⟨(blk_cell BK240.out 0).trans rfl, (blk_cell BK240.out 1).trans rfl, (blk_cell BK240.out 2).trans rfl, ((HB.out.cell (World.block_lt_of_cell? w _ hw248_0)).trans hw248_0), ((HB.out.cell (World.block_lt_of_cell? w _ hw248_1)).trans hw248_1), ((HB.out.cell (World.block_lt_of_cell? w _ hw248_2)).trans (hw248_2.trans (by first | rfl | rw [Nbq30.out]))), ((HB.out.cell (World.block_lt_of_cell? w _ hw249_0)).trans hw249_0), ((HB.out.cell (World.block_lt_of_cell? w _ hw249_1)).trans hw249_1), ((HB.out.cell (World.block_lt_of_cell? w _ hw250_0)).trans hw250_0), ((HB.out.cell (World.block_lt_of_cell? w _ hw250_1)).trans hw250_1), ((HB.out.cell (World.block_lt_of_cell? w _ hw251_0)).trans hw251_0), ((HB.out.cell (World.block_lt_of_cell? w _ hw251_1)).trans hw251_1), ((HB.out.cell (World.block_lt_of_cell? w _ hw252_0)).trans hw252_0), ((HB.out.cell (World.block_lt_of_cell? w _ hw252_1)).trans hw252_1), ((HB.out.cell (World.block_lt_of_cell? w _ hw252_2)).trans (hw252_2.trans (by first | rfl | rw [Nbq30.out])))⟩ (fun hHeld => ?_); refine with_tabW vesperref14_marksMay.tab13 vesperref14_marksMay.bits13 (fun HT_ HW_ => ?_)
                    generalize wc.drew = w44 at BK240 HB HR249_1 HR250_1 HR251_1 HR253 hx248_0 hx248_1 hx248_2 hx249_0 hx249_1 hx250_0 hx250_1 hx251_0 hx251_1 hx252_0 hx252_1 hx252_2 hHeld ⊢
                    refine pz 0 (some 87) ?_ HT_ rfl rfl (by kernel_rfl) (by rfl) ?_ ?_ ?_ ?_
                    rotate_left
                    ·intro w'
                     go_simp
                     with_reducible rfl
                    rotate_left
                    ·simp only [put_l, List.set, i64_w, i32_w]
                     rfl
                    refine pz 2 (some 89) ?_ HT_ rfl rfl (by kernel_rfl) (by rfl) ?_ ?_ ?_ ?_
                    rotate_left
                    ·intro w'
                     go_simp
                     with_reducible rfl
                    rotate_left
                    ·simp only [put_l, List.set, i64_w, i32_w]
                     rfl
                    refine tz 1 (some 88) ?_ HT_ HW_ rfl rfl (by kernel_rfl) (by rfl) ?_ hHeld ?_ ?_ ?_
                    rotate_left
                    ·rintro w' ⟨s0, s1, s2, s3, s4, s5, s6, s7, s8, s9, s10, s11, s12, s13, s14⟩
                     go_simp
                     with_reducible rfl
                    rotate_left
                    ·simp only [put_l, List.set, i64_w, i32_w]
                     rfl
                    refine pz 3 (some 90) ?_ HT_ rfl rfl (by kernel_rfl) (by rfl) ?_ ?_ ?_ ?_
                    rotate_left
                    ·intro w'
                     go_simp
                     with_reducible rfl
                    rotate_left
                    ·simp only [put_l, List.set, i64_w, i32_w]
                     rfl
                    refine pz 4 (some 91) ?_ HT_ rfl rfl (by kernel_rfl) (by rfl) ?_ ?_ ?_ ?_
                    rotate_left
                    ·intro w'
                     go_simp
                     with_reducible rfl
                    rotate_left
                    ·simp only [put_l, List.set, i64_w, i32_w]
                     rfl
                    refine tz 5 (some 92) ?_ HT_ HW_ rfl rfl (by kernel_rfl) (by rfl) ?_ hHeld ?_ ?_ ?_
                    rotate_left
                    ·rintro w' ⟨s0, s1, s2, s3, s4, s5, s6, s7, s8, s9, s10, s11, s12, s13, s14⟩
                     go_simp
                     with_reducible rfl
                    rotate_left
                    ·simp only [put_l, List.set, i64_w, i32_w]
                     rfl
                    refine pz 6 (some 93) ?_ HT_ rfl rfl (by kernel_rfl) (by rfl) ?_ ?_ ?_ ?_
                    rotate_left
                    ·intro w'
                     go_simp
                     with_reducible rfl
                    rotate_left
                    ·simp only [put_l, List.set, i64_w, i32_w]
                     rfl
                    refine pz 7 (some 94) ?_ HT_ rfl rfl (by kernel_rfl) (by rfl) ?_ ?_ ?_ ?_
                    rotate_left
                    ·intro w'
                     go_simp
                     with_reducible rfl
                    rotate_left
                    ·simp only [put_l, List.set, i64_w, i32_w]
                     rfl
                    refine pz 9 (some 96) ?_ HT_ rfl rfl (by kernel_rfl) (by rfl) ?_ ?_ ?_ ?_
                    rotate_left
                    ·intro w'
                     go_simp
                     with_reducible rfl
                    rotate_left
                    ·simp only [put_l, List.set, i64_w, i32_w]
                     rfl
                    refine pz 13 (some 100) ?_ HT_ rfl rfl (by kernel_rfl) (by rfl) ?_ ?_ ?_ ?_
                    rotate_left
                    ·intro w'
                     go_simp
                     with_reducible rfl
                    rotate_left
                    ·simp only [put_l, List.set, i64_w, i32_w]
                     rfl
                    refine pz 14 (some 101) ?_ HT_ rfl rfl (by kernel_rfl) (by rfl) ?_ ?_ ?_ ?_
                    rotate_left
                    ·intro w'
                     go_simp
                     with_reducible rfl
                    rotate_left
                    ·simp only [put_l, List.set, i64_w, i32_w]
                     rfl
                    refine pz 16 (some 103) ?_ HT_ rfl rfl (by kernel_rfl) (by rfl) ?_ ?_ ?_ ?_
                    rotate_left
                    ·intro w'
                     go_simp
                     with_reducible rfl
                    rotate_left
                    ·simp only [put_l, List.set, i64_w, i32_w]
                     rfl
                    refine pz 21 (some 108) ?_ HT_ rfl rfl (by kernel_rfl) (by rfl) ?_ ?_ ?_ ?_
                    rotate_left
                    ·intro w'
                     go_simp
                     with_reducible rfl
                    rotate_left
                    ·simp only [put_l, List.set, i64_w, i32_w]
                     rfl
                    refine pz 22 (some 109) ?_ HT_ rfl rfl (by kernel_rfl) (by rfl) ?_ ?_ ?_ ?_
                    rotate_left
                    ·intro w'
                     go_simp
                     with_reducible rfl
                    rotate_left
                    ·simp only [put_l, List.set, i64_w, i32_w]
                     rfl
                    refine pz 24 (some 111) ?_ HT_ rfl rfl (by kernel_rfl) (by rfl) ?_ ?_ ?_ ?_
                    rotate_left
                    ·intro w'
                     go_simp
                     with_reducible rfl
                    rotate_left
                    ·simp only [put_l, List.set, i64_w, i32_w]
                     rfl
                    refine pz 29 (some 116) ?_ HT_ rfl rfl (by kernel_rfl) (by rfl) ?_ ?_ ?_ ?_
                    rotate_left
                    ·intro w'
                     go_simp
                     with_reducible rfl
                    rotate_left
                    ·simp only [put_l, List.set, i64_w, i32_w]
                     rfl
                    refine pz 31 (some 118) ?_ HT_ rfl rfl (by kernel_rfl) (by rfl) ?_ ?_ ?_ ?_
                    rotate_left
                    ·intro w'
                     go_simp
                     with_reducible rfl
                    rotate_left
                    ·simp only [put_l, List.set, i64_w, i32_w]
                     rfl
                    refine tz 8 (some 95) ?_ HT_ HW_ rfl rfl (by kernel_rfl) (by rfl) ?_ hHeld ?_ ?_ ?_
                    rotate_left
                    ·rintro w' ⟨s0, s1, s2, s3, s4, s5, s6, s7, s8, s9, s10, s11, s12, s13, s14⟩
                     go_simp
                     with_reducible rfl
                    rotate_left
                    ·simp only [put_l, List.set, i64_w, i32_w]
                     rfl
                    refine pz 10 (some 97) ?_ HT_ rfl rfl (by kernel_rfl) (by rfl) ?_ ?_ ?_ ?_
                    rotate_left
                    ·intro w'
                     go_simp
                     with_reducible rfl
                    rotate_left
                    ·simp only [put_l, List.set, i64_w, i32_w]
                     rfl
                    refine pz 11 (some 98) ?_ HT_ rfl rfl (by kernel_rfl) (by rfl) ?_ ?_ ?_ ?_
                    rotate_left
                    ·intro w'
                     go_simp
                     with_reducible rfl
                    rotate_left
                    ·simp only [put_l, List.set, i64_w, i32_w]
                     rfl
                    refine tz 12 (some 99) ?_ HT_ HW_ rfl rfl (by kernel_rfl) (by rfl) ?_ hHeld ?_ ?_ ?_
                    rotate_left
                    ·rintro w' ⟨s0, s1, s2, s3, s4, s5, s6, s7, s8, s9, s10, s11, s12, s13, s14⟩
                     go_simp
                     with_reducible rfl
                    rotate_left
                    ·simp only [put_l, List.set, i64_w, i32_w]
                     rfl
                    refine tz 15 (some 102) ?_ HT_ HW_ rfl rfl (by kernel_rfl) (by rfl) ?_ hHeld ?_ ?_ ?_
                    rotate_left
                    ·rintro w' ⟨s0, s1, s2, s3, s4, s5, s6, s7, s8, s9, s10, s11, s12, s13, s14⟩
                     go_simp
                     with_reducible rfl
                    rotate_left
                    ·simp only [put_l, List.set, i64_w, i32_w]
                     rfl
                    refine pz 17 (some 104) ?_ HT_ rfl rfl (by kernel_rfl) (by rfl) ?_ ?_ ?_ ?_
                    rotate_left
                    ·intro w'
                     go_simp
                     with_reducible rfl
                    rotate_left
                    ·simp only [put_l, List.set, i64_w, i32_w]
                     rfl
                    refine pz 18 (some 105) ?_ HT_ rfl rfl (by kernel_rfl) (by rfl) ?_ ?_ ?_ ?_
                    rotate_left
                    ·intro w'
                     go_simp
                     with_reducible rfl
                    rotate_left
                    ·simp only [put_l, List.set, i64_w, i32_w]
                     rfl
                    refine tz 19 (some 106) ?_ HT_ HW_ rfl rfl (by kernel_rfl) (by rfl) ?_ hHeld ?_ ?_ ?_
                    rotate_left
                    ·rintro w' ⟨s0, s1, s2, s3, s4, s5, s6, s7, s8, s9, s10, s11, s12, s13, s14⟩
                     go_simp
                     with_reducible rfl
                    rotate_left
                    ·simp only [put_l, List.set, i64_w, i32_w]
                     rfl
                    refine pz 20 (some 107) ?_ HT_ rfl rfl (by kernel_rfl) (by rfl) ?_ ?_ ?_ ?_
                    rotate_left
                    ·intro w'
                     go_simp
                     with_reducible rfl
                    rotate_left
                    ·simp only [put_l, List.set, i64_w, i32_w]
                     rfl
                    refine tz 23 (some 110) ?_ HT_ HW_ rfl rfl (by kernel_rfl) (by rfl) ?_ hHeld ?_ ?_ ?_
                    rotate_left
                    ·rintro w' ⟨s0, s1, s2, s3, s4, s5, s6, s7, s8, s9, s10, s11, s12, s13, s14⟩
                     go_simp
                     with_reducible rfl
                    rotate_left
                    ·simp only [put_l, List.set, i64_w, i32_w]
                     rfl
                    refine pz 25 (some 112) ?_ HT_ rfl rfl (by kernel_rfl) (by rfl) ?_ ?_ ?_ ?_
                    rotate_left
                    ·intro w'
                     go_simp
                     with_reducible rfl
                    rotate_left
                    ·simp only [put_l, List.set, i64_w, i32_w]
                     rfl
                    refine pz 26 (some 113) ?_ HT_ rfl rfl (by kernel_rfl) (by rfl) ?_ ?_ ?_ ?_
                    rotate_left
                    ·intro w'
                     go_simp
                     with_reducible rfl
                    rotate_left
                    ·simp only [put_l, List.set, i64_w, i32_w]
                     rfl
                    refine tz 27 (some 114) ?_ HT_ HW_ rfl rfl (by kernel_rfl) (by rfl) ?_ hHeld ?_ ?_ ?_
                    rotate_left
                    ·rintro w' ⟨s0, s1, s2, s3, s4, s5, s6, s7, s8, s9, s10, s11, s12, s13, s14⟩
                     go_simp
                     with_reducible rfl
                    rotate_left
                    ·simp only [put_l, List.set, i64_w, i32_w]
                     rfl
                    refine pz 28 (some 115) ?_ HT_ rfl rfl (by kernel_rfl) (by rfl) ?_ ?_ ?_ ?_
                    rotate_left
                    ·intro w'
                     go_simp
                     with_reducible rfl
                    rotate_left
                    ·simp only [put_l, List.set, i64_w, i32_w]
                     rfl
                    refine tz 30 (some 117) ?_ HT_ HW_ rfl rfl (by kernel_rfl) (by rfl) ?_ hHeld ?_ ?_ ?_
                    rotate_left
                    ·rintro w' ⟨s0, s1, s2, s3, s4, s5, s6, s7, s8, s9, s10, s11, s12, s13, s14⟩
                     go_simp
                     with_reducible rfl
                    rotate_left
                    ·simp only [put_l, List.set, i64_w, i32_w]
                     rfl
                    refine pz 32 (some 119) ?_ HT_ rfl rfl (by kernel_rfl) (by rfl) ?_ ?_ ?_ ?_
                    rotate_left
                    ·intro w'
                     go_simp
                     with_reducible rfl
                    rotate_left
                    ·simp only [put_l, List.set, i64_w, i32_w]
                     rfl
                    refine pz 33 (some 120) ?_ HT_ rfl rfl (by kernel_rfl) (by rfl) ?_ ?_ ?_ ?_
                    rotate_left
                    ·intro w'
                     go_simp
                     with_reducible rfl
                    rotate_left
                    ·simp only [put_l, List.set, i64_w, i32_w]
                     rfl
                    refine tz 34 (some 121) ?_ HT_ HW_ rfl rfl (by kernel_rfl) (by rfl) ?_ hHeld ?_ ?_ ?_
                    rotate_left
                    ·rintro w' ⟨s0, s1, s2, s3, s4, s5, s6, s7, s8, s9, s10, s11, s12, s13, s14⟩
                     go_simp
                     with_reducible rfl
                    rotate_left
                    ·simp only [put_l, List.set, i64_w, i32_w]
                     rfl
                    refine pz 35 (some 122) ?_ HT_ rfl rfl (by kernel_rfl) (by rfl) ?_ ?_ ?_ ?_
                    rotate_left
                    ·intro w'
                     go_simp
                     with_reducible rfl
                    rotate_left
                    ·simp only [put_l, List.set, i64_w, i32_w]
                     rfl
                    refine pz 36 (some 123) ?_ HT_ rfl rfl (by kernel_rfl) (by rfl) ?_ ?_ ?_ ?_
                    rotate_left
                    ·intro w'
                     go_simp
                     with_reducible rfl
                    rotate_left
                    ·simp only [put_l, List.set, i64_w, i32_w]
                     rfl
                    refine one_ (i := 37) (N := some 124) #[true, true, true, true, true, true, true, true, true, true, true, true, true, true, true, true, true, true, true, true, true, true, true, true, true, true, true, true, true, true, true, true, true, true, true, true, true, true, false, false] rfl rfl (one_of HT_.out (by kernel_rfl)) (by decide) (fun K hK => ?_)
                    refine goes_ Tryd.func28 (by kernel_rfl) rfl #[.slice A45 ((((rd_T42 l0_0 x4_1).f1).take ((wrap64 ((ji34) + ((rd_T52 l0_1 x3_2).f1))) : Int).toNat).drop ((ji34) : Int).toNat).length (c249_1 - (ji34).toNat)] (by rfl) rfl rfl (by (try simp only [List.map_toArray, List.map_cons, List.map_nil]); first | done | (rw [show ((((rd_T42 l0_0 x4_1).f1).take ((wrap64 ((ji34) + ((rd_T52 l0_1 x3_2).f1))) : Int).toNat).drop ((ji34) : Int).toNat).length = ((wrap64 ((ji34) + ((rd_T52 l0_1 x3_2).f1))).toNat - (ji34).toNat) from (by rw [List.length_drop, List.length_take]; have h_ : ((wrap64 ((ji34) + ((rd_T52 l0_1 x3_2).f1))) : Int) ≤ (((rd_T42 l0_0 x4_1).f1).length : Int) := oda; omega)] <;> rfl) | (simp only [hji34]; rfl) | rfl | (simp only [List.length_drop, List.length_take]; rfl)) ?_
                    with_reducible refine (vesperref14_whole.calls kj17 _ _ ((((rd_T42 l0_0 x4_1).f1).take ((wrap64 ((ji34) + ((rd_T52 l0_1 x3_2).f1))) : Int).toNat).drop ((ji34) : Int).toNat) false _ ?side1 ?side2 A38.out).mono ?_
                    (case side1 => repeat (first | exact (Kd.C_below HR253.out HB.out) | (with_reducible refine Kd.C_alloc ?_ _) | (with_reducible refine Kd.C_drewN ?_ _) | (with_reducible refine Kd.C_drew ?_)))
                    (case side2 => exact HC253.out)
                    rintro e w46 ⟨rfl, hb⟩
                    refine ⟨_, rfl, ?_⟩
                    have n0_ := Aside0.mk (blk_below (g := gb240) (o := .cells #[.slice (some ad241) l0_0.length c0_0, .slice (some ad248) l0_1.length c0_1, .slice A0_2 l0_2.length c0_2] 26 (0, 0)) bk hb)
                    have n1_ := Aside0.mk (below_step bw hb)
                    clear BK240
                    clear HB
                    have BK240 := n0_
                    have HB := n1_
                    clear n0_ n1_
                    (try clear hb)
                    (try clear hb2)
                    (try clear hk)
                    (try clear hi)
                    refine hK.out _ _ ⟨(blk_cell BK240.out 0).trans rfl, (blk_cell BK240.out 1).trans rfl, (blk_cell BK240.out 2).trans rfl, ((HB.out.cell (World.block_lt_of_cell? w _ hw248_0)).trans hw248_0), ((HB.out.cell (World.block_lt_of_cell? w _ hw248_1)).trans hw248_1), ((HB.out.cell (World.block_lt_of_cell? w _ hw248_2)).trans (hw248_2.trans (by first | rfl | rw [Nbq30.out]))), ((HB.out.cell (World.block_lt_of_cell? w _ hw249_0)).trans hw249_0), ((HB.out.cell (World.block_lt_of_cell? w _ hw249_1)).trans hw249_1), ((HB.out.cell (World.block_lt_of_cell? w _ hw250_0)).trans hw250_0), ((HB.out.cell (World.block_lt_of_cell? w _ hw250_1)).trans hw250_1), ((HB.out.cell (World.block_lt_of_cell? w _ hw251_0)).trans hw251_0), ((HB.out.cell (World.block_lt_of_cell? w _ hw251_1)).trans hw251_1), ((HB.out.cell (World.block_lt_of_cell? w _ hw252_0)).trans hw252_0), ((HB.out.cell (World.block_lt_of_cell? w _ hw252_1)).trans hw252_1), ((HB.out.cell (World.block_lt_of_cell? w _ hw252_2)).trans (hw252_2.trans (by first | rfl | rw [Nbq30.out])))⟩ (fun hHeld => ?_)
                    clear hK K
                    refine norm_ (a' := ?_) ?_ ?_
                    rotate_left
                    ·show Act.put _ (some 124) _ = _
                     simp only [put_l, List.set, i64_w, i32_w]
                     rfl
                    refine pz 38 (some 125) ?_ HT_ rfl rfl (by kernel_rfl) (by rfl) ?_ ?_ ?_ ?_
                    rotate_left
                    ·intro w'
                     go_simp
                     with_reducible rfl
                    rotate_left
                    ·simp only [put_l, List.set, i64_w, i32_w]
                     rfl
                    refine pz 39 (some 126) ?_ HT_ rfl rfl (by kernel_rfl) (by rfl) ?_ ?_ ?_ ?_
                    rotate_left
                    ·intro w'
                     go_simp
                     with_reducible rfl
                    rotate_left
                    ·simp only [put_l, List.set, i64_w, i32_w]
                     rfl
                    refine done_ (done_of HT_.out (by kernel_rfl)) ?_
                    try go_wp2
                    go_ret
                    exact ⟨by first | rfl | (simp [errW_none, errW_some] <;> rfl) | (simp only [← hji34]; first | rfl | (simp [errW_none, errW_some] <;> rfl)) | (simp [*, errW_none, errW_some] <;> rfl), bw⟩
                   rw [if_neg c37] at H
                   exact absurd H (by simp)
                  rw [if_neg c36] at H
                  exact absurd H (by simp)
                 rw [if_neg c35] at H
                 exact absurd H (by simp)
                rw [if_neg c33] at H
                exact absurd H (by simp)
               rw [if_neg c32] at H
               exact absurd H (by simp)
              replace c31 := Bool.eq_false_iff.mpr c31
              subst c31
              have H1 : (vesperref14_marksMay.l1 kj17 (wrap64 (x3_2 + 1)) x4_1 (wrap64 (x5_2 + ((rd_T52 l0_1 x3_2).f1))) (wrap64 (((rd_T42 l0_0 x4_1).f0) + (((rd_T42 l0_0 x4_1).f1).length : Int))) false l0_0 l0_1 l0_2) = some r := by rw [if_neg (show ¬ (false = true) by decide)] at H; exact H
              clear H
              have H := H1
              clear H1
              have H' := Aside0.mk H
              clear H
              try go_wp2
              have n0_ := Aside0.mk (blk_drew BK240.out)
              have n1_ := Aside0.mk (below_drew1 HB.out)
              clear BK240
              clear HB
              have BK240 := n0_
              have HB := n1_
              clear n0_ n1_
              have p248 : 0 ≤ (x3_2 : Int) := oda
              have q248 : x3_2 < (l0_1.length : Int) := oda
              obtain ⟨ad248, e248, hx248_0, hx248_1, hx248_2⟩ := at_T52 HR0_1.out x3_2 p248 q248
              have hw248_2 := hx248_2
              have hw248_1 := hx248_1
              have hw248_0 := hx248_0
              (try rw [← Nbq30.out] at hx248_2)
              cases e248
              replace hx248_0 := up_ HB hx248_0
              replace hx248_1 := up_ HB hx248_1
              replace hx248_2 := up_ HB hx248_2
              replace p248 := eq_true p248
              replace q248 := eq_true q248
              refine start_ (n := 40) (S := fun w' => w'.cell? ⟨gb240, 0, none⟩ = some (.slice (some ad241) l0_0.length c0_0) ∧ w'.cell? ⟨gb240, 1, none⟩ = some (.slice (some ad248) l0_1.length c0_1) ∧ w'.cell? ⟨gb240, 2, none⟩ = some (.slice A0_2 l0_2.length c0_2) ∧ w'.cell? (ad248.add ((x3_2).toNat * 3)) = some (.int .i64 ((rd_T52 l0_1 x3_2).f0)) ∧ w'.cell? ⟨(ad248.add ((x3_2).toNat * 3)).block, (ad248.add ((x3_2).toNat * 3)).off + 1, none⟩ = some (.int .i64 ((rd_T52 l0_1 x3_2).f1)) ∧ w'.cell? ⟨(ad248.add ((x3_2).toNat * 3)).block, (ad248.add ((x3_2).toNat * 3)).off + 2, none⟩ = some (.bool false)) (ds := []) #[false, false, false, false, false, false, false, false, false, false, false, false, false, false, false, false, false, false, false, false, false, false, false, false, false, false, false, false, false, false, false, false, false, false, false, false, false, false, false, false] (by kernel_rfl) rfl rfl ⟨(blk_cell BK240.out 0).trans rfl, (blk_cell BK240.out 1).trans rfl, (blk_cell BK240.out 2).trans rfl, ((HB.out.cell (World.block_lt_of_cell? w _ hw248_0)).trans hw248_0), ((HB.out.cell (World.block_lt_of_cell? w _ hw248_1)).trans hw248_1), ((HB.out.cell (World.block_lt_of_cell? w _ hw248_2)).trans (hw248_2.trans (by first | rfl | rw [Nbq30.out])))⟩ (fun hHeld => ?_); refine with_tabW vesperref14_marksMay.tab13 vesperref14_marksMay.bits13 (fun HT_ HW_ => ?_)
              generalize wc.drew = w47 at BK240 HB hx248_0 hx248_1 hx248_2 hHeld ⊢
              refine pz 0 (some 87) ?_ HT_ rfl rfl (by kernel_rfl) (by rfl) ?_ ?_ ?_ ?_
              rotate_left
              ·intro w'
               go_simp
               with_reducible rfl
              rotate_left
              ·simp only [put_l, List.set, i64_w, i32_w]
               rfl
              refine pz 2 (some 89) ?_ HT_ rfl rfl (by kernel_rfl) (by rfl) ?_ ?_ ?_ ?_
              rotate_left
              ·intro w'
               go_simp
               with_reducible rfl
              rotate_left
              ·simp only [put_l, List.set, i64_w, i32_w]
               rfl
              refine tz 1 (some 88) ?_ HT_ HW_ rfl rfl (by kernel_rfl) (by rfl) ?_ hHeld ?_ ?_ ?_
              rotate_left
              ·rintro w' ⟨s0, s1, s2, s3, s4, s5⟩
               go_simp
               with_reducible rfl
              rotate_left
              ·simp only [put_l, List.set, i64_w, i32_w]
               rfl
              refine pz 3 (some 90) ?_ HT_ rfl rfl (by kernel_rfl) (by rfl) ?_ ?_ ?_ ?_
              rotate_left
              ·intro w'
               go_simp
               with_reducible rfl
              rotate_left
              ·simp only [put_l, List.set, i64_w, i32_w]
               rfl
              refine pz 4 (some 91) ?_ HT_ rfl rfl (by kernel_rfl) (by rfl) ?_ ?_ ?_ ?_
              rotate_left
              ·intro w'
               go_simp
               with_reducible rfl
              rotate_left
              ·simp only [put_l, List.set, i64_w, i32_w]
               rfl
              refine tz 5 (some 92) ?_ HT_ HW_ rfl rfl (by kernel_rfl) (by rfl) ?_ hHeld ?_ ?_ ?_
              rotate_left
              ·rintro w' ⟨s0, s1, s2, s3, s4, s5⟩
               go_simp
               with_reducible rfl
              rotate_left
              ·simp only [put_l, List.set, i64_w, i32_w]
               rfl
              refine pz 6 (some 93) ?_ HT_ rfl rfl (by kernel_rfl) (by rfl) ?_ ?_ ?_ ?_
              rotate_left
              ·intro w'
               go_simp
               with_reducible rfl
              rotate_left
              ·simp only [put_l, List.set, i64_w, i32_w]
               rfl
              refine pu 7 (some 94) ?_ HT_ rfl rfl (by kernel_rfl) (by rfl) ?_ ?_
              rotate_left
              ·simp only [put_l, List.set, i64_w, i32_w]
               rfl
              refine pu 8 (some 95) ?_ HT_ rfl rfl (by kernel_rfl) (by rfl) ?_ ?_
              rotate_left
              ·simp only [put_l, List.set, i64_w, i32_w]
               rfl
              refine pu 9 (some 96) ?_ HT_ rfl rfl (by kernel_rfl) (by rfl) ?_ ?_
              rotate_left
              ·simp only [put_l, List.set, i64_w, i32_w]
               rfl
              refine pu 10 (some 97) ?_ HT_ rfl rfl (by kernel_rfl) (by rfl) ?_ ?_
              rotate_left
              ·simp only [put_l, List.set, i64_w, i32_w]
               rfl
              refine pu 11 (some 98) ?_ HT_ rfl rfl (by kernel_rfl) (by rfl) ?_ ?_
              rotate_left
              ·simp only [put_l, List.set, i64_w, i32_w]
               rfl
              refine pu 12 (some 99) ?_ HT_ rfl rfl (by kernel_rfl) (by rfl) ?_ ?_
              rotate_left
              ·simp only [put_l, List.set, i64_w, i32_w]
               rfl
              refine pu 13 (some 100) ?_ HT_ rfl rfl (by kernel_rfl) (by rfl) ?_ ?_
              rotate_left
              ·simp only [put_l, List.set, i64_w, i32_w]
               rfl
              refine pu 14 (some 101) ?_ HT_ rfl rfl (by kernel_rfl) (by rfl) ?_ ?_
              rotate_left
              ·simp only [put_l, List.set, i64_w, i32_w]
               rfl
              refine pu 15 (some 102) ?_ HT_ rfl rfl (by kernel_rfl) (by rfl) ?_ ?_
              rotate_left
              ·simp only [put_l, List.set, i64_w, i32_w]
               rfl
              refine pu 16 (some 103) ?_ HT_ rfl rfl (by kernel_rfl) (by rfl) ?_ ?_
              rotate_left
              ·simp only [put_l, List.set, i64_w, i32_w]
               rfl
              refine pu 17 (some 104) ?_ HT_ rfl rfl (by kernel_rfl) (by rfl) ?_ ?_
              rotate_left
              ·simp only [put_l, List.set, i64_w, i32_w]
               rfl
              refine pu 18 (some 105) ?_ HT_ rfl rfl (by kernel_rfl) (by rfl) ?_ ?_
              rotate_left
              ·simp only [put_l, List.set, i64_w, i32_w]
               rfl
              refine pu 19 (some 106) ?_ HT_ rfl rfl (by kernel_rfl) (by rfl) ?_ ?_
              rotate_left
              ·simp only [put_l, List.set, i64_w, i32_w]
               rfl
              refine pu 20 (some 107) ?_ HT_ rfl rfl (by kernel_rfl) (by rfl) ?_ ?_
              rotate_left
              ·simp only [put_l, List.set, i64_w, i32_w]
               rfl
              refine pu 21 (some 108) ?_ HT_ rfl rfl (by kernel_rfl) (by rfl) ?_ ?_
              rotate_left
              ·simp only [put_l, List.set, i64_w, i32_w]
               rfl
              refine pu 22 (some 109) ?_ HT_ rfl rfl (by kernel_rfl) (by rfl) ?_ ?_
              rotate_left
              ·simp only [put_l, List.set, i64_w, i32_w]
               rfl
              refine pu 23 (some 110) ?_ HT_ rfl rfl (by kernel_rfl) (by rfl) ?_ ?_
              rotate_left
              ·simp only [put_l, List.set, i64_w, i32_w]
               rfl
              refine pu 24 (some 111) ?_ HT_ rfl rfl (by kernel_rfl) (by rfl) ?_ ?_
              rotate_left
              ·simp only [put_l, List.set, i64_w, i32_w]
               rfl
              refine pu 25 (some 112) ?_ HT_ rfl rfl (by kernel_rfl) (by rfl) ?_ ?_
              rotate_left
              ·simp only [put_l, List.set, i64_w, i32_w]
               rfl
              refine pu 26 (some 113) ?_ HT_ rfl rfl (by kernel_rfl) (by rfl) ?_ ?_
              rotate_left
              ·simp only [put_l, List.set, i64_w, i32_w]
               rfl
              refine pu 27 (some 114) ?_ HT_ rfl rfl (by kernel_rfl) (by rfl) ?_ ?_
              rotate_left
              ·simp only [put_l, List.set, i64_w, i32_w]
               rfl
              refine pu 28 (some 115) ?_ HT_ rfl rfl (by kernel_rfl) (by rfl) ?_ ?_
              rotate_left
              ·simp only [put_l, List.set, i64_w, i32_w]
               rfl
              refine pu 29 (some 116) ?_ HT_ rfl rfl (by kernel_rfl) (by rfl) ?_ ?_
              rotate_left
              ·simp only [put_l, List.set, i64_w, i32_w]
               rfl
              refine pu 30 (some 117) ?_ HT_ rfl rfl (by kernel_rfl) (by rfl) ?_ ?_
              rotate_left
              ·simp only [put_l, List.set, i64_w, i32_w]
               rfl
              refine pu 31 (some 118) ?_ HT_ rfl rfl (by kernel_rfl) (by rfl) ?_ ?_
              rotate_left
              ·simp only [put_l, List.set, i64_w, i32_w]
               rfl
              refine pu 32 (some 119) ?_ HT_ rfl rfl (by kernel_rfl) (by rfl) ?_ ?_
              rotate_left
              ·simp only [put_l, List.set, i64_w, i32_w]
               rfl
              refine pu 33 (some 120) ?_ HT_ rfl rfl (by kernel_rfl) (by rfl) ?_ ?_
              rotate_left
              ·simp only [put_l, List.set, i64_w, i32_w]
               rfl
              refine pu 34 (some 121) ?_ HT_ rfl rfl (by kernel_rfl) (by rfl) ?_ ?_
              rotate_left
              ·simp only [put_l, List.set, i64_w, i32_w]
               rfl
              refine pu 35 (some 122) ?_ HT_ rfl rfl (by kernel_rfl) (by rfl) ?_ ?_
              rotate_left
              ·simp only [put_l, List.set, i64_w, i32_w]
               rfl
              refine pu 36 (some 123) ?_ HT_ rfl rfl (by kernel_rfl) (by rfl) ?_ ?_
              rotate_left
              ·simp only [put_l, List.set, i64_w, i32_w]
               rfl
              refine pu 37 (some 124) ?_ HT_ rfl rfl (by kernel_rfl) (by rfl) ?_ ?_
              rotate_left
              ·simp only [put_l, List.set, i64_w, i32_w]
               rfl
              refine pu 38 (some 125) ?_ HT_ rfl rfl (by kernel_rfl) (by rfl) ?_ ?_
              rotate_left
              ·simp only [put_l, List.set, i64_w, i32_w]
               rfl
              refine pz 39 (some 126) ?_ HT_ rfl rfl (by kernel_rfl) (by rfl) ?_ ?_ ?_ ?_
              rotate_left
              ·intro w'
               go_simp
               with_reducible rfl
              rotate_left
              ·simp only [put_l, List.set, i64_w, i32_w]
               rfl
              refine done_ (done_of HT_.out (by kernel_rfl)) ?_
              have hcz48_0 : w47.cell? ⟨gb240, 0, none⟩ = some (.slice (some ad241) l0_0.length c0_0) := (blk_cell BK240.out 0).trans rfl
              have hcz48_1 : w47.cell? ⟨gb240, 1, none⟩ = some (.slice (some ad248) l0_1.length c0_1) := (blk_cell BK240.out 1).trans rfl
              have hcz48_2 : w47.cell? ⟨gb240, 2, none⟩ = some (.slice A0_2 l0_2.length c0_2) := (blk_cell BK240.out 2).trans rfl
              have hfz48_0 := blk_frozen BK240.out 0
              have hfz48_1 := blk_frozen BK240.out 1
              have hfz48_2 := blk_frozen BK240.out 2
              have p256 : 0 ≤ (x3_2 : Int) := oda
              have q256 : x3_2 < (l0_1.length : Int) := oda
              obtain ⟨ad256, e256, hx256_0, hx256_1, hx256_2⟩ := at_T52 HR0_1.out x3_2 p256 q256
              (try rw [← Nbq30.out] at hx256_2)
              obtain rfl : ad248 = ad256 := (by injection e256)
              replace hx256_0 := up_ HB hx256_0
              replace hx256_1 := up_ HB hx256_1
              replace hx256_2 := up_ HB hx256_2
              replace p256 := eq_true p256
              replace q256 := eq_true q256
              try go_wp2
              go_roundg kj17
              case measure => have := HK1.out; have := HK2.out; have := HJ6.out; have := HJ17.out; omega
              case rel => exact ⟨(wrap64 (x3_2 + 1)), (wrap64 (x5_2 + ((rd_T52 l0_1 x3_2).f1))), (false), rs, rs, rs, H', ⟨by have := HK1.out; have := HK2.out; have := HJ6.out; have := HJ17.out; omega⟩, ⟨by (with_reducible repeat (first | refine blk_drewN ?_ _ | refine blk_drew ?_ | refine blk_alloc ?_ _)); exact BK240.out⟩, ⟨bw⟩⟩
             rw [if_neg c29] at H
             exact absurd H (by simp)
            rw [if_neg c28] at H
            exact absurd H (by simp)
       rw [if_neg c6] at H
       have c6b0 : decide (x5_2 < (wrap64 (((rd_T42 l0_0 x4_1).f0) + (((rd_T42 l0_0 x4_1).f1).length : Int)))) = false := decide_eq_false c6
       clear c6
       have H' := Aside0.mk H
       clear H
       go_wp2
       go_roundg k2
       case measure => have := HK1.out; have := HK2.out; omega
       case rel => exact ⟨(x3_2), (wrap64 (x4_1 + 1)), rs, rs, H', ⟨by have := HK1.out; have := HK2.out; omega⟩, ⟨by (with_reducible repeat (first | refine blk_drewN ?_ _ | refine blk_drew ?_ | refine blk_alloc ?_ _)); exact BK240.out⟩, ⟨bw⟩⟩
    rw [if_neg c4] at H
    exact absurd H (by simp)
   rw [if_neg c3] at H
   have c3b0 : decide (x4_1 < (l0_0.length : Int)) = false := decide_eq_false c3
   clear c3
   obtain rfl := Option.some.inj H
   have hcz49_0 : wr.cell? ⟨gb240, 0, none⟩ = some (.slice A0_0 l0_0.length c0_0) := (blk_cell BK240.out 0).trans rfl
   have hcz49_1 : wr.cell? ⟨gb240, 1, none⟩ = some (.slice A0_1 l0_1.length c0_1) := (blk_cell BK240.out 1).trans rfl
   have hcz49_2 : wr.cell? ⟨gb240, 2, none⟩ = some (.slice A0_2 l0_2.length c0_2) := (blk_cell BK240.out 2).trans rfl
   have hfz49_0 := blk_frozen BK240.out 0
   have hfz49_1 := blk_frozen BK240.out 1
   have hfz49_2 := blk_frozen BK240.out 2
   go_wp2
   go_ret
   exact ⟨ew, bw⟩

end Go.Proofs.YtbffmfeflcdgbaaDoor.POb
