/- Printed by the kit's print (gprint.py), mended by this session: one world told with its draw. -/
import Derived.Test.YtbffmfeflcdgbaaDoorObG
import Derived.Test.YtbffmfeflcdgbaaDoorPObx0
import Derived.Test.YtbffmfeflcdgbaaDoorPObx3
namespace Go.Proofs.YtbffmfeflcdgbaaDoor.POb
open Go.RowKit Go.Proofs.YtbffmfeflcdgbaaDoorW.PrintWords Go.Proofs.YtbffmfeflcdgbaaDoorW.PrintLast Go.Proofs.YtbffmfeflcdgbaaDoorW.PrintMore
open Go.Proofs.YtbffmfeflcdgbaaDoor.Code (GOk)
attribute [local go_sem] max2_int min2_int max_two min_two max_three min_three max_four min_four   -- for this text's walks alone
set_option linter.unusedVariables false
set_option linter.unusedSimpArgs false

/-! ### code_Decode: function 31 -/
def code_Decode.j0 : Nat → List Int → Int → Bool → ByteArray → Int → Int → Int → ByteArray → Int → Option (ByteArray × Int × Int × Int)
 | 0, _, _, _, _, _, _, _, _, _ => none
 | k + 1, x0, x25, x42, x116000, x116001, x116002, x116003, x117000, x117001 => if x42 = true then (if 1 < (x0.length : Int) then (some (x117000, wrap64 (rd x0 1), x116002, 0)) else (none)) else (if x25 = 6 then (if 1 < (x0.length : Int) then (if 2 < (x0.length : Int) then ((bits_Word.f (rd x0 1) (rd x0 2)).bind fun t122 => (some (x117000, wrap64 (t122), x116002, 0))) else (none)) else (none)) else (some (x117000, x117001, x116002, 0)))
def code_Decode.f (k : Nat) (l0 : List Int) : Option (ByteArray × Int × Int × Int) := if (l0.length : Int) = 0 then (some ((⟨#[]⟩ : ByteArray), 0, 0, 22)) else (if 0 < (l0.length : Int) then ((code_Info.f (rd l0 0)).bind fun bt111 => (if (l0.length : Int) < bt111.2.2.1 then (some ((⟨#[]⟩ : ByteArray), 0, 0, 22)) else (if bt111.2.1 = 2 then (some (bt111.1, wrap64 (Go.bits .and .u8 (rd l0 0) 15), bt111.2.2.1, 0)) else (if bt111.2.1 = 3 then (some (bt111.1, wrap64 (Int.tmod (rd l0 0) 8), bt111.2.2.1, 0)) else (if bt111.2.1 = 4 then (code_Decode.j0 k l0 bt111.2.1 (bt111.2.1 == 4) bt111.1 bt111.2.1 bt111.2.2.1 bt111.2.2.2 bt111.1 0) else (code_Decode.j0 k l0 bt111.2.1 (bt111.2.1 == 5) bt111.1 bt111.2.1 bt111.2.2.1 bt111.2.2.2 bt111.1 0)))))) else (none))
theorem code_Decode.mono_l : ∀ k, (∀ y0 y1 y2 y3 y4 y5 y6 y7 y8, LeO (code_Decode.j0 k y0 y1 y2 y3 y4 y5 y6 y7 y8) (code_Decode.j0 (k + 1) y0 y1 y2 y3 y4 y5 y6 y7 y8))
 | 0 => fun _ _ _ _ _ _ _ _ _ r h => by simp [code_Decode.j0] at h
 | k + 1 => by
  have ih0 := code_Decode.mono_l k
  intro y0 y1 y2 y3 y4 y5 y6 y7 y8
  unfold code_Decode.j0
  repeat' first
  | (with_reducible exact ih0 _ _ _ _ _ _ _ _ _)
  | (with_reducible exact LeO.refl _)
  | (with_reducible exact LeO.none _)
  | (with_reducible refine LeO.ite ?_ ?_)
  | (with_reducible refine LeO.bind ?_ (fun _ => ?_))
  | exact ih0 _ _ _ _ _ _ _ _ _
  | exact LeO.none _
  | refine LeO.ite ?_ ?_
  | refine LeO.bind ?_ (fun _ => ?_)
theorem code_Decode.mono : ∀ a0 k, LeO (code_Decode.f k a0) (code_Decode.f (k + 1) a0) := by
 intro a0 k
 have ih0 := code_Decode.mono_l k
 unfold code_Decode.f
 repeat' first
  | (with_reducible exact ih0 _ _ _ _ _ _ _ _ _)
  | (with_reducible exact LeO.refl _)
  | (with_reducible exact LeO.none _)
  | (with_reducible refine LeO.ite ?_ ?_)
  | (with_reducible refine LeO.bind ?_ (fun _ => ?_))
  | exact ih0 _ _ _ _ _ _ _ _ _
  | exact LeO.none _
  | refine LeO.ite ?_ ?_
  | refine LeO.bind ?_ (fun _ => ?_)
def code_Decode.T16 : Bool × List (List Nat × List Nat) := (true, [([], []), ([0], [0]), ([1], [1]), ([], []), ([3], [3]), ([4], [4]), ([2, 5], [2, 5]), ([6], [6]), ([0, 1, 2, 3, 4, 5, 6, 7], []), ([8, 7, 6, 0, 1, 2, 3, 4, 5, 6, 7], [7, 8])])
def code_Decode.B16 : List Nat := [0, 1, 3, 0, 8, 24, 63, 127, 255, 511]
theorem code_Decode.tab16 : rtab .any (opsOf Tryd.f31 16) = code_Decode.T16 := by kernel_rfl
theorem code_Decode.bits16 : waitsOk code_Decode.T16.2 code_Decode.B16 = true := by kernel_rfl
set_option maxHeartbeats 8000000 in
set_option maxRecDepth 100000 in
theorem code_Decode.calls (k : Nat) (A0 : Option Addr) (c0 : Nat) (l0 : List Int) (r1 : ByteArray) (r2 : Int) (r3 : Int) (r4 : Int) (w : World) (hr0 : Kd.C (Kd.int .u8) w A0 l0.length l0) (hc0 : l0.length ≤ c0) (h : code_Decode.f k l0 = some (r1, r2, r3, r4)) (hG : GOk w := by first | exact HG.out | exact GOk.below HG.out HB.out | exact GOk.below HG.out bw) :
 Calls Tryd.prog 31 #[.slice A0 l0.length c0] w fun e w' => e = .returned (.tuple #[.agg #[.string r1, .int .i64 r2], .int .i64 r3, .int .i64 r4]) ∧ Below w.heap.size w w' := by
 have HG := Aside0.mk hG
 clear hG
 have hu66 := Tryd.underlying66
 have hu74 := Tryd.underlying74
 have HR0 := Aside0.mk hr0
 have HC0 := Aside0.mk hc0
 clear hr0 hc0
 have HB := Aside0.mk (Below.refl w.heap.size w)
 have H : (if (l0.length : Int) = 0 then (some ((⟨#[]⟩ : ByteArray), 0, 0, 22)) else (if 0 < (l0.length : Int) then ((code_Info.f (rd l0 0)).bind fun bt111 => (if (l0.length : Int) < bt111.2.2.1 then (some ((⟨#[]⟩ : ByteArray), 0, 0, 22)) else (if bt111.2.1 = 2 then (some (bt111.1, wrap64 (Go.bits .and .u8 (rd l0 0) 15), bt111.2.2.1, 0)) else (if bt111.2.1 = 3 then (some (bt111.1, wrap64 (Int.tmod (rd l0 0) 8), bt111.2.2.1, 0)) else (if bt111.2.1 = 4 then (code_Decode.j0 k l0 bt111.2.1 (bt111.2.1 == 4) bt111.1 bt111.2.1 bt111.2.2.1 bt111.2.2.2 bt111.1 0) else (code_Decode.j0 k l0 bt111.2.1 (bt111.2.1 == 5) bt111.1 bt111.2.1 bt111.2.2.1 bt111.2.2.2 bt111.1 0)))))) else (none))) = some (r1, r2, r3, r4) := h
 clear h
 by_cases c2 : (l0.length : Int) = 0
 ·rw [if_pos c2] at H
  have c2b0 : ((l0.length : Int) == 0) = true := beq_iff_eq.mpr c2
  have c2b1 : ((l0.length : Int) != 0) = false := bne_eq_false_iff_eq.mpr c2
  clear c2
  simp only [Option.some.injEq, Prod.mk.injEq] at H
  obtain ⟨rfl, rfl, rfl, rfl⟩ := H
  go_enter Tryd.func31, Tryd.ntmps31
  go_wp2_with (first | ((with_reducible refine gate_dst (N := 2) rfl ?_); refine box_event ?hg (N := 2) ?hd (cs := #[.string (⟨#[]⟩ : ByteArray), .int .i64 0]) (t := 66) ?hr ?_; (case hd => rfl); (case hg => rfl); (case hr => first | (go_simp; done) | (go_simp; rfl)); intro gb109 hg w3 hbox hb; have n0_ := Aside0.mk (below_step bw hb); have n1_ := Aside0.mk (hbox); have n2_ := Aside0.mk (bz hg : w.heap.size ≤ gb109); have n3_ := Aside0.mk (bz hg : w.heap.size ≤ gb109); clear HB; have HB := n0_; have BK109 := n1_; have GW109 := n2_; have GE109 := n3_; clear n0_ n1_ n2_ n3_; clear hb hbox hg; have hcz4_0 : w3.cell? ⟨gb109, 0, none⟩ = some (.string (⟨#[]⟩ : ByteArray)) := (blk_cell BK109.out 0).trans rfl; have hcz4_1 : w3.cell? ⟨gb109, 1, none⟩ = some (.int .i64 0) := (blk_cell BK109.out 1).trans rfl; have hfz4_0 := blk_frozen BK109.out 0; have hfz4_1 := blk_frozen BK109.out 1))
  refine bodyPost_ret (results_ctt rfl _ _ gb109 66 #[.string (⟨#[]⟩ : ByteArray), .int .i64 0] (0, 0) _ rfl (by (with_reducible repeat (first | refine blk_drewN ?_ _ | refine blk_drew ?_ | refine blk_alloc ?_ _)); refine blk_put (cs := #[.string (⟨#[]⟩ : ByteArray), .int .i64 0]) ?_ 1 _ rfl; (with_reducible repeat (first | refine blk_drewN ?_ _ | refine blk_drew ?_ | refine blk_alloc ?_ _)); refine blk_put (cs := #[.string (⟨#[]⟩ : ByteArray), .int .i64 0]) ?_ 0 _ rfl; (with_reducible repeat (first | refine blk_drewN ?_ _ | refine blk_drew ?_ | refine blk_alloc ?_ _)); exact BK109.out) Tryd.underlying66 rfl (by kernel_rfl)) rfl ?_
  exact ⟨ew, bw⟩
 rw [if_neg c2] at H
 have c2b0 : ((l0.length : Int) == 0) = false := beq_eq_false_iff_ne.mpr c2
 have c2b1 : ((l0.length : Int) != 0) = true := bne_iff_ne.mpr c2
 have c2b2 : ¬ (l0 = []) := fun h_ => c2 (by rw [h_]; rfl)
 by_cases c5 : 0 < (l0.length : Int)
 ·rw [if_pos c5] at H
  have c5b0 : decide (0 < (l0.length : Int)) = true := decide_eq_true c5
  have c5b1 : decide (0 < l0.length) = true := decide_eq_true (by omega)
  clear c5
  replace H := Option.bind_eq_some_iff.mp H
  obtain ⟨⟨t111, t112, t113, t114⟩, A60, H⟩ := H
  replace H : (if (l0.length : Int) < t113 then (some ((⟨#[]⟩ : ByteArray), 0, 0, 22)) else (if t112 = 2 then (some (t111, wrap64 (Go.bits .and .u8 (rd l0 0) 15), t113, 0)) else (if t112 = 3 then (some (t111, wrap64 (Int.tmod (rd l0 0) 8), t113, 0)) else (if t112 = 4 then (code_Decode.j0 k l0 t112 (t112 == 4) t111 t112 t113 t114 t111 0) else (code_Decode.j0 k l0 t112 (t112 == 5) t111 t112 t113 t114 t111 0))))) = some (r1, r2, r3, r4) := H
  have A6 := Aside0.mk A60
  clear A60
  by_cases c7 : (l0.length : Int) < t113
  ·rw [if_pos c7] at H
   have c7b0 : decide ((l0.length : Int) < t113) = true := decide_eq_true c7
   clear c7
   simp only [Option.some.injEq, Prod.mk.injEq] at H
   obtain ⟨rfl, rfl, rfl, rfl⟩ := H
   go_enter Tryd.func31, Tryd.ntmps31
   go_wp2_with (first | ((with_reducible refine gate_dst (N := 2) rfl ?_); refine box_event ?hg (N := 2) ?hd (cs := #[.string (⟨#[]⟩ : ByteArray), .int .i64 0]) (t := 66) ?hr ?_; (case hd => rfl); (case hg => rfl); (case hr => first | (go_simp; done) | (go_simp; rfl)); intro gb109 hg w8 hbox hb; have n0_ := Aside0.mk (below_step bw hb); have n1_ := Aside0.mk (hbox); have n2_ := Aside0.mk (bz hg : w.heap.size ≤ gb109); have n3_ := Aside0.mk (bz hg : w.heap.size ≤ gb109); clear HB; have HB := n0_; have BK109 := n1_; have GW109 := n2_; have GE109 := n3_; clear n0_ n1_ n2_ n3_; clear hb hbox hg; have p110 : 0 ≤ (0 : Int) := (by omega); have q110 : 0 < (l0.length : Int) := oda; obtain ⟨ad110, e110, hx110_0⟩ := Kd.at_int HR0.out 0 p110 q110; cases e110; have qi110 : (0 < l0.length) = True := eq_true (by omega); (try rw [show ((0 : Int)).toNat = 0 from rfl] at hx110_0); (try rw [Addr.add_zero'] at hx110_0); replace hx110_0 := up_ HB hx110_0; replace p110 := eq_true p110; replace q110 := eq_true q110) | ((with_reducible refine gate_callee (f := 36) rfl ?_); refine goesL_ (some 14) rfl rfl Tryd.func36 (by kernel_rfl) rfl #[.int .u8 (rd l0 0)] rfl sm ?_; (with_reducible refine (code_Info.calls (rd l0 0) t111 t112 t113 t114 _ A6.out).mono ?_); rintro e w9 ⟨rfl, hb⟩; refine ⟨_, rfl, ?_⟩; have n0_ := Aside0.mk (blk_below (g := gb109) (o := .cells #[.string (⟨#[]⟩ : ByteArray), .int .i64 0] 66 (0, 0)) bk hb); have n1_ := Aside0.mk (below_step bw hb); clear BK109; clear HB; have BK109 := n0_; have HB := n1_; clear n0_ n1_; (try clear hb); (try clear hb2); (try clear hk); (try clear hi)) | ((with_reducible refine gate_dst (N := 5) rfl ?_); refine box_event ?hg (N := 5) ?hd (cs := #[.string (⟨#[]⟩ : ByteArray), .int .u8 0, .int .i64 0, .int .i64 0]) (t := 74) ?hr ?_; (case hd => rfl); (case hg => rfl); (case hr => first | (go_simp; done) | (go_simp; rfl)); intro gb115 hg w10 hbox hb; have n0_ := Aside0.mk (blk_below (g := gb109) (o := .cells #[.string (⟨#[]⟩ : ByteArray), .int .i64 0] 66 (0, 0)) bk hb); have n1_ := Aside0.mk (below_step bw hb); have n2_ := Aside0.mk (hbox); have n3_ := Aside0.mk (bz hg : w.heap.size ≤ gb115); have n4_ := Aside0.mk (bz hg : w.heap.size ≤ gb115); have n5_ := Aside0.mk ((by rw [hg]; exact Nat.ne_of_lt (blk_lt (g := gb109) (o := .cells #[.string (⟨#[]⟩ : ByteArray), .int .i64 0] 66 (0, 0)) bk) : gb109 ≠ gb115)); have n6_ := Aside0.mk ((by rw [hg]; exact Nat.ne_of_gt (blk_lt (g := gb109) (o := .cells #[.string (⟨#[]⟩ : ByteArray), .int .i64 0] 66 (0, 0)) bk) : gb115 ≠ gb109)); clear BK109; clear HB; have BK109 := n0_; have HB := n1_; have BK115 := n2_; have GW115 := n3_; have GE115 := n4_; have NB109_115 := n5_; have NB115_109 := n6_; clear n0_ n1_ n2_ n3_ n4_ n5_ n6_; clear hb hbox hg; have hnb11 := NB115_109.out; have hnc11 := NB109_115.out; have hcz12_0 : w10.cell? ⟨gb115, 0, none⟩ = some (.string (⟨#[]⟩ : ByteArray)) := (blk_cell BK115.out 0).trans rfl; have hcz12_1 : w10.cell? ⟨gb115, 1, none⟩ = some (.int .u8 0) := (blk_cell BK115.out 1).trans rfl; have hcz12_2 : w10.cell? ⟨gb115, 2, none⟩ = some (.int .i64 0) := (blk_cell BK115.out 2).trans rfl; have hcz12_3 : w10.cell? ⟨gb115, 3, none⟩ = some (.int .i64 0) := (blk_cell BK115.out 3).trans rfl; have hfz12_0 := blk_frozen BK115.out 0; have hfz12_1 := blk_frozen BK115.out 1; have hfz12_2 := blk_frozen BK115.out 2; have hfz12_3 := blk_frozen BK115.out 3; have hcz13_0 : w10.cell? ⟨gb109, 0, none⟩ = some (.string (⟨#[]⟩ : ByteArray)) := (blk_cell BK109.out 0).trans rfl; have hcz13_1 : w10.cell? ⟨gb109, 1, none⟩ = some (.int .i64 0) := (blk_cell BK109.out 1).trans rfl; have hfz13_0 := blk_frozen BK109.out 0; have hfz13_1 := blk_frozen BK109.out 1))
   refine bodyPost_ret (results_ctt rfl _ _ gb109 66 #[.string (⟨#[]⟩ : ByteArray), .int .i64 0] (0, 0) _ rfl (by (with_reducible repeat (first | refine blk_drewN ?_ _ | refine blk_drew ?_ | refine blk_alloc ?_ _)); refine blk_put (cs := #[.string (⟨#[]⟩ : ByteArray), .int .i64 0]) ?_ 1 _ rfl; (with_reducible repeat (first | refine blk_drewN ?_ _ | refine blk_drew ?_ | refine blk_alloc ?_ _)); refine blk_put (cs := #[.string (⟨#[]⟩ : ByteArray), .int .i64 0]) ?_ 0 _ rfl; (with_reducible repeat (first | refine blk_drewN ?_ _ | refine blk_drew ?_ | refine blk_alloc ?_ _)); refine blk_far ?_ NB109_115.out _; (with_reducible repeat (first | refine blk_drewN ?_ _ | refine blk_drew ?_ | refine blk_alloc ?_ _)); refine blk_far ?_ NB109_115.out _; (with_reducible repeat (first | refine blk_drewN ?_ _ | refine blk_drew ?_ | refine blk_alloc ?_ _)); refine blk_far ?_ NB109_115.out _; (with_reducible repeat (first | refine blk_drewN ?_ _ | refine blk_drew ?_ | refine blk_alloc ?_ _)); refine blk_far ?_ NB109_115.out _; (with_reducible repeat (first | refine blk_drewN ?_ _ | refine blk_drew ?_ | refine blk_alloc ?_ _)); exact BK109.out) Tryd.underlying66 rfl (by kernel_rfl)) rfl ?_
   exact ⟨ew, bw⟩
  rw [if_neg c7] at H
  have c7b0 : decide ((l0.length : Int) < t113) = false := decide_eq_false c7
  clear c7
  by_cases c14 : t112 = 2
  ·rw [if_pos c14] at H
   have c14b0 : (t112 == 2) = true := beq_iff_eq.mpr c14
   have c14b1 : (t112 != 2) = false := bne_eq_false_iff_eq.mpr c14
   clear c14
   simp only [Option.some.injEq, Prod.mk.injEq] at H
   obtain ⟨rfl, rfl, rfl, rfl⟩ := H
   go_enter Tryd.func31, Tryd.ntmps31
   try go_wp2_with (first | ((with_reducible refine gate_dst (N := 2) rfl ?_); refine box_event ?hg (N := 2) ?hd (cs := #[.string (⟨#[]⟩ : ByteArray), .int .i64 0]) (t := 66) ?hr ?_; (case hd => rfl); (case hg => rfl); (case hr => first | (go_simp; done) | (go_simp; rfl)); intro gb109 hg w15 hbox hb; have n0_ := Aside0.mk (below_step bw hb); have n1_ := Aside0.mk (hbox); have n2_ := Aside0.mk (bz hg : w.heap.size ≤ gb109); have n3_ := Aside0.mk (bz hg : w.heap.size ≤ gb109); clear HB; have HB := n0_; have BK109 := n1_; have GW109 := n2_; have GE109 := n3_; clear n0_ n1_ n2_ n3_; clear hb hbox hg; have p110 : 0 ≤ (0 : Int) := (by omega); have q110 : 0 < (l0.length : Int) := oda; obtain ⟨ad110, e110, hx110_0⟩ := Kd.at_int HR0.out 0 p110 q110; cases e110; have qi110 : (0 < l0.length) = True := eq_true (by omega); (try rw [show ((0 : Int)).toNat = 0 from rfl] at hx110_0); (try rw [Addr.add_zero'] at hx110_0); replace hx110_0 := up_ HB hx110_0; replace p110 := eq_true p110; replace q110 := eq_true q110) | ((with_reducible refine gate_callee (f := 36) rfl ?_); refine goesL_ (some 14) rfl rfl Tryd.func36 (by kernel_rfl) rfl #[.int .u8 (rd l0 0)] rfl sm ?_; (with_reducible refine (code_Info.calls (rd l0 0) t111 t112 t113 t114 _ A6.out).mono ?_); rintro e w16 ⟨rfl, hb⟩; refine ⟨_, rfl, ?_⟩; have n0_ := Aside0.mk (blk_below (g := gb109) (o := .cells #[.string (⟨#[]⟩ : ByteArray), .int .i64 0] 66 (0, 0)) bk hb); have n1_ := Aside0.mk (below_step bw hb); clear BK109; clear HB; have BK109 := n0_; have HB := n1_; clear n0_ n1_; (try clear hb); (try clear hb2); (try clear hk); (try clear hi)) | ((with_reducible refine gate_dst (N := 5) rfl ?_); refine box_event ?hg (N := 5) ?hd (cs := #[.string (⟨#[]⟩ : ByteArray), .int .u8 0, .int .i64 0, .int .i64 0]) (t := 74) ?hr ?_; (case hd => rfl); (case hg => rfl); (case hr => first | (go_simp; done) | (go_simp; rfl)); intro gb115 hg w17 hbox hb; have n0_ := Aside0.mk (blk_below (g := gb109) (o := .cells #[.string (⟨#[]⟩ : ByteArray), .int .i64 0] 66 (0, 0)) bk hb); have n1_ := Aside0.mk (below_step bw hb); have n2_ := Aside0.mk (hbox); have n3_ := Aside0.mk (bz hg : w.heap.size ≤ gb115); have n4_ := Aside0.mk (bz hg : w.heap.size ≤ gb115); have n5_ := Aside0.mk ((by rw [hg]; exact Nat.ne_of_lt (blk_lt (g := gb109) (o := .cells #[.string (⟨#[]⟩ : ByteArray), .int .i64 0] 66 (0, 0)) bk) : gb109 ≠ gb115)); have n6_ := Aside0.mk ((by rw [hg]; exact Nat.ne_of_gt (blk_lt (g := gb109) (o := .cells #[.string (⟨#[]⟩ : ByteArray), .int .i64 0] 66 (0, 0)) bk) : gb115 ≠ gb109)); clear BK109; clear HB; have BK109 := n0_; have HB := n1_; have BK115 := n2_; have GW115 := n3_; have GE115 := n4_; have NB109_115 := n5_; have NB115_109 := n6_; clear n0_ n1_ n2_ n3_ n4_ n5_ n6_; clear hb hbox hg; have hnb18 := NB115_109.out; have hnc18 := NB109_115.out; have hcz19_0 : w17.cell? ⟨gb115, 0, none⟩ = some (.string (⟨#[]⟩ : ByteArray)) := (blk_cell BK115.out 0).trans rfl; have hcz19_1 : w17.cell? ⟨gb115, 1, none⟩ = some (.int .u8 0) := (blk_cell BK115.out 1).trans rfl; have hcz19_2 : w17.cell? ⟨gb115, 2, none⟩ = some (.int .i64 0) := (blk_cell BK115.out 2).trans rfl; have hcz19_3 : w17.cell? ⟨gb115, 3, none⟩ = some (.int .i64 0) := (blk_cell BK115.out 3).trans rfl; have hfz19_0 := blk_frozen BK115.out 0; have hfz19_1 := blk_frozen BK115.out 1; have hfz19_2 := blk_frozen BK115.out 2; have hfz19_3 := blk_frozen BK115.out 3) | ((with_reducible refine gate_dst (N := 6) rfl ?_); refine box_event ?hg (N := 6) ?hd (cs := #[.string (⟨#[]⟩ : ByteArray), .int .i64 0]) (t := 66) ?hr ?_; (case hd => rfl); (case hg => rfl); (case hr => first | (go_simp; done) | (go_simp; rfl)); intro gb116 hg w20 hbox hb; have n0_ := Aside0.mk (blk_below (g := gb109) (o := .cells #[.string (⟨#[]⟩ : ByteArray), .int .i64 0] 66 (0, 0)) (by (with_reducible repeat (first | refine blk_drewN ?_ _ | refine blk_drew ?_ | refine blk_alloc ?_ _)); refine blk_far ?_ NB109_115.out _; (with_reducible repeat (first | refine blk_drewN ?_ _ | refine blk_drew ?_ | refine blk_alloc ?_ _)); refine blk_far ?_ NB109_115.out _; (with_reducible repeat (first | refine blk_drewN ?_ _ | refine blk_drew ?_ | refine blk_alloc ?_ _)); refine blk_far ?_ NB109_115.out _; (with_reducible repeat (first | refine blk_drewN ?_ _ | refine blk_drew ?_ | refine blk_alloc ?_ _)); refine blk_far ?_ NB109_115.out _; (with_reducible repeat (first | refine blk_drewN ?_ _ | refine blk_drew ?_ | refine blk_alloc ?_ _)); exact BK109.out) hb); have n1_ := Aside0.mk (blk_below (g := gb115) (o := .cells #[.string t111, .int .u8 t112, .int .i64 t113, .int .i64 t114] 74 (0, 0)) (by (with_reducible repeat (first | refine blk_drewN ?_ _ | refine blk_drew ?_ | refine blk_alloc ?_ _)); refine blk_put (cs := #[.string t111, .int .u8 t112, .int .i64 t113, .int .i64 0]) ?_ 3 _ rfl; (with_reducible repeat (first | refine blk_drewN ?_ _ | refine blk_drew ?_ | refine blk_alloc ?_ _)); refine blk_put (cs := #[.string t111, .int .u8 t112, .int .i64 0, .int .i64 0]) ?_ 2 _ rfl; (with_reducible repeat (first | refine blk_drewN ?_ _ | refine blk_drew ?_ | refine blk_alloc ?_ _)); refine blk_put (cs := #[.string t111, .int .u8 0, .int .i64 0, .int .i64 0]) ?_ 1 _ rfl; (with_reducible repeat (first | refine blk_drewN ?_ _ | refine blk_drew ?_ | refine blk_alloc ?_ _)); refine blk_put (cs := #[.string (⟨#[]⟩ : ByteArray), .int .u8 0, .int .i64 0, .int .i64 0]) ?_ 0 _ rfl; (with_reducible repeat (first | refine blk_drewN ?_ _ | refine blk_drew ?_ | refine blk_alloc ?_ _)); exact BK115.out) hb); have n2_ := Aside0.mk (below_step bw hb); have n3_ := Aside0.mk (hbox); have n4_ := Aside0.mk (bz hg : w.heap.size ≤ gb116); have n5_ := Aside0.mk (bz hg : w.heap.size ≤ gb116); have n6_ := Aside0.mk ((by rw [hg]; exact Nat.ne_of_lt (blk_lt (g := gb109) (o := .cells #[.string (⟨#[]⟩ : ByteArray), .int .i64 0] 66 (0, 0)) (by (with_reducible repeat (first | refine blk_drewN ?_ _ | refine blk_drew ?_ | refine blk_alloc ?_ _)); refine blk_far ?_ NB109_115.out _; (with_reducible repeat (first | refine blk_drewN ?_ _ | refine blk_drew ?_ | refine blk_alloc ?_ _)); refine blk_far ?_ NB109_115.out _; (with_reducible repeat (first | refine blk_drewN ?_ _ | refine blk_drew ?_ | refine blk_alloc ?_ _)); refine blk_far ?_ NB109_115.out _; (with_reducible repeat (first | refine blk_drewN ?_ _ | refine blk_drew ?_ | refine blk_alloc ?_ _)); refine blk_far ?_ NB109_115.out _; (with_reducible repeat (first | refine blk_drewN ?_ _ | refine blk_drew ?_ | refine blk_alloc ?_ _)); exact BK109.out)) : gb109 ≠ gb116)); have n7_ := Aside0.mk ((by rw [hg]; exact Nat.ne_of_gt (blk_lt (g := gb109) (o := .cells #[.string (⟨#[]⟩ : ByteArray), .int .i64 0] 66 (0, 0)) (by (with_reducible repeat (first | refine blk_drewN ?_ _ | refine blk_drew ?_ | refine blk_alloc ?_ _)); refine blk_far ?_ NB109_115.out _; (with_reducible repeat (first | refine blk_drewN ?_ _ | refine blk_drew ?_ | refine blk_alloc ?_ _)); refine blk_far ?_ NB109_115.out _; (with_reducible repeat (first | refine blk_drewN ?_ _ | refine blk_drew ?_ | refine blk_alloc ?_ _)); refine blk_far ?_ NB109_115.out _; (with_reducible repeat (first | refine blk_drewN ?_ _ | refine blk_drew ?_ | refine blk_alloc ?_ _)); refine blk_far ?_ NB109_115.out _; (with_reducible repeat (first | refine blk_drewN ?_ _ | refine blk_drew ?_ | refine blk_alloc ?_ _)); exact BK109.out)) : gb116 ≠ gb109)); have n8_ := Aside0.mk ((by rw [hg]; exact Nat.ne_of_lt (blk_lt (g := gb115) (o := .cells #[.string t111, .int .u8 t112, .int .i64 t113, .int .i64 t114] 74 (0, 0)) (by (with_reducible repeat (first | refine blk_drewN ?_ _ | refine blk_drew ?_ | refine blk_alloc ?_ _)); refine blk_put (cs := #[.string t111, .int .u8 t112, .int .i64 t113, .int .i64 0]) ?_ 3 _ rfl; (with_reducible repeat (first | refine blk_drewN ?_ _ | refine blk_drew ?_ | refine blk_alloc ?_ _)); refine blk_put (cs := #[.string t111, .int .u8 t112, .int .i64 0, .int .i64 0]) ?_ 2 _ rfl; (with_reducible repeat (first | refine blk_drewN ?_ _ | refine blk_drew ?_ | refine blk_alloc ?_ _)); refine blk_put (cs := #[.string t111, .int .u8 0, .int .i64 0, .int .i64 0]) ?_ 1 _ rfl; (with_reducible repeat (first | refine blk_drewN ?_ _ | refine blk_drew ?_ | refine blk_alloc ?_ _)); refine blk_put (cs := #[.string (⟨#[]⟩ : ByteArray), .int .u8 0, .int .i64 0, .int .i64 0]) ?_ 0 _ rfl; (with_reducible repeat (first | refine blk_drewN ?_ _ | refine blk_drew ?_ | refine blk_alloc ?_ _)); exact BK115.out)) : gb115 ≠ gb116)); have n9_ := Aside0.mk ((by rw [hg]; exact Nat.ne_of_gt (blk_lt (g := gb115) (o := .cells #[.string t111, .int .u8 t112, .int .i64 t113, .int .i64 t114] 74 (0, 0)) (by (with_reducible repeat (first | refine blk_drewN ?_ _ | refine blk_drew ?_ | refine blk_alloc ?_ _)); refine blk_put (cs := #[.string t111, .int .u8 t112, .int .i64 t113, .int .i64 0]) ?_ 3 _ rfl; (with_reducible repeat (first | refine blk_drewN ?_ _ | refine blk_drew ?_ | refine blk_alloc ?_ _)); refine blk_put (cs := #[.string t111, .int .u8 t112, .int .i64 0, .int .i64 0]) ?_ 2 _ rfl; (with_reducible repeat (first | refine blk_drewN ?_ _ | refine blk_drew ?_ | refine blk_alloc ?_ _)); refine blk_put (cs := #[.string t111, .int .u8 0, .int .i64 0, .int .i64 0]) ?_ 1 _ rfl; (with_reducible repeat (first | refine blk_drewN ?_ _ | refine blk_drew ?_ | refine blk_alloc ?_ _)); refine blk_put (cs := #[.string (⟨#[]⟩ : ByteArray), .int .u8 0, .int .i64 0, .int .i64 0]) ?_ 0 _ rfl; (with_reducible repeat (first | refine blk_drewN ?_ _ | refine blk_drew ?_ | refine blk_alloc ?_ _)); exact BK115.out)) : gb116 ≠ gb115)); clear BK109; clear BK115; clear HB; have BK109 := n0_; have BK115 := n1_; have HB := n2_; have BK116 := n3_; have GW116 := n4_; have GE116 := n5_; have NB109_116 := n6_; have NB116_109 := n7_; have NB115_116 := n8_; have NB116_115 := n9_; clear n0_ n1_ n2_ n3_ n4_ n5_ n6_ n7_ n8_ n9_; clear hb hbox hg; have hnb21 := NB116_109.out; have hnc21 := NB109_116.out; have hnb22 := NB116_115.out; have hnc22 := NB115_116.out; have hcz23_0 : w20.cell? ⟨gb116, 0, none⟩ = some (.string (⟨#[]⟩ : ByteArray)) := (blk_cell BK116.out 0).trans rfl; have hcz23_1 : w20.cell? ⟨gb116, 1, none⟩ = some (.int .i64 0) := (blk_cell BK116.out 1).trans rfl; have hfz23_0 := blk_frozen BK116.out 0; have hfz23_1 := blk_frozen BK116.out 1; have hcz24_0 : w20.cell? ⟨gb115, 0, none⟩ = some (.string t111) := (blk_cell BK115.out 0).trans rfl; have hcz24_1 : w20.cell? ⟨gb115, 1, none⟩ = some (.int .u8 t112) := (blk_cell BK115.out 1).trans rfl; have hcz24_2 : w20.cell? ⟨gb115, 2, none⟩ = some (.int .i64 t113) := (blk_cell BK115.out 2).trans rfl; have hcz24_3 : w20.cell? ⟨gb115, 3, none⟩ = some (.int .i64 t114) := (blk_cell BK115.out 3).trans rfl; have hfz24_0 := blk_frozen BK115.out 0; have hfz24_1 := blk_frozen BK115.out 1; have hfz24_2 := blk_frozen BK115.out 2; have hfz24_3 := blk_frozen BK115.out 3; have p117 : 0 ≤ (0 : Int) := (by omega); have q117 : 0 < (l0.length : Int) := oda; obtain ⟨ad117, e117, hx117_0⟩ := Kd.at_int HR0.out 0 p117 q117; obtain rfl : ad110 = ad117 := (by injection e117); have qi117 : (0 < l0.length) = True := eq_true (by omega); (try rw [show ((0 : Int)).toNat = 0 from rfl] at hx117_0); (try rw [Addr.add_zero'] at hx117_0); have hn117_0 : ad110.block ≠ gb116 := Nat.ne_of_lt (Nat.lt_of_lt_of_le (by have := World.block_lt_of_cell? _ _ hx117_0; first | rwa [add_block] at this | exact this) GW116.out); have hn117_1 : ad110.block ≠ gb116 := Nat.ne_of_lt (Nat.lt_of_lt_of_le (by have := World.block_lt_of_cell? _ _ hx117_0; first | rwa [add_block] at this | exact this) GW116.out); replace hx117_0 := up_ HB hx117_0; replace hx117_0 := (cell_far (p := ⟨gb116, 0, none⟩) (by first | (rw [add_block]; exact hn117_0) | (show (Addr.add _ _).block ≠ _; rw [add_block]; exact hn117_0) | exact hn117_0) (.string t111)).trans hx117_0; replace hx117_0 := (cell_far (p := ⟨gb116, 1, none⟩) (by first | (rw [add_block]; exact hn117_1) | (show (Addr.add _ _).block ≠ _; rw [add_block]; exact hn117_1) | exact hn117_1) (.int .i64 0)).trans hx117_0; clear hn117_0; clear hn117_1; replace p117 := eq_true p117; replace q117 := eq_true q117))
   have n0_ : Aside0 ((((w20.setCell ⟨gb116, 0, none⟩ (.string t111)).setCell ⟨gb116, 1, none⟩ (.int .i64 0)).setCell ⟨gb116, 1, none⟩ (.int .i64 (wrap64 (Go.bits .and .u8 (rd l0 0) 15)))).heap[gb109]? = some (.cells #[.string (⟨#[]⟩ : ByteArray), .int .i64 0] 66 (0, 0))) := ⟨by (with_reducible repeat (first | refine blk_drewN ?_ _ | refine blk_drew ?_ | refine blk_alloc ?_ _)); refine blk_far ?_ NB109_116.out _; (with_reducible repeat (first | refine blk_drewN ?_ _ | refine blk_drew ?_ | refine blk_alloc ?_ _)); refine blk_far ?_ NB109_116.out _; (with_reducible repeat (first | refine blk_drewN ?_ _ | refine blk_drew ?_ | refine blk_alloc ?_ _)); refine blk_far ?_ NB109_116.out _; (with_reducible repeat (first | refine blk_drewN ?_ _ | refine blk_drew ?_ | refine blk_alloc ?_ _)); exact BK109.out⟩
   have n1_ : Aside0 ((((w20.setCell ⟨gb116, 0, none⟩ (.string t111)).setCell ⟨gb116, 1, none⟩ (.int .i64 0)).setCell ⟨gb116, 1, none⟩ (.int .i64 (wrap64 (Go.bits .and .u8 (rd l0 0) 15)))).heap[gb115]? = some (.cells #[.string t111, .int .u8 t112, .int .i64 t113, .int .i64 t114] 74 (0, 0))) := ⟨by (with_reducible repeat (first | refine blk_drewN ?_ _ | refine blk_drew ?_ | refine blk_alloc ?_ _)); refine blk_far ?_ NB115_116.out _; (with_reducible repeat (first | refine blk_drewN ?_ _ | refine blk_drew ?_ | refine blk_alloc ?_ _)); refine blk_far ?_ NB115_116.out _; (with_reducible repeat (first | refine blk_drewN ?_ _ | refine blk_drew ?_ | refine blk_alloc ?_ _)); refine blk_far ?_ NB115_116.out _; (with_reducible repeat (first | refine blk_drewN ?_ _ | refine blk_drew ?_ | refine blk_alloc ?_ _)); exact BK115.out⟩
   have n2_ : Aside0 ((((w20.setCell ⟨gb116, 0, none⟩ (.string t111)).setCell ⟨gb116, 1, none⟩ (.int .i64 0)).setCell ⟨gb116, 1, none⟩ (.int .i64 (wrap64 (Go.bits .and .u8 (rd l0 0) 15)))).heap[gb116]? = some (.cells #[.string t111, .int .i64 (wrap64 (Go.bits .and .u8 (rd l0 0) 15))] 66 (0, 0))) := ⟨by (with_reducible repeat (first | refine blk_drewN ?_ _ | refine blk_drew ?_ | refine blk_alloc ?_ _)); refine blk_put (cs := #[.string t111, .int .i64 0]) ?_ 1 _ rfl; (with_reducible repeat (first | refine blk_drewN ?_ _ | refine blk_drew ?_ | refine blk_alloc ?_ _)); refine blk_put (cs := #[.string t111, .int .i64 0]) ?_ 1 _ rfl; (with_reducible repeat (first | refine blk_drewN ?_ _ | refine blk_drew ?_ | refine blk_alloc ?_ _)); refine blk_put (cs := #[.string (⟨#[]⟩ : ByteArray), .int .i64 0]) ?_ 0 _ rfl; (with_reducible repeat (first | refine blk_drewN ?_ _ | refine blk_drew ?_ | refine blk_alloc ?_ _)); exact BK116.out⟩
   have n3_ : Aside0 (Below w.heap.size w (((w20.setCell ⟨gb116, 0, none⟩ (.string t111)).setCell ⟨gb116, 1, none⟩ (.int .i64 0)).setCell ⟨gb116, 1, none⟩ (.int .i64 (wrap64 (Go.bits .and .u8 (rd l0 0) 15))))) := ⟨bw⟩
   (try clear BK109)
   (try clear BK115)
   (try clear BK116)
   (try clear HB)
   generalize (((w20.setCell ⟨gb116, 0, none⟩ (.string t111)).setCell ⟨gb116, 1, none⟩ (.int .i64 0)).setCell ⟨gb116, 1, none⟩ (.int .i64 (wrap64 (Go.bits .and .u8 (rd l0 0) 15)))) = w25 at n0_ n1_ n2_ n3_ ⊢
   have BK109 := n0_
   have BK115 := n1_
   have BK116 := n2_
   have HB := n3_
   clear n0_ n1_ n2_ n3_
   have n0_ := Aside0.mk (blk_drew BK109.out)
   have n1_ := Aside0.mk (blk_drew BK115.out)
   have n2_ := Aside0.mk (blk_drew BK116.out)
   have n3_ := Aside0.mk (below_drew1 HB.out)
   clear BK109
   clear BK115
   clear BK116
   clear HB
   have BK109 := n0_
   have BK115 := n1_
   have BK116 := n2_
   have HB := n3_
   clear n0_ n1_ n2_ n3_
   refine start_ (n := 6) (S := fun w' => w'.cell? ⟨gb116, 0, none⟩ = some (.string t111) ∧ w'.cell? ⟨gb116, 1, none⟩ = some (.int .i64 (wrap64 (Go.bits .and .u8 (rd l0 0) 15))) ∧ w'.cell? ⟨gb115, 0, none⟩ = some (.string t111) ∧ w'.cell? ⟨gb115, 1, none⟩ = some (.int .u8 t112) ∧ w'.cell? ⟨gb115, 2, none⟩ = some (.int .i64 t113) ∧ w'.cell? ⟨gb115, 3, none⟩ = some (.int .i64 t114)) (ds := []) #[false, false, false, false, false, false] (by kernel_rfl) rfl rfl ⟨(blk_cell BK116.out 0).trans rfl, (blk_cell BK116.out 1).trans rfl, (blk_cell BK115.out 0).trans rfl, (blk_cell BK115.out 1).trans rfl, (blk_cell BK115.out 2).trans rfl, (blk_cell BK115.out 3).trans rfl⟩ (fun hHeld => ?_)
   generalize w25.drew = w26 at BK109 BK115 BK116 HB hHeld ⊢
   refine pure_ (i := 1) (N := some 62) (v := ?_) (a' := ?_) #[false, true, false, false, false, false] rfl rfl (by kernel_rfl) (fun _ _ _ h => h) (Or.inl ⟨by rfl, ?_⟩) ?_ ?_
   rotate_left
   ·intro w'
    go_simp
    with_reducible rfl
   rotate_left
   ·simp only [put_l, List.set, i64_w, i32_w]
    rfl
   refine take_ (i := 0) (N := some 61) (v := ?_) (a' := ?_) #[true, true, false, false, false, false] rfl rfl (by kernel_rfl) (fun _ _ _ h => h) (Or.inl ⟨by rfl, ?_⟩) hHeld ?_ ?_
   rotate_left
   ·rintro w' ⟨s0, s1, s2, s3, s4, s5⟩
    go_simp
    with_reducible rfl
   rotate_left
   ·simp only [put_l, List.set, i64_w, i32_w]
    rfl
   refine take_ (i := 2) (N := some 63) (v := ?_) (a' := ?_) #[true, true, true, false, false, false] rfl rfl (by kernel_rfl) (fun _ _ _ h => h) (Or.inl ⟨by rfl, ?_⟩) hHeld ?_ ?_
   rotate_left
   ·rintro w' ⟨s0, s1, s2, s3, s4, s5⟩
    go_simp
    with_reducible rfl
   rotate_left
   ·simp only [put_l, List.set, i64_w, i32_w]
    rfl
   refine one_ (i := 3) (N := none) #[true, true, true, true, false, false] rfl rfl (by kernel_rfl) (by decide) (fun K hK => ?_)
   have hs27 : w26.cell? ⟨gb109, 0, none⟩ = some (.string (⟨#[]⟩ : ByteArray)) := (blk_cell BK109.out 0).trans rfl
   have hfs27 := blk_frozen BK109.out 0
   have hns27_1 := NB115_109.out
   have hns27_2 := NB116_109.out
   have hms27_1 := NB109_115.out
   have hms27_2 := NB109_116.out
   have hs28 : w26.cell? ⟨gb109, 1, none⟩ = some (.int .i64 0) := (blk_cell BK109.out 1).trans rfl
   have hfs28 := blk_frozen BK109.out 1
   have hns28_1 := NB115_109.out
   have hns28_2 := NB116_109.out
   have hms28_1 := NB109_115.out
   have hms28_2 := NB109_116.out
   refine skip_ (w1 := ?_) (by rfl) rfl ?_ ?_
   rotate_left
   ·go_simp
    rfl
   refine hK.out _ _ ⟨((cell_far (p := ⟨gb109, _, none⟩) NB116_109.out _).trans (((cell_far (p := ⟨gb109, _, none⟩) NB116_109.out _).trans (hHeld.1)))), ((cell_far (p := ⟨gb109, _, none⟩) NB116_109.out _).trans (((cell_far (p := ⟨gb109, _, none⟩) NB116_109.out _).trans (hHeld.2.1)))), ((cell_far (p := ⟨gb109, _, none⟩) NB115_109.out _).trans (((cell_far (p := ⟨gb109, _, none⟩) NB115_109.out _).trans (hHeld.2.2.1)))), ((cell_far (p := ⟨gb109, _, none⟩) NB115_109.out _).trans (((cell_far (p := ⟨gb109, _, none⟩) NB115_109.out _).trans (hHeld.2.2.2.1)))), ((cell_far (p := ⟨gb109, _, none⟩) NB115_109.out _).trans (((cell_far (p := ⟨gb109, _, none⟩) NB115_109.out _).trans (hHeld.2.2.2.2.1)))), ((cell_far (p := ⟨gb109, _, none⟩) NB115_109.out _).trans (((cell_far (p := ⟨gb109, _, none⟩) NB115_109.out _).trans (hHeld.2.2.2.2.2))))⟩ (fun hHeld => ?_)
   clear hK K
   refine pure_ (i := 4) (N := some 3) (v := ?_) (a' := ?_) #[true, true, true, true, true, false] rfl rfl (by kernel_rfl) (fun _ _ _ h => h) (Or.inl ⟨by rfl, ?_⟩) ?_ ?_
   rotate_left
   ·intro w'
    go_simp
    with_reducible rfl
   rotate_left
   ·simp only [put_l, List.set, i64_w, i32_w]
    rfl
   refine pure_ (i := 5) (N := some 4) (v := ?_) (a' := ?_) #[true, true, true, true, true, true] rfl rfl (by kernel_rfl) (fun _ _ _ h => h) (Or.inl ⟨by rfl, ?_⟩) ?_ ?_
   rotate_left
   ·intro w'
    go_simp
    with_reducible rfl
   rotate_left
   ·simp only [put_l, List.set, i64_w, i32_w]
    rfl
   refine done_ (by kernel_rfl) ?_
   try go_wp2
   refine bodyPost_ret (results_ctt rfl _ _ gb109 66 #[.string t111, .int .i64 (wrap64 (Go.bits .and .u8 (rd l0 0) 15))] (0, 0) _ rfl (by (with_reducible repeat (first | refine blk_drewN ?_ _ | refine blk_drew ?_ | refine blk_alloc ?_ _)); refine blk_put (cs := #[.string t111, .int .i64 0]) ?_ 1 _ rfl; (with_reducible repeat (first | refine blk_drewN ?_ _ | refine blk_drew ?_ | refine blk_alloc ?_ _)); refine blk_put (cs := #[.string (⟨#[]⟩ : ByteArray), .int .i64 0]) ?_ 0 _ rfl; (with_reducible repeat (first | refine blk_drewN ?_ _ | refine blk_drew ?_ | refine blk_alloc ?_ _)); exact BK109.out) Tryd.underlying66 rfl (by kernel_rfl)) rfl ?_
   exact ⟨ew, bw⟩
  rw [if_neg c14] at H
  have c14b0 : (t112 == 2) = false := beq_eq_false_iff_ne.mpr c14
  have c14b1 : (t112 != 2) = true := bne_iff_ne.mpr c14
  by_cases c29 : t112 = 3
  ·rw [if_pos c29] at H
   have c29b0 : (t112 == 3) = true := beq_iff_eq.mpr c29
   have c29b1 : (t112 != 3) = false := bne_eq_false_iff_eq.mpr c29
   clear c29
   simp only [Option.some.injEq, Prod.mk.injEq] at H
   obtain ⟨rfl, rfl, rfl, rfl⟩ := H
   go_enter Tryd.func31, Tryd.ntmps31
   try go_wp2_with (first | ((with_reducible refine gate_dst (N := 2) rfl ?_); refine box_event ?hg (N := 2) ?hd (cs := #[.string (⟨#[]⟩ : ByteArray), .int .i64 0]) (t := 66) ?hr ?_; (case hd => rfl); (case hg => rfl); (case hr => first | (go_simp; done) | (go_simp; rfl)); intro gb109 hg w30 hbox hb; have n0_ := Aside0.mk (below_step bw hb); have n1_ := Aside0.mk (hbox); have n2_ := Aside0.mk (bz hg : w.heap.size ≤ gb109); have n3_ := Aside0.mk (bz hg : w.heap.size ≤ gb109); clear HB; have HB := n0_; have BK109 := n1_; have GW109 := n2_; have GE109 := n3_; clear n0_ n1_ n2_ n3_; clear hb hbox hg; have p110 : 0 ≤ (0 : Int) := (by omega); have q110 : 0 < (l0.length : Int) := oda; obtain ⟨ad110, e110, hx110_0⟩ := Kd.at_int HR0.out 0 p110 q110; cases e110; have qi110 : (0 < l0.length) = True := eq_true (by omega); (try rw [show ((0 : Int)).toNat = 0 from rfl] at hx110_0); (try rw [Addr.add_zero'] at hx110_0); replace hx110_0 := up_ HB hx110_0; replace p110 := eq_true p110; replace q110 := eq_true q110) | ((with_reducible refine gate_callee (f := 36) rfl ?_); refine goesL_ (some 14) rfl rfl Tryd.func36 (by kernel_rfl) rfl #[.int .u8 (rd l0 0)] rfl sm ?_; (with_reducible refine (code_Info.calls (rd l0 0) t111 t112 t113 t114 _ A6.out).mono ?_); rintro e w31 ⟨rfl, hb⟩; refine ⟨_, rfl, ?_⟩; have n0_ := Aside0.mk (blk_below (g := gb109) (o := .cells #[.string (⟨#[]⟩ : ByteArray), .int .i64 0] 66 (0, 0)) bk hb); have n1_ := Aside0.mk (below_step bw hb); clear BK109; clear HB; have BK109 := n0_; have HB := n1_; clear n0_ n1_; (try clear hb); (try clear hb2); (try clear hk); (try clear hi)) | ((with_reducible refine gate_dst (N := 5) rfl ?_); refine box_event ?hg (N := 5) ?hd (cs := #[.string (⟨#[]⟩ : ByteArray), .int .u8 0, .int .i64 0, .int .i64 0]) (t := 74) ?hr ?_; (case hd => rfl); (case hg => rfl); (case hr => first | (go_simp; done) | (go_simp; rfl)); intro gb115 hg w32 hbox hb; have n0_ := Aside0.mk (blk_below (g := gb109) (o := .cells #[.string (⟨#[]⟩ : ByteArray), .int .i64 0] 66 (0, 0)) bk hb); have n1_ := Aside0.mk (below_step bw hb); have n2_ := Aside0.mk (hbox); have n3_ := Aside0.mk (bz hg : w.heap.size ≤ gb115); have n4_ := Aside0.mk (bz hg : w.heap.size ≤ gb115); have n5_ := Aside0.mk ((by rw [hg]; exact Nat.ne_of_lt (blk_lt (g := gb109) (o := .cells #[.string (⟨#[]⟩ : ByteArray), .int .i64 0] 66 (0, 0)) bk) : gb109 ≠ gb115)); have n6_ := Aside0.mk ((by rw [hg]; exact Nat.ne_of_gt (blk_lt (g := gb109) (o := .cells #[.string (⟨#[]⟩ : ByteArray), .int .i64 0] 66 (0, 0)) bk) : gb115 ≠ gb109)); clear BK109; clear HB; have BK109 := n0_; have HB := n1_; have BK115 := n2_; have GW115 := n3_; have GE115 := n4_; have NB109_115 := n5_; have NB115_109 := n6_; clear n0_ n1_ n2_ n3_ n4_ n5_ n6_; clear hb hbox hg; have hnb33 := NB115_109.out; have hnc33 := NB109_115.out; have hcz34_0 : w32.cell? ⟨gb115, 0, none⟩ = some (.string (⟨#[]⟩ : ByteArray)) := (blk_cell BK115.out 0).trans rfl; have hcz34_1 : w32.cell? ⟨gb115, 1, none⟩ = some (.int .u8 0) := (blk_cell BK115.out 1).trans rfl; have hcz34_2 : w32.cell? ⟨gb115, 2, none⟩ = some (.int .i64 0) := (blk_cell BK115.out 2).trans rfl; have hcz34_3 : w32.cell? ⟨gb115, 3, none⟩ = some (.int .i64 0) := (blk_cell BK115.out 3).trans rfl; have hfz34_0 := blk_frozen BK115.out 0; have hfz34_1 := blk_frozen BK115.out 1; have hfz34_2 := blk_frozen BK115.out 2; have hfz34_3 := blk_frozen BK115.out 3) | ((with_reducible refine gate_dst (N := 6) rfl ?_); refine box_event ?hg (N := 6) ?hd (cs := #[.string (⟨#[]⟩ : ByteArray), .int .i64 0]) (t := 66) ?hr ?_; (case hd => rfl); (case hg => rfl); (case hr => first | (go_simp; done) | (go_simp; rfl)); intro gb116 hg w35 hbox hb; have n0_ := Aside0.mk (blk_below (g := gb109) (o := .cells #[.string (⟨#[]⟩ : ByteArray), .int .i64 0] 66 (0, 0)) (by (with_reducible repeat (first | refine blk_drewN ?_ _ | refine blk_drew ?_ | refine blk_alloc ?_ _)); refine blk_far ?_ NB109_115.out _; (with_reducible repeat (first | refine blk_drewN ?_ _ | refine blk_drew ?_ | refine blk_alloc ?_ _)); refine blk_far ?_ NB109_115.out _; (with_reducible repeat (first | refine blk_drewN ?_ _ | refine blk_drew ?_ | refine blk_alloc ?_ _)); refine blk_far ?_ NB109_115.out _; (with_reducible repeat (first | refine blk_drewN ?_ _ | refine blk_drew ?_ | refine blk_alloc ?_ _)); refine blk_far ?_ NB109_115.out _; (with_reducible repeat (first | refine blk_drewN ?_ _ | refine blk_drew ?_ | refine blk_alloc ?_ _)); exact BK109.out) hb); have n1_ := Aside0.mk (blk_below (g := gb115) (o := .cells #[.string t111, .int .u8 t112, .int .i64 t113, .int .i64 t114] 74 (0, 0)) (by (with_reducible repeat (first | refine blk_drewN ?_ _ | refine blk_drew ?_ | refine blk_alloc ?_ _)); refine blk_put (cs := #[.string t111, .int .u8 t112, .int .i64 t113, .int .i64 0]) ?_ 3 _ rfl; (with_reducible repeat (first | refine blk_drewN ?_ _ | refine blk_drew ?_ | refine blk_alloc ?_ _)); refine blk_put (cs := #[.string t111, .int .u8 t112, .int .i64 0, .int .i64 0]) ?_ 2 _ rfl; (with_reducible repeat (first | refine blk_drewN ?_ _ | refine blk_drew ?_ | refine blk_alloc ?_ _)); refine blk_put (cs := #[.string t111, .int .u8 0, .int .i64 0, .int .i64 0]) ?_ 1 _ rfl; (with_reducible repeat (first | refine blk_drewN ?_ _ | refine blk_drew ?_ | refine blk_alloc ?_ _)); refine blk_put (cs := #[.string (⟨#[]⟩ : ByteArray), .int .u8 0, .int .i64 0, .int .i64 0]) ?_ 0 _ rfl; (with_reducible repeat (first | refine blk_drewN ?_ _ | refine blk_drew ?_ | refine blk_alloc ?_ _)); exact BK115.out) hb); have n2_ := Aside0.mk (below_step bw hb); have n3_ := Aside0.mk (hbox); have n4_ := Aside0.mk (bz hg : w.heap.size ≤ gb116); have n5_ := Aside0.mk (bz hg : w.heap.size ≤ gb116); have n6_ := Aside0.mk ((by rw [hg]; exact Nat.ne_of_lt (blk_lt (g := gb109) (o := .cells #[.string (⟨#[]⟩ : ByteArray), .int .i64 0] 66 (0, 0)) (by (with_reducible repeat (first | refine blk_drewN ?_ _ | refine blk_drew ?_ | refine blk_alloc ?_ _)); refine blk_far ?_ NB109_115.out _; (with_reducible repeat (first | refine blk_drewN ?_ _ | refine blk_drew ?_ | refine blk_alloc ?_ _)); refine blk_far ?_ NB109_115.out _; (with_reducible repeat (first | refine blk_drewN ?_ _ | refine blk_drew ?_ | refine blk_alloc ?_ _)); refine blk_far ?_ NB109_115.out _; (with_reducible repeat (first | refine blk_drewN ?_ _ | refine blk_drew ?_ | refine blk_alloc ?_ _)); refine blk_far ?_ NB109_115.out _; (with_reducible repeat (first | refine blk_drewN ?_ _ | refine blk_drew ?_ | refine blk_alloc ?_ _)); exact BK109.out)) : gb109 ≠ gb116)); have n7_ := Aside0.mk ((by rw [hg]; exact Nat.ne_of_gt (blk_lt (g := gb109) (o := .cells #[.string (⟨#[]⟩ : ByteArray), .int .i64 0] 66 (0, 0)) (by (with_reducible repeat (first | refine blk_drewN ?_ _ | refine blk_drew ?_ | refine blk_alloc ?_ _)); refine blk_far ?_ NB109_115.out _; (with_reducible repeat (first | refine blk_drewN ?_ _ | refine blk_drew ?_ | refine blk_alloc ?_ _)); refine blk_far ?_ NB109_115.out _; (with_reducible repeat (first | refine blk_drewN ?_ _ | refine blk_drew ?_ | refine blk_alloc ?_ _)); refine blk_far ?_ NB109_115.out _; (with_reducible repeat (first | refine blk_drewN ?_ _ | refine blk_drew ?_ | refine blk_alloc ?_ _)); refine blk_far ?_ NB109_115.out _; (with_reducible repeat (first | refine blk_drewN ?_ _ | refine blk_drew ?_ | refine blk_alloc ?_ _)); exact BK109.out)) : gb116 ≠ gb109)); have n8_ := Aside0.mk ((by rw [hg]; exact Nat.ne_of_lt (blk_lt (g := gb115) (o := .cells #[.string t111, .int .u8 t112, .int .i64 t113, .int .i64 t114] 74 (0, 0)) (by (with_reducible repeat (first | refine blk_drewN ?_ _ | refine blk_drew ?_ | refine blk_alloc ?_ _)); refine blk_put (cs := #[.string t111, .int .u8 t112, .int .i64 t113, .int .i64 0]) ?_ 3 _ rfl; (with_reducible repeat (first | refine blk_drewN ?_ _ | refine blk_drew ?_ | refine blk_alloc ?_ _)); refine blk_put (cs := #[.string t111, .int .u8 t112, .int .i64 0, .int .i64 0]) ?_ 2 _ rfl; (with_reducible repeat (first | refine blk_drewN ?_ _ | refine blk_drew ?_ | refine blk_alloc ?_ _)); refine blk_put (cs := #[.string t111, .int .u8 0, .int .i64 0, .int .i64 0]) ?_ 1 _ rfl; (with_reducible repeat (first | refine blk_drewN ?_ _ | refine blk_drew ?_ | refine blk_alloc ?_ _)); refine blk_put (cs := #[.string (⟨#[]⟩ : ByteArray), .int .u8 0, .int .i64 0, .int .i64 0]) ?_ 0 _ rfl; (with_reducible repeat (first | refine blk_drewN ?_ _ | refine blk_drew ?_ | refine blk_alloc ?_ _)); exact BK115.out)) : gb115 ≠ gb116)); have n9_ := Aside0.mk ((by rw [hg]; exact Nat.ne_of_gt (blk_lt (g := gb115) (o := .cells #[.string t111, .int .u8 t112, .int .i64 t113, .int .i64 t114] 74 (0, 0)) (by (with_reducible repeat (first | refine blk_drewN ?_ _ | refine blk_drew ?_ | refine blk_alloc ?_ _)); refine blk_put (cs := #[.string t111, .int .u8 t112, .int .i64 t113, .int .i64 0]) ?_ 3 _ rfl; (with_reducible repeat (first | refine blk_drewN ?_ _ | refine blk_drew ?_ | refine blk_alloc ?_ _)); refine blk_put (cs := #[.string t111, .int .u8 t112, .int .i64 0, .int .i64 0]) ?_ 2 _ rfl; (with_reducible repeat (first | refine blk_drewN ?_ _ | refine blk_drew ?_ | refine blk_alloc ?_ _)); refine blk_put (cs := #[.string t111, .int .u8 0, .int .i64 0, .int .i64 0]) ?_ 1 _ rfl; (with_reducible repeat (first | refine blk_drewN ?_ _ | refine blk_drew ?_ | refine blk_alloc ?_ _)); refine blk_put (cs := #[.string (⟨#[]⟩ : ByteArray), .int .u8 0, .int .i64 0, .int .i64 0]) ?_ 0 _ rfl; (with_reducible repeat (first | refine blk_drewN ?_ _ | refine blk_drew ?_ | refine blk_alloc ?_ _)); exact BK115.out)) : gb116 ≠ gb115)); clear BK109; clear BK115; clear HB; have BK109 := n0_; have BK115 := n1_; have HB := n2_; have BK116 := n3_; have GW116 := n4_; have GE116 := n5_; have NB109_116 := n6_; have NB116_109 := n7_; have NB115_116 := n8_; have NB116_115 := n9_; clear n0_ n1_ n2_ n3_ n4_ n5_ n6_ n7_ n8_ n9_; clear hb hbox hg; have hnb36 := NB116_109.out; have hnc36 := NB109_116.out; have hnb37 := NB116_115.out; have hnc37 := NB115_116.out; have hcz38_0 : w35.cell? ⟨gb116, 0, none⟩ = some (.string (⟨#[]⟩ : ByteArray)) := (blk_cell BK116.out 0).trans rfl; have hcz38_1 : w35.cell? ⟨gb116, 1, none⟩ = some (.int .i64 0) := (blk_cell BK116.out 1).trans rfl; have hfz38_0 := blk_frozen BK116.out 0; have hfz38_1 := blk_frozen BK116.out 1; have hcz39_0 : w35.cell? ⟨gb115, 0, none⟩ = some (.string t111) := (blk_cell BK115.out 0).trans rfl; have hcz39_1 : w35.cell? ⟨gb115, 1, none⟩ = some (.int .u8 t112) := (blk_cell BK115.out 1).trans rfl; have hcz39_2 : w35.cell? ⟨gb115, 2, none⟩ = some (.int .i64 t113) := (blk_cell BK115.out 2).trans rfl; have hcz39_3 : w35.cell? ⟨gb115, 3, none⟩ = some (.int .i64 t114) := (blk_cell BK115.out 3).trans rfl; have hfz39_0 := blk_frozen BK115.out 0; have hfz39_1 := blk_frozen BK115.out 1; have hfz39_2 := blk_frozen BK115.out 2; have hfz39_3 := blk_frozen BK115.out 3; have p118 : 0 ≤ (0 : Int) := (by omega); have q118 : 0 < (l0.length : Int) := oda; obtain ⟨ad118, e118, hx118_0⟩ := Kd.at_int HR0.out 0 p118 q118; obtain rfl : ad110 = ad118 := (by injection e118); have qi118 : (0 < l0.length) = True := eq_true (by omega); (try rw [show ((0 : Int)).toNat = 0 from rfl] at hx118_0); (try rw [Addr.add_zero'] at hx118_0); have hn118_0 : ad110.block ≠ gb116 := Nat.ne_of_lt (Nat.lt_of_lt_of_le (by have := World.block_lt_of_cell? _ _ hx118_0; first | rwa [add_block] at this | exact this) GW116.out); have hn118_1 : ad110.block ≠ gb116 := Nat.ne_of_lt (Nat.lt_of_lt_of_le (by have := World.block_lt_of_cell? _ _ hx118_0; first | rwa [add_block] at this | exact this) GW116.out); replace hx118_0 := up_ HB hx118_0; replace hx118_0 := (cell_far (p := ⟨gb116, 0, none⟩) (by first | (rw [add_block]; exact hn118_0) | (show (Addr.add _ _).block ≠ _; rw [add_block]; exact hn118_0) | exact hn118_0) (.string t111)).trans hx118_0; replace hx118_0 := (cell_far (p := ⟨gb116, 1, none⟩) (by first | (rw [add_block]; exact hn118_1) | (show (Addr.add _ _).block ≠ _; rw [add_block]; exact hn118_1) | exact hn118_1) (.int .i64 0)).trans hx118_0; clear hn118_0; clear hn118_1; replace p118 := eq_true p118; replace q118 := eq_true q118))
   have n0_ : Aside0 ((((w35.setCell ⟨gb116, 0, none⟩ (.string t111)).setCell ⟨gb116, 1, none⟩ (.int .i64 0)).setCell ⟨gb116, 1, none⟩ (.int .i64 (wrap64 (Int.tmod (rd l0 0) 8)))).heap[gb109]? = some (.cells #[.string (⟨#[]⟩ : ByteArray), .int .i64 0] 66 (0, 0))) := ⟨by (with_reducible repeat (first | refine blk_drewN ?_ _ | refine blk_drew ?_ | refine blk_alloc ?_ _)); refine blk_far ?_ NB109_116.out _; (with_reducible repeat (first | refine blk_drewN ?_ _ | refine blk_drew ?_ | refine blk_alloc ?_ _)); refine blk_far ?_ NB109_116.out _; (with_reducible repeat (first | refine blk_drewN ?_ _ | refine blk_drew ?_ | refine blk_alloc ?_ _)); refine blk_far ?_ NB109_116.out _; (with_reducible repeat (first | refine blk_drewN ?_ _ | refine blk_drew ?_ | refine blk_alloc ?_ _)); exact BK109.out⟩
   have n1_ : Aside0 ((((w35.setCell ⟨gb116, 0, none⟩ (.string t111)).setCell ⟨gb116, 1, none⟩ (.int .i64 0)).setCell ⟨gb116, 1, none⟩ (.int .i64 (wrap64 (Int.tmod (rd l0 0) 8)))).heap[gb115]? = some (.cells #[.string t111, .int .u8 t112, .int .i64 t113, .int .i64 t114] 74 (0, 0))) := ⟨by (with_reducible repeat (first | refine blk_drewN ?_ _ | refine blk_drew ?_ | refine blk_alloc ?_ _)); refine blk_far ?_ NB115_116.out _; (with_reducible repeat (first | refine blk_drewN ?_ _ | refine blk_drew ?_ | refine blk_alloc ?_ _)); refine blk_far ?_ NB115_116.out _; (with_reducible repeat (first | refine blk_drewN ?_ _ | refine blk_drew ?_ | refine blk_alloc ?_ _)); refine blk_far ?_ NB115_116.out _; (with_reducible repeat (first | refine blk_drewN ?_ _ | refine blk_drew ?_ | refine blk_alloc ?_ _)); exact BK115.out⟩
   have n2_ : Aside0 ((((w35.setCell ⟨gb116, 0, none⟩ (.string t111)).setCell ⟨gb116, 1, none⟩ (.int .i64 0)).setCell ⟨gb116, 1, none⟩ (.int .i64 (wrap64 (Int.tmod (rd l0 0) 8)))).heap[gb116]? = some (.cells #[.string t111, .int .i64 (wrap64 (Int.tmod (rd l0 0) 8))] 66 (0, 0))) := ⟨by (with_reducible repeat (first | refine blk_drewN ?_ _ | refine blk_drew ?_ | refine blk_alloc ?_ _)); refine blk_put (cs := #[.string t111, .int .i64 0]) ?_ 1 _ rfl; (with_reducible repeat (first | refine blk_drewN ?_ _ | refine blk_drew ?_ | refine blk_alloc ?_ _)); refine blk_put (cs := #[.string t111, .int .i64 0]) ?_ 1 _ rfl; (with_reducible repeat (first | refine blk_drewN ?_ _ | refine blk_drew ?_ | refine blk_alloc ?_ _)); refine blk_put (cs := #[.string (⟨#[]⟩ : ByteArray), .int .i64 0]) ?_ 0 _ rfl; (with_reducible repeat (first | refine blk_drewN ?_ _ | refine blk_drew ?_ | refine blk_alloc ?_ _)); exact BK116.out⟩
   have n3_ : Aside0 (Below w.heap.size w (((w35.setCell ⟨gb116, 0, none⟩ (.string t111)).setCell ⟨gb116, 1, none⟩ (.int .i64 0)).setCell ⟨gb116, 1, none⟩ (.int .i64 (wrap64 (Int.tmod (rd l0 0) 8))))) := ⟨bw⟩
   (try clear BK109)
   (try clear BK115)
   (try clear BK116)
   (try clear HB)
   generalize (((w35.setCell ⟨gb116, 0, none⟩ (.string t111)).setCell ⟨gb116, 1, none⟩ (.int .i64 0)).setCell ⟨gb116, 1, none⟩ (.int .i64 (wrap64 (Int.tmod (rd l0 0) 8)))) = w40 at n0_ n1_ n2_ n3_ ⊢
   have BK109 := n0_
   have BK115 := n1_
   have BK116 := n2_
   have HB := n3_
   clear n0_ n1_ n2_ n3_
   have n0_ := Aside0.mk (blk_drew BK109.out)
   have n1_ := Aside0.mk (blk_drew BK115.out)
   have n2_ := Aside0.mk (blk_drew BK116.out)
   have n3_ := Aside0.mk (below_drew1 HB.out)
   clear BK109
   clear BK115
   clear BK116
   clear HB
   have BK109 := n0_
   have BK115 := n1_
   have BK116 := n2_
   have HB := n3_
   clear n0_ n1_ n2_ n3_
   refine start_ (n := 6) (S := fun w' => w'.cell? ⟨gb116, 0, none⟩ = some (.string t111) ∧ w'.cell? ⟨gb116, 1, none⟩ = some (.int .i64 (wrap64 (Int.tmod (rd l0 0) 8))) ∧ w'.cell? ⟨gb115, 0, none⟩ = some (.string t111) ∧ w'.cell? ⟨gb115, 1, none⟩ = some (.int .u8 t112) ∧ w'.cell? ⟨gb115, 2, none⟩ = some (.int .i64 t113) ∧ w'.cell? ⟨gb115, 3, none⟩ = some (.int .i64 t114)) (ds := []) #[false, false, false, false, false, false] (by kernel_rfl) rfl rfl ⟨(blk_cell BK116.out 0).trans rfl, (blk_cell BK116.out 1).trans rfl, (blk_cell BK115.out 0).trans rfl, (blk_cell BK115.out 1).trans rfl, (blk_cell BK115.out 2).trans rfl, (blk_cell BK115.out 3).trans rfl⟩ (fun hHeld => ?_)
   generalize w40.drew = w41 at BK109 BK115 BK116 HB hHeld ⊢
   refine pure_ (i := 1) (N := some 62) (v := ?_) (a' := ?_) #[false, true, false, false, false, false] rfl rfl (by kernel_rfl) (fun _ _ _ h => h) (Or.inl ⟨by rfl, ?_⟩) ?_ ?_
   rotate_left
   ·intro w'
    go_simp
    with_reducible rfl
   rotate_left
   ·simp only [put_l, List.set, i64_w, i32_w]
    rfl
   refine take_ (i := 0) (N := some 61) (v := ?_) (a' := ?_) #[true, true, false, false, false, false] rfl rfl (by kernel_rfl) (fun _ _ _ h => h) (Or.inl ⟨by rfl, ?_⟩) hHeld ?_ ?_
   rotate_left
   ·rintro w' ⟨s0, s1, s2, s3, s4, s5⟩
    go_simp
    with_reducible rfl
   rotate_left
   ·simp only [put_l, List.set, i64_w, i32_w]
    rfl
   refine take_ (i := 2) (N := some 63) (v := ?_) (a' := ?_) #[true, true, true, false, false, false] rfl rfl (by kernel_rfl) (fun _ _ _ h => h) (Or.inl ⟨by rfl, ?_⟩) hHeld ?_ ?_
   rotate_left
   ·rintro w' ⟨s0, s1, s2, s3, s4, s5⟩
    go_simp
    with_reducible rfl
   rotate_left
   ·simp only [put_l, List.set, i64_w, i32_w]
    rfl
   refine one_ (i := 3) (N := none) #[true, true, true, true, false, false] rfl rfl (by kernel_rfl) (by decide) (fun K hK => ?_)
   have hs42 : w41.cell? ⟨gb109, 0, none⟩ = some (.string (⟨#[]⟩ : ByteArray)) := (blk_cell BK109.out 0).trans rfl
   have hfs42 := blk_frozen BK109.out 0
   have hns42_1 := NB115_109.out
   have hns42_2 := NB116_109.out
   have hms42_1 := NB109_115.out
   have hms42_2 := NB109_116.out
   have hs43 : w41.cell? ⟨gb109, 1, none⟩ = some (.int .i64 0) := (blk_cell BK109.out 1).trans rfl
   have hfs43 := blk_frozen BK109.out 1
   have hns43_1 := NB115_109.out
   have hns43_2 := NB116_109.out
   have hms43_1 := NB109_115.out
   have hms43_2 := NB109_116.out
   refine skip_ (w1 := ?_) (by rfl) rfl ?_ ?_
   rotate_left
   ·go_simp
    rfl
   refine hK.out _ _ ⟨((cell_far (p := ⟨gb109, _, none⟩) NB116_109.out _).trans (((cell_far (p := ⟨gb109, _, none⟩) NB116_109.out _).trans (hHeld.1)))), ((cell_far (p := ⟨gb109, _, none⟩) NB116_109.out _).trans (((cell_far (p := ⟨gb109, _, none⟩) NB116_109.out _).trans (hHeld.2.1)))), ((cell_far (p := ⟨gb109, _, none⟩) NB115_109.out _).trans (((cell_far (p := ⟨gb109, _, none⟩) NB115_109.out _).trans (hHeld.2.2.1)))), ((cell_far (p := ⟨gb109, _, none⟩) NB115_109.out _).trans (((cell_far (p := ⟨gb109, _, none⟩) NB115_109.out _).trans (hHeld.2.2.2.1)))), ((cell_far (p := ⟨gb109, _, none⟩) NB115_109.out _).trans (((cell_far (p := ⟨gb109, _, none⟩) NB115_109.out _).trans (hHeld.2.2.2.2.1)))), ((cell_far (p := ⟨gb109, _, none⟩) NB115_109.out _).trans (((cell_far (p := ⟨gb109, _, none⟩) NB115_109.out _).trans (hHeld.2.2.2.2.2))))⟩ (fun hHeld => ?_)
   clear hK K
   refine pure_ (i := 4) (N := some 3) (v := ?_) (a' := ?_) #[true, true, true, true, true, false] rfl rfl (by kernel_rfl) (fun _ _ _ h => h) (Or.inl ⟨by rfl, ?_⟩) ?_ ?_
   rotate_left
   ·intro w'
    go_simp
    with_reducible rfl
   rotate_left
   ·simp only [put_l, List.set, i64_w, i32_w]
    rfl
   refine pure_ (i := 5) (N := some 4) (v := ?_) (a' := ?_) #[true, true, true, true, true, true] rfl rfl (by kernel_rfl) (fun _ _ _ h => h) (Or.inl ⟨by rfl, ?_⟩) ?_ ?_
   rotate_left
   ·intro w'
    go_simp
    with_reducible rfl
   rotate_left
   ·simp only [put_l, List.set, i64_w, i32_w]
    rfl
   refine done_ (by kernel_rfl) ?_
   try go_wp2
   refine bodyPost_ret (results_ctt rfl _ _ gb109 66 #[.string t111, .int .i64 (wrap64 (Int.tmod (rd l0 0) 8))] (0, 0) _ rfl (by (with_reducible repeat (first | refine blk_drewN ?_ _ | refine blk_drew ?_ | refine blk_alloc ?_ _)); refine blk_put (cs := #[.string t111, .int .i64 0]) ?_ 1 _ rfl; (with_reducible repeat (first | refine blk_drewN ?_ _ | refine blk_drew ?_ | refine blk_alloc ?_ _)); refine blk_put (cs := #[.string (⟨#[]⟩ : ByteArray), .int .i64 0]) ?_ 0 _ rfl; (with_reducible repeat (first | refine blk_drewN ?_ _ | refine blk_drew ?_ | refine blk_alloc ?_ _)); exact BK109.out) Tryd.underlying66 rfl (by kernel_rfl)) rfl ?_
   exact ⟨ew, bw⟩
  rw [if_neg c29] at H
  have c29b0 : (t112 == 3) = false := beq_eq_false_iff_ne.mpr c29
  have c29b1 : (t112 != 3) = true := bne_iff_ne.mpr c29
  have HC44 := Aside0.mk H
  clear H
  go_enter Tryd.func31, Tryd.ntmps31
  go_upto_if 42 with (first | ((with_reducible refine gate_dst (N := 2) rfl ?_); refine box_event ?hg (N := 2) ?hd (cs := #[.string (⟨#[]⟩ : ByteArray), .int .i64 0]) (t := 66) ?hr ?_; (case hd => rfl); (case hg => rfl); (case hr => first | (go_simp; done) | (go_simp; rfl)); intro gb109 hg w45 hbox hb; have n0_ := Aside0.mk (below_step bw hb); have n1_ := Aside0.mk (hbox); have n2_ := Aside0.mk (bz hg : w.heap.size ≤ gb109); have n3_ := Aside0.mk (bz hg : w.heap.size ≤ gb109); clear HB; have HB := n0_; have BK109 := n1_; have GW109 := n2_; have GE109 := n3_; clear n0_ n1_ n2_ n3_; clear hb hbox hg; have p110 : 0 ≤ (0 : Int) := (by omega); have q110 : 0 < (l0.length : Int) := oda; obtain ⟨ad110, e110, hx110_0⟩ := Kd.at_int HR0.out 0 p110 q110; cases e110; have qi110 : (0 < l0.length) = True := eq_true (by omega); (try rw [show ((0 : Int)).toNat = 0 from rfl] at hx110_0); (try rw [Addr.add_zero'] at hx110_0); replace hx110_0 := up_ HB hx110_0; replace p110 := eq_true p110; replace q110 := eq_true q110) | ((with_reducible refine gate_callee (f := 36) rfl ?_); refine goesL_ (some 14) rfl rfl Tryd.func36 (by kernel_rfl) rfl #[.int .u8 (rd l0 0)] rfl sm ?_; (with_reducible refine (code_Info.calls (rd l0 0) t111 t112 t113 t114 _ A6.out).mono ?_); rintro e w46 ⟨rfl, hb⟩; refine ⟨_, rfl, ?_⟩; have n0_ := Aside0.mk (blk_below (g := gb109) (o := .cells #[.string (⟨#[]⟩ : ByteArray), .int .i64 0] 66 (0, 0)) bk hb); have n1_ := Aside0.mk (below_step bw hb); clear BK109; clear HB; have BK109 := n0_; have HB := n1_; clear n0_ n1_; (try clear hb); (try clear hb2); (try clear hk); (try clear hi)) | ((with_reducible refine gate_dst (N := 5) rfl ?_); refine box_event ?hg (N := 5) ?hd (cs := #[.string (⟨#[]⟩ : ByteArray), .int .u8 0, .int .i64 0, .int .i64 0]) (t := 74) ?hr ?_; (case hd => rfl); (case hg => rfl); (case hr => first | (go_simp; done) | (go_simp; rfl)); intro gb115 hg w47 hbox hb; have n0_ := Aside0.mk (blk_below (g := gb109) (o := .cells #[.string (⟨#[]⟩ : ByteArray), .int .i64 0] 66 (0, 0)) bk hb); have n1_ := Aside0.mk (below_step bw hb); have n2_ := Aside0.mk (hbox); have n3_ := Aside0.mk (bz hg : w.heap.size ≤ gb115); have n4_ := Aside0.mk (bz hg : w.heap.size ≤ gb115); have n5_ := Aside0.mk ((by rw [hg]; exact Nat.ne_of_lt (blk_lt (g := gb109) (o := .cells #[.string (⟨#[]⟩ : ByteArray), .int .i64 0] 66 (0, 0)) bk) : gb109 ≠ gb115)); have n6_ := Aside0.mk ((by rw [hg]; exact Nat.ne_of_gt (blk_lt (g := gb109) (o := .cells #[.string (⟨#[]⟩ : ByteArray), .int .i64 0] 66 (0, 0)) bk) : gb115 ≠ gb109)); clear BK109; clear HB; have BK109 := n0_; have HB := n1_; have BK115 := n2_; have GW115 := n3_; have GE115 := n4_; have NB109_115 := n5_; have NB115_109 := n6_; clear n0_ n1_ n2_ n3_ n4_ n5_ n6_; clear hb hbox hg; have hnb48 := NB115_109.out; have hnc48 := NB109_115.out; have hcz49_0 : w47.cell? ⟨gb115, 0, none⟩ = some (.string (⟨#[]⟩ : ByteArray)) := (blk_cell BK115.out 0).trans rfl; have hcz49_1 : w47.cell? ⟨gb115, 1, none⟩ = some (.int .u8 0) := (blk_cell BK115.out 1).trans rfl; have hcz49_2 : w47.cell? ⟨gb115, 2, none⟩ = some (.int .i64 0) := (blk_cell BK115.out 2).trans rfl; have hcz49_3 : w47.cell? ⟨gb115, 3, none⟩ = some (.int .i64 0) := (blk_cell BK115.out 3).trans rfl; have hfz49_0 := blk_frozen BK115.out 0; have hfz49_1 := blk_frozen BK115.out 1; have hfz49_2 := blk_frozen BK115.out 2; have hfz49_3 := blk_frozen BK115.out 3) | ((with_reducible refine gate_dst (N := 6) rfl ?_); refine box_event ?hg (N := 6) ?hd (cs := #[.string (⟨#[]⟩ : ByteArray), .int .i64 0]) (t := 66) ?hr ?_; (case hd => rfl); (case hg => rfl); (case hr => first | (go_simp; done) | (go_simp; rfl)); intro gb116 hg w50 hbox hb; have n0_ := Aside0.mk (blk_below (g := gb109) (o := .cells #[.string (⟨#[]⟩ : ByteArray), .int .i64 0] 66 (0, 0)) (by (with_reducible repeat (first | refine blk_drewN ?_ _ | refine blk_drew ?_ | refine blk_alloc ?_ _)); refine blk_far ?_ NB109_115.out _; (with_reducible repeat (first | refine blk_drewN ?_ _ | refine blk_drew ?_ | refine blk_alloc ?_ _)); refine blk_far ?_ NB109_115.out _; (with_reducible repeat (first | refine blk_drewN ?_ _ | refine blk_drew ?_ | refine blk_alloc ?_ _)); refine blk_far ?_ NB109_115.out _; (with_reducible repeat (first | refine blk_drewN ?_ _ | refine blk_drew ?_ | refine blk_alloc ?_ _)); refine blk_far ?_ NB109_115.out _; (with_reducible repeat (first | refine blk_drewN ?_ _ | refine blk_drew ?_ | refine blk_alloc ?_ _)); exact BK109.out) hb); have n1_ := Aside0.mk (blk_below (g := gb115) (o := .cells #[.string t111, .int .u8 t112, .int .i64 t113, .int .i64 t114] 74 (0, 0)) (by (with_reducible repeat (first | refine blk_drewN ?_ _ | refine blk_drew ?_ | refine blk_alloc ?_ _)); refine blk_put (cs := #[.string t111, .int .u8 t112, .int .i64 t113, .int .i64 0]) ?_ 3 _ rfl; (with_reducible repeat (first | refine blk_drewN ?_ _ | refine blk_drew ?_ | refine blk_alloc ?_ _)); refine blk_put (cs := #[.string t111, .int .u8 t112, .int .i64 0, .int .i64 0]) ?_ 2 _ rfl; (with_reducible repeat (first | refine blk_drewN ?_ _ | refine blk_drew ?_ | refine blk_alloc ?_ _)); refine blk_put (cs := #[.string t111, .int .u8 0, .int .i64 0, .int .i64 0]) ?_ 1 _ rfl; (with_reducible repeat (first | refine blk_drewN ?_ _ | refine blk_drew ?_ | refine blk_alloc ?_ _)); refine blk_put (cs := #[.string (⟨#[]⟩ : ByteArray), .int .u8 0, .int .i64 0, .int .i64 0]) ?_ 0 _ rfl; (with_reducible repeat (first | refine blk_drewN ?_ _ | refine blk_drew ?_ | refine blk_alloc ?_ _)); exact BK115.out) hb); have n2_ := Aside0.mk (below_step bw hb); have n3_ := Aside0.mk (hbox); have n4_ := Aside0.mk (bz hg : w.heap.size ≤ gb116); have n5_ := Aside0.mk (bz hg : w.heap.size ≤ gb116); have n6_ := Aside0.mk ((by rw [hg]; exact Nat.ne_of_lt (blk_lt (g := gb109) (o := .cells #[.string (⟨#[]⟩ : ByteArray), .int .i64 0] 66 (0, 0)) (by (with_reducible repeat (first | refine blk_drewN ?_ _ | refine blk_drew ?_ | refine blk_alloc ?_ _)); refine blk_far ?_ NB109_115.out _; (with_reducible repeat (first | refine blk_drewN ?_ _ | refine blk_drew ?_ | refine blk_alloc ?_ _)); refine blk_far ?_ NB109_115.out _; (with_reducible repeat (first | refine blk_drewN ?_ _ | refine blk_drew ?_ | refine blk_alloc ?_ _)); refine blk_far ?_ NB109_115.out _; (with_reducible repeat (first | refine blk_drewN ?_ _ | refine blk_drew ?_ | refine blk_alloc ?_ _)); refine blk_far ?_ NB109_115.out _; (with_reducible repeat (first | refine blk_drewN ?_ _ | refine blk_drew ?_ | refine blk_alloc ?_ _)); exact BK109.out)) : gb109 ≠ gb116)); have n7_ := Aside0.mk ((by rw [hg]; exact Nat.ne_of_gt (blk_lt (g := gb109) (o := .cells #[.string (⟨#[]⟩ : ByteArray), .int .i64 0] 66 (0, 0)) (by (with_reducible repeat (first | refine blk_drewN ?_ _ | refine blk_drew ?_ | refine blk_alloc ?_ _)); refine blk_far ?_ NB109_115.out _; (with_reducible repeat (first | refine blk_drewN ?_ _ | refine blk_drew ?_ | refine blk_alloc ?_ _)); refine blk_far ?_ NB109_115.out _; (with_reducible repeat (first | refine blk_drewN ?_ _ | refine blk_drew ?_ | refine blk_alloc ?_ _)); refine blk_far ?_ NB109_115.out _; (with_reducible repeat (first | refine blk_drewN ?_ _ | refine blk_drew ?_ | refine blk_alloc ?_ _)); refine blk_far ?_ NB109_115.out _; (with_reducible repeat (first | refine blk_drewN ?_ _ | refine blk_drew ?_ | refine blk_alloc ?_ _)); exact BK109.out)) : gb116 ≠ gb109)); have n8_ := Aside0.mk ((by rw [hg]; exact Nat.ne_of_lt (blk_lt (g := gb115) (o := .cells #[.string t111, .int .u8 t112, .int .i64 t113, .int .i64 t114] 74 (0, 0)) (by (with_reducible repeat (first | refine blk_drewN ?_ _ | refine blk_drew ?_ | refine blk_alloc ?_ _)); refine blk_put (cs := #[.string t111, .int .u8 t112, .int .i64 t113, .int .i64 0]) ?_ 3 _ rfl; (with_reducible repeat (first | refine blk_drewN ?_ _ | refine blk_drew ?_ | refine blk_alloc ?_ _)); refine blk_put (cs := #[.string t111, .int .u8 t112, .int .i64 0, .int .i64 0]) ?_ 2 _ rfl; (with_reducible repeat (first | refine blk_drewN ?_ _ | refine blk_drew ?_ | refine blk_alloc ?_ _)); refine blk_put (cs := #[.string t111, .int .u8 0, .int .i64 0, .int .i64 0]) ?_ 1 _ rfl; (with_reducible repeat (first | refine blk_drewN ?_ _ | refine blk_drew ?_ | refine blk_alloc ?_ _)); refine blk_put (cs := #[.string (⟨#[]⟩ : ByteArray), .int .u8 0, .int .i64 0, .int .i64 0]) ?_ 0 _ rfl; (with_reducible repeat (first | refine blk_drewN ?_ _ | refine blk_drew ?_ | refine blk_alloc ?_ _)); exact BK115.out)) : gb115 ≠ gb116)); have n9_ := Aside0.mk ((by rw [hg]; exact Nat.ne_of_gt (blk_lt (g := gb115) (o := .cells #[.string t111, .int .u8 t112, .int .i64 t113, .int .i64 t114] 74 (0, 0)) (by (with_reducible repeat (first | refine blk_drewN ?_ _ | refine blk_drew ?_ | refine blk_alloc ?_ _)); refine blk_put (cs := #[.string t111, .int .u8 t112, .int .i64 t113, .int .i64 0]) ?_ 3 _ rfl; (with_reducible repeat (first | refine blk_drewN ?_ _ | refine blk_drew ?_ | refine blk_alloc ?_ _)); refine blk_put (cs := #[.string t111, .int .u8 t112, .int .i64 0, .int .i64 0]) ?_ 2 _ rfl; (with_reducible repeat (first | refine blk_drewN ?_ _ | refine blk_drew ?_ | refine blk_alloc ?_ _)); refine blk_put (cs := #[.string t111, .int .u8 0, .int .i64 0, .int .i64 0]) ?_ 1 _ rfl; (with_reducible repeat (first | refine blk_drewN ?_ _ | refine blk_drew ?_ | refine blk_alloc ?_ _)); refine blk_put (cs := #[.string (⟨#[]⟩ : ByteArray), .int .u8 0, .int .i64 0, .int .i64 0]) ?_ 0 _ rfl; (with_reducible repeat (first | refine blk_drewN ?_ _ | refine blk_drew ?_ | refine blk_alloc ?_ _)); exact BK115.out)) : gb116 ≠ gb115)); clear BK109; clear BK115; clear HB; have BK109 := n0_; have BK115 := n1_; have HB := n2_; have BK116 := n3_; have GW116 := n4_; have GE116 := n5_; have NB109_116 := n6_; have NB116_109 := n7_; have NB115_116 := n8_; have NB116_115 := n9_; clear n0_ n1_ n2_ n3_ n4_ n5_ n6_ n7_ n8_ n9_; clear hb hbox hg; have hnb51 := NB116_109.out; have hnc51 := NB109_116.out; have hnb52 := NB116_115.out; have hnc52 := NB115_116.out; have hcz53_0 : w50.cell? ⟨gb116, 0, none⟩ = some (.string (⟨#[]⟩ : ByteArray)) := (blk_cell BK116.out 0).trans rfl; have hcz53_1 : w50.cell? ⟨gb116, 1, none⟩ = some (.int .i64 0) := (blk_cell BK116.out 1).trans rfl; have hfz53_0 := blk_frozen BK116.out 0; have hfz53_1 := blk_frozen BK116.out 1; have hcz54_0 : w50.cell? ⟨gb115, 0, none⟩ = some (.string t111) := (blk_cell BK115.out 0).trans rfl; have hcz54_1 : w50.cell? ⟨gb115, 1, none⟩ = some (.int .u8 t112) := (blk_cell BK115.out 1).trans rfl; have hcz54_2 : w50.cell? ⟨gb115, 2, none⟩ = some (.int .i64 t113) := (blk_cell BK115.out 2).trans rfl; have hcz54_3 : w50.cell? ⟨gb115, 3, none⟩ = some (.int .i64 t114) := (blk_cell BK115.out 3).trans rfl; have hfz54_0 := blk_frozen BK115.out 0; have hfz54_1 := blk_frozen BK115.out 1; have hfz54_2 := blk_frozen BK115.out 2; have hfz54_3 := blk_frozen BK115.out 3))
  (try simp only [Act.put, List.setIfInBounds_toArray, List.set_cons_zero, List.set_cons_succ])
  go_cut [42] (fun v42 wc => ∃ (kq : Nat) (x42_43 : Bool), v42 = .bool x42_43 ∧ Aside0 (code_Decode.j0 kq l0 t112 x42_43 t111 t112 t113 t114 t111 0 = some (r1, r2, r3, r4)) ∧ Aside0 (kq ≤ k) ∧ Aside0 (wc.heap[gb109]? = some (.cells #[.string (⟨#[]⟩ : ByteArray), .int .i64 0] 66 (0, 0))) ∧ Aside0 (wc.heap[gb115]? = some (.cells #[.string t111, .int .u8 t112, .int .i64 t113, .int .i64 t114] 74 (0, 0))) ∧ Aside0 (wc.heap[gb116]? = some (.cells #[.string t111, .int .i64 0] 66 (0, 0))) ∧ Aside0 (Below w.heap.size w wc))
  case first =>
   have H := HC44.out
   clear HC44
   by_cases c55 : t112 = 4
   ·rw [if_pos c55] at H
    have c55b0 : (t112 == 4) = true := beq_iff_eq.mpr c55
    have c55b1 : (t112 != 4) = false := bne_eq_false_iff_eq.mpr c55
    clear c55
    (first | rw [c55b0] | (simp only [i64_w, i32_w]; rw [c55b0]) | skip)
    have H' := Aside0.mk H
    clear H
    go_wp2
    go_meet
    case rel => exact ⟨_, ((t112 == 4)), rs, H', ⟨by first | omega | exact Nat.le_refl _⟩, ⟨by (with_reducible repeat (first | refine blk_drewN ?_ _ | refine blk_drew ?_ | refine blk_alloc ?_ _)); refine blk_far ?_ NB109_116.out _; (with_reducible repeat (first | refine blk_drewN ?_ _ | refine blk_drew ?_ | refine blk_alloc ?_ _)); refine blk_far ?_ NB109_116.out _; (with_reducible repeat (first | refine blk_drewN ?_ _ | refine blk_drew ?_ | refine blk_alloc ?_ _)); exact BK109.out⟩, ⟨by (with_reducible repeat (first | refine blk_drewN ?_ _ | refine blk_drew ?_ | refine blk_alloc ?_ _)); refine blk_far ?_ NB115_116.out _; (with_reducible repeat (first | refine blk_drewN ?_ _ | refine blk_drew ?_ | refine blk_alloc ?_ _)); refine blk_far ?_ NB115_116.out _; (with_reducible repeat (first | refine blk_drewN ?_ _ | refine blk_drew ?_ | refine blk_alloc ?_ _)); exact BK115.out⟩, ⟨by (with_reducible repeat (first | refine blk_drewN ?_ _ | refine blk_drew ?_ | refine blk_alloc ?_ _)); refine blk_put (cs := #[.string t111, .int .i64 0]) ?_ 1 _ rfl; (with_reducible repeat (first | refine blk_drewN ?_ _ | refine blk_drew ?_ | refine blk_alloc ?_ _)); refine blk_put (cs := #[.string (⟨#[]⟩ : ByteArray), .int .i64 0]) ?_ 0 _ rfl; (with_reducible repeat (first | refine blk_drewN ?_ _ | refine blk_drew ?_ | refine blk_alloc ?_ _)); exact BK116.out⟩, ⟨bw⟩⟩
   rw [if_neg c55] at H
   have c55b0 : (t112 == 4) = false := beq_eq_false_iff_ne.mpr c55
   have c55b1 : (t112 != 4) = true := bne_iff_ne.mpr c55
   (first | rw [c55b0] | (simp only [i64_w, i32_w]; rw [c55b0]) | skip)
   have H' := Aside0.mk H
   clear H
   go_wp2
   go_meet
   case rel => exact ⟨_, ((t112 == 5)), rs, H', ⟨by first | omega | exact Nat.le_refl _⟩, ⟨by (with_reducible repeat (first | refine blk_drewN ?_ _ | refine blk_drew ?_ | refine blk_alloc ?_ _)); refine blk_far ?_ NB109_116.out _; (with_reducible repeat (first | refine blk_drewN ?_ _ | refine blk_drew ?_ | refine blk_alloc ?_ _)); refine blk_far ?_ NB109_116.out _; (with_reducible repeat (first | refine blk_drewN ?_ _ | refine blk_drew ?_ | refine blk_alloc ?_ _)); exact BK109.out⟩, ⟨by (with_reducible repeat (first | refine blk_drewN ?_ _ | refine blk_drew ?_ | refine blk_alloc ?_ _)); refine blk_far ?_ NB115_116.out _; (with_reducible repeat (first | refine blk_drewN ?_ _ | refine blk_drew ?_ | refine blk_alloc ?_ _)); refine blk_far ?_ NB115_116.out _; (with_reducible repeat (first | refine blk_drewN ?_ _ | refine blk_drew ?_ | refine blk_alloc ?_ _)); exact BK115.out⟩, ⟨by (with_reducible repeat (first | refine blk_drewN ?_ _ | refine blk_drew ?_ | refine blk_alloc ?_ _)); refine blk_put (cs := #[.string t111, .int .i64 0]) ?_ 1 _ rfl; (with_reducible repeat (first | refine blk_drewN ?_ _ | refine blk_drew ?_ | refine blk_alloc ?_ _)); refine blk_put (cs := #[.string (⟨#[]⟩ : ByteArray), .int .i64 0]) ?_ 0 _ rfl; (with_reducible repeat (first | refine blk_drewN ?_ _ | refine blk_drew ?_ | refine blk_alloc ?_ _)); exact BK116.out⟩, ⟨bw⟩⟩
  case rest =>
   clear HC44
   clear c2 c2b0 c2b1 c2b2 c5b0 c5b1 c7b0 c14 c14b0 c14b1 c29 c29b0 c29b1 hcz49_0 hcz49_1 hcz49_2 hcz49_3 hcz53_0 hcz53_1 hcz54_0 hcz54_1 hcz54_2 hcz54_3 hfz49_0 hfz49_1 hfz49_2 hfz49_3 hfz53_0 hfz53_1 hfz54_0 hfz54_1 hfz54_2 hfz54_3 hx110_0 p110 q110
   obtain ⟨kq, x42_43, rfl, HA, HJ43, BK109, BK115, BK116, HB⟩ := hcut
   cases kq with
   | zero => exact absurd HA.out (by simp [code_Decode.j0])
   | succ kj43 =>
    have H := HA.out
    clear HA
    simp only [code_Decode.j0] at H
    by_cases c56 : x42_43 = true
    ·subst c56
     have H1 : (if 1 < (l0.length : Int) then (some (t111, wrap64 (rd l0 1), t113, 0)) else (none)) = some (r1, r2, r3, r4) := by rw [if_pos rfl] at H; exact H
     clear H
     have H := H1
     clear H1
     by_cases c57 : 1 < (l0.length : Int)
     ·rw [if_pos c57] at H
      have c57b0 : decide (1 < (l0.length : Int)) = true := decide_eq_true c57
      have c57b1 : decide (1 < l0.length) = true := decide_eq_true (by omega)
      clear c57
      simp only [Option.some.injEq, Prod.mk.injEq] at H
      obtain ⟨rfl, rfl, rfl, rfl⟩ := H
      have p119 : 0 ≤ (1 : Int) := (by omega)
      have q119 : 1 < (l0.length : Int) := oda
      obtain ⟨ad119, e119, hx119_0⟩ := Kd.at_int HR0.out 1 p119 q119
      obtain rfl : ad110 = ad119 := (by injection e119)
      (try simp only [show (1 : Int).toNat = 1 from rfl, Nat.reduceMul, Nat.reduceEqDiff, Go.Addr.add, ↓reduceIte] at hx119_0)
      have qi119 : (1 < l0.length) = True := eq_true (by omega)
      (try rw [show ((1 : Int)).toNat = 1 from rfl] at hx119_0)
      replace hx119_0 := up_ HB hx119_0
      replace p119 := eq_true p119
      replace q119 := eq_true q119
      have hnb58 := NB116_109.out
      have hnc58 := NB109_116.out
      have hnb59 := NB116_115.out
      have hnc59 := NB115_116.out
      have hcz60_0 : wc.cell? ⟨gb116, 0, none⟩ = some (.string t111) := (blk_cell BK116.out 0).trans rfl
      have hcz60_1 : wc.cell? ⟨gb116, 1, none⟩ = some (.int .i64 0) := (blk_cell BK116.out 1).trans rfl
      have hfz60_0 := blk_frozen BK116.out 0
      have hfz60_1 := blk_frozen BK116.out 1
      try go_wp2
      have n0_ : Aside0 ((wc.setCell ⟨gb116, 1, none⟩ (.int .i64 (wrap64 (rd l0 1)))).heap[gb109]? = some (.cells #[.string (⟨#[]⟩ : ByteArray), .int .i64 0] 66 (0, 0))) := ⟨by (with_reducible repeat (first | refine blk_drewN ?_ _ | refine blk_drew ?_ | refine blk_alloc ?_ _)); refine blk_far ?_ NB109_116.out _; (with_reducible repeat (first | refine blk_drewN ?_ _ | refine blk_drew ?_ | refine blk_alloc ?_ _)); exact BK109.out⟩
      have n1_ : Aside0 ((wc.setCell ⟨gb116, 1, none⟩ (.int .i64 (wrap64 (rd l0 1)))).heap[gb115]? = some (.cells #[.string t111, .int .u8 t112, .int .i64 t113, .int .i64 t114] 74 (0, 0))) := ⟨by (with_reducible repeat (first | refine blk_drewN ?_ _ | refine blk_drew ?_ | refine blk_alloc ?_ _)); refine blk_far ?_ NB115_116.out _; (with_reducible repeat (first | refine blk_drewN ?_ _ | refine blk_drew ?_ | refine blk_alloc ?_ _)); exact BK115.out⟩
      have n2_ : Aside0 ((wc.setCell ⟨gb116, 1, none⟩ (.int .i64 (wrap64 (rd l0 1)))).heap[gb116]? = some (.cells #[.string t111, .int .i64 (wrap64 (rd l0 1))] 66 (0, 0))) := ⟨by (with_reducible repeat (first | refine blk_drewN ?_ _ | refine blk_drew ?_ | refine blk_alloc ?_ _)); refine blk_put (cs := #[.string t111, .int .i64 0]) ?_ 1 _ rfl; (with_reducible repeat (first | refine blk_drewN ?_ _ | refine blk_drew ?_ | refine blk_alloc ?_ _)); exact BK116.out⟩
      have n3_ : Aside0 (Below w.heap.size w (wc.setCell ⟨gb116, 1, none⟩ (.int .i64 (wrap64 (rd l0 1))))) := ⟨bw⟩
      (try clear BK109)
      (try clear BK115)
      (try clear BK116)
      (try clear HB)
      generalize (wc.setCell ⟨gb116, 1, none⟩ (.int .i64 (wrap64 (rd l0 1)))) = w61 at n0_ n1_ n2_ n3_ ⊢
      have BK109 := n0_
      have BK115 := n1_
      have BK116 := n2_
      have HB := n3_
      clear n0_ n1_ n2_ n3_
      have n0_ := Aside0.mk (blk_drew BK109.out)
      have n1_ := Aside0.mk (blk_drew BK115.out)
      have n2_ := Aside0.mk (blk_drew BK116.out)
      have n3_ := Aside0.mk (below_drew1 HB.out)
      clear BK109
      clear BK115
      clear BK116
      clear HB
      have BK109 := n0_
      have BK115 := n1_
      have BK116 := n2_
      have HB := n3_
      clear n0_ n1_ n2_ n3_
      refine start_ (n := 6) (S := fun w' => w'.cell? ⟨gb116, 0, none⟩ = some (.string t111) ∧ w'.cell? ⟨gb116, 1, none⟩ = some (.int .i64 (wrap64 (rd l0 1))) ∧ w'.cell? ⟨gb115, 0, none⟩ = some (.string t111) ∧ w'.cell? ⟨gb115, 1, none⟩ = some (.int .u8 t112) ∧ w'.cell? ⟨gb115, 2, none⟩ = some (.int .i64 t113) ∧ w'.cell? ⟨gb115, 3, none⟩ = some (.int .i64 t114)) (ds := []) #[false, false, false, false, false, false] (by kernel_rfl) rfl rfl ⟨(blk_cell BK116.out 0).trans rfl, (blk_cell BK116.out 1).trans rfl, (blk_cell BK115.out 0).trans rfl, (blk_cell BK115.out 1).trans rfl, (blk_cell BK115.out 2).trans rfl, (blk_cell BK115.out 3).trans rfl⟩ (fun hHeld => ?_)
      generalize w61.drew = w62 at BK109 BK115 BK116 HB hHeld ⊢
      refine pure_ (i := 1) (N := some 62) (v := ?_) (a' := ?_) #[false, true, false, false, false, false] rfl rfl (by kernel_rfl) (fun _ _ _ h => h) (Or.inl ⟨by rfl, ?_⟩) ?_ ?_
      rotate_left
      ·intro w'
       go_simp
       with_reducible rfl
      rotate_left
      ·simp only [put_l, List.set, i64_w, i32_w]
       rfl
      refine take_ (i := 0) (N := some 61) (v := ?_) (a' := ?_) #[true, true, false, false, false, false] rfl rfl (by kernel_rfl) (fun _ _ _ h => h) (Or.inl ⟨by rfl, ?_⟩) hHeld ?_ ?_
      rotate_left
      ·rintro w' ⟨s0, s1, s2, s3, s4, s5⟩
       go_simp
       with_reducible rfl
      rotate_left
      ·simp only [put_l, List.set, i64_w, i32_w]
       rfl
      refine take_ (i := 2) (N := some 63) (v := ?_) (a' := ?_) #[true, true, true, false, false, false] rfl rfl (by kernel_rfl) (fun _ _ _ h => h) (Or.inl ⟨by rfl, ?_⟩) hHeld ?_ ?_
      rotate_left
      ·rintro w' ⟨s0, s1, s2, s3, s4, s5⟩
       go_simp
       with_reducible rfl
      rotate_left
      ·simp only [put_l, List.set, i64_w, i32_w]
       rfl
      refine one_ (i := 3) (N := none) #[true, true, true, true, false, false] rfl rfl (by kernel_rfl) (by decide) (fun K hK => ?_)
      have hs63 : w62.cell? ⟨gb109, 0, none⟩ = some (.string (⟨#[]⟩ : ByteArray)) := (blk_cell BK109.out 0).trans rfl
      have hfs63 := blk_frozen BK109.out 0
      have hns63_1 := NB115_109.out
      have hns63_2 := NB116_109.out
      have hms63_1 := NB109_115.out
      have hms63_2 := NB109_116.out
      have hs64 : w62.cell? ⟨gb109, 1, none⟩ = some (.int .i64 0) := (blk_cell BK109.out 1).trans rfl
      have hfs64 := blk_frozen BK109.out 1
      have hns64_1 := NB115_109.out
      have hns64_2 := NB116_109.out
      have hms64_1 := NB109_115.out
      have hms64_2 := NB109_116.out
      refine skip_ (w1 := ?_) (by rfl) rfl ?_ ?_
      rotate_left
      ·go_simp
       rfl
      refine hK.out _ _ ⟨((cell_far (p := ⟨gb109, _, none⟩) NB116_109.out _).trans (((cell_far (p := ⟨gb109, _, none⟩) NB116_109.out _).trans (hHeld.1)))), ((cell_far (p := ⟨gb109, _, none⟩) NB116_109.out _).trans (((cell_far (p := ⟨gb109, _, none⟩) NB116_109.out _).trans (hHeld.2.1)))), ((cell_far (p := ⟨gb109, _, none⟩) NB115_109.out _).trans (((cell_far (p := ⟨gb109, _, none⟩) NB115_109.out _).trans (hHeld.2.2.1)))), ((cell_far (p := ⟨gb109, _, none⟩) NB115_109.out _).trans (((cell_far (p := ⟨gb109, _, none⟩) NB115_109.out _).trans (hHeld.2.2.2.1)))), ((cell_far (p := ⟨gb109, _, none⟩) NB115_109.out _).trans (((cell_far (p := ⟨gb109, _, none⟩) NB115_109.out _).trans (hHeld.2.2.2.2.1)))), ((cell_far (p := ⟨gb109, _, none⟩) NB115_109.out _).trans (((cell_far (p := ⟨gb109, _, none⟩) NB115_109.out _).trans (hHeld.2.2.2.2.2))))⟩ (fun hHeld => ?_)
      clear hK K
      refine pure_ (i := 4) (N := some 3) (v := ?_) (a' := ?_) #[true, true, true, true, true, false] rfl rfl (by kernel_rfl) (fun _ _ _ h => h) (Or.inl ⟨by rfl, ?_⟩) ?_ ?_
      rotate_left
      ·intro w'
       go_simp
       with_reducible rfl
      rotate_left
      ·simp only [put_l, List.set, i64_w, i32_w]
       rfl
      refine pure_ (i := 5) (N := some 4) (v := ?_) (a' := ?_) #[true, true, true, true, true, true] rfl rfl (by kernel_rfl) (fun _ _ _ h => h) (Or.inl ⟨by rfl, ?_⟩) ?_ ?_
      rotate_left
      ·intro w'
       go_simp
       with_reducible rfl
      rotate_left
      ·simp only [put_l, List.set, i64_w, i32_w]
       rfl
      refine done_ (by kernel_rfl) ?_
      try go_wp2
      refine bodyPost_ret (results_ctt rfl _ _ gb109 66 #[.string t111, .int .i64 (wrap64 (rd l0 1))] (0, 0) _ rfl (by (with_reducible repeat (first | refine blk_drewN ?_ _ | refine blk_drew ?_ | refine blk_alloc ?_ _)); refine blk_put (cs := #[.string t111, .int .i64 0]) ?_ 1 _ rfl; (with_reducible repeat (first | refine blk_drewN ?_ _ | refine blk_drew ?_ | refine blk_alloc ?_ _)); refine blk_put (cs := #[.string (⟨#[]⟩ : ByteArray), .int .i64 0]) ?_ 0 _ rfl; (with_reducible repeat (first | refine blk_drewN ?_ _ | refine blk_drew ?_ | refine blk_alloc ?_ _)); exact BK109.out) Tryd.underlying66 rfl (by kernel_rfl)) rfl ?_
      exact ⟨ew, bw⟩
     rw [if_neg c57] at H
     exact absurd H (by simp)
    replace c56 := Bool.eq_false_iff.mpr c56
    subst c56
    have H1 : (if t112 = 6 then (if 1 < (l0.length : Int) then (if 2 < (l0.length : Int) then ((bits_Word.f (rd l0 1) (rd l0 2)).bind fun t122 => (some (t111, wrap64 (t122), t113, 0))) else (none)) else (none)) else (some (t111, 0, t113, 0))) = some (r1, r2, r3, r4) := by rw [if_neg (show ¬ (false = true) by decide)] at H; exact H
    clear H
    have H := H1
    clear H1
    by_cases c65 : t112 = 6
    ·rw [if_pos c65] at H
     have c65b0 : (t112 == 6) = true := beq_iff_eq.mpr c65
     have c65b1 : (t112 != 6) = false := bne_eq_false_iff_eq.mpr c65
     clear c65
     by_cases c66 : 1 < (l0.length : Int)
     ·rw [if_pos c66] at H
      have c66b0 : decide (1 < (l0.length : Int)) = true := decide_eq_true c66
      have c66b1 : decide (1 < l0.length) = true := decide_eq_true (by omega)
      clear c66
      by_cases c67 : 2 < (l0.length : Int)
      ·rw [if_pos c67] at H
       have c67b0 : decide (2 < (l0.length : Int)) = true := decide_eq_true c67
       have c67b1 : decide (2 < l0.length) = true := decide_eq_true (by omega)
       clear c67
       replace H := Option.bind_eq_some_iff.mp H
       obtain ⟨t122, A680, H⟩ := H
       replace H : (some (t111, wrap64 (t122), t113, 0)) = some (r1, r2, r3, r4) := H
       have A68 := Aside0.mk A680
       clear A680
       simp only [Option.some.injEq, Prod.mk.injEq] at H
       obtain ⟨rfl, rfl, rfl, rfl⟩ := H
       try go_wp2
       have n0_ := Aside0.mk (blk_drew BK109.out)
       have n1_ := Aside0.mk (blk_drew BK115.out)
       have n2_ := Aside0.mk (blk_drew BK116.out)
       have n3_ := Aside0.mk (below_drew1 HB.out)
       clear BK109
       clear BK115
       clear BK116
       clear HB
       have BK109 := n0_
       have BK115 := n1_
       have BK116 := n2_
       have HB := n3_
       clear n0_ n1_ n2_ n3_
       have p120 : 0 ≤ (1 : Int) := (by omega)
       have q120 : 1 < (l0.length : Int) := oda
       obtain ⟨ad120, e120, hx120_0⟩ := Kd.at_int HR0.out 1 p120 q120
       have hw120_0 := hx120_0
       (try rw [show ((1 : Int)).toNat = 1 from rfl] at hw120_0)
       (try rw [show 1 * 1 = 1 from rfl] at hw120_0)
       (try simp only [Nat.reduceMul, Nat.reduceEqDiff, Go.Addr.add, ↓reduceIte] at hw120_0)
       obtain rfl : ad110 = ad120 := (by injection e120)
       (try simp only [show (1 : Int).toNat = 1 from rfl, Nat.reduceMul, Nat.reduceEqDiff, Go.Addr.add, ↓reduceIte] at hx120_0)
       have qi120 : (1 < l0.length) = True := eq_true (by omega)
       (try rw [show ((1 : Int)).toNat = 1 from rfl] at hx120_0)
       replace hx120_0 := up_ HB hx120_0
       replace p120 := eq_true p120
       replace q120 := eq_true q120
       have p121 : 0 ≤ (2 : Int) := (by omega)
       have q121 : 2 < (l0.length : Int) := oda
       obtain ⟨ad121, e121, hx121_0⟩ := Kd.at_int HR0.out 2 p121 q121
       have hw121_0 := hx121_0
       (try rw [show ((2 : Int)).toNat = 2 from rfl] at hw121_0)
       (try rw [show 2 * 1 = 2 from rfl] at hw121_0)
       (try simp only [Nat.reduceMul, Nat.reduceEqDiff, Go.Addr.add, ↓reduceIte] at hw121_0)
       obtain rfl : ad110 = ad121 := (by injection e121)
       (try simp only [show (2 : Int).toNat = 2 from rfl, Nat.reduceMul, Nat.reduceEqDiff, Go.Addr.add, ↓reduceIte] at hx121_0)
       have qi121 : (2 < l0.length) = True := eq_true (by omega)
       (try rw [show ((2 : Int)).toNat = 2 from rfl] at hx121_0)
       replace hx121_0 := up_ HB hx121_0
       replace p121 := eq_true p121
       replace q121 := eq_true q121
       refine start_ (n := 10) (S := fun w' => w'.cell? ⟨ad110.block, ad110.off + 1, none⟩ = some (.int .u8 (rd l0 1)) ∧ w'.cell? ⟨ad110.block, ad110.off + 2, none⟩ = some (.int .u8 (rd l0 2))) (ds := []) #[false, false, false, false, false, false, false, false, false, false] (by kernel_rfl) rfl rfl ⟨((HB.out.cell (World.block_lt_of_cell? w _ hw120_0)).trans hw120_0), ((HB.out.cell (World.block_lt_of_cell? w _ hw121_0)).trans hw121_0)⟩ (fun hHeld => ?_); refine with_tabW code_Decode.tab16 code_Decode.bits16 (fun HT_ HW_ => ?_)
       generalize wc.drew = w69 at BK109 BK115 BK116 HB hx120_0 hx121_0 hHeld ⊢
       refine pz 0 (some 52) ?_ HT_ rfl rfl (by kernel_rfl) (by rfl) ?_ ?_ ?_ ?_
       rotate_left
       ·intro w'
        go_simp
        with_reducible rfl
       rotate_left
       ·simp only [put_l, List.set, i64_w, i32_w]
        rfl
       refine pz 1 (some 53) ?_ HT_ rfl rfl (by kernel_rfl) (by rfl) ?_ ?_ ?_ ?_
       rotate_left
       ·intro w'
        go_simp
        with_reducible rfl
       rotate_left
       ·simp only [put_l, List.set, i64_w, i32_w]
        rfl
       refine pz 3 (some 55) ?_ HT_ rfl rfl (by kernel_rfl) (by rfl) ?_ ?_ ?_ ?_
       rotate_left
       ·intro w'
        go_simp
        with_reducible rfl
       rotate_left
       ·simp only [put_l, List.set, i64_w, i32_w]
        rfl
       refine pz 4 (some 56) ?_ HT_ rfl rfl (by kernel_rfl) (by rfl) ?_ ?_ ?_ ?_
       rotate_left
       ·intro w'
        go_simp
        with_reducible rfl
       rotate_left
       ·simp only [put_l, List.set, i64_w, i32_w]
        rfl
       refine tz 2 (some 54) ?_ HT_ HW_ rfl rfl (by kernel_rfl) (by rfl) ?_ hHeld ?_ ?_ ?_
       rotate_left
       ·rintro w' ⟨s0, s1⟩
        go_simp
        with_reducible rfl
       rotate_left
       ·simp only [put_l, List.set, i64_w, i32_w]
        rfl
       refine tz 5 (some 57) ?_ HT_ HW_ rfl rfl (by kernel_rfl) (by rfl) ?_ hHeld ?_ ?_ ?_
       rotate_left
       ·rintro w' ⟨s0, s1⟩
        go_simp
        with_reducible rfl
       rotate_left
       ·simp only [put_l, List.set, i64_w, i32_w]
        rfl
       refine one_ (i := 6) (N := some 58) #[true, true, true, true, true, true, true, false, false, false] rfl rfl (one_of HT_.out (by kernel_rfl)) (by decide) (fun K hK => ?_)
       refine goes_ Tryd.func37 (by kernel_rfl) rfl #[.int .u8 (rd l0 1), .int .u8 (rd l0 2)] (by rfl) rfl rfl sm ?_
       with_reducible refine (bits_Word.calls (rd l0 1) (rd l0 2) t122 _ A68.out).mono ?_
       rintro e w' ⟨rfl, ⟨nd, rfl⟩⟩
       refine ⟨_, rfl, ?_⟩
       refine hK.out _ _ ⟨((HB.out.cell (World.block_lt_of_cell? w _ hw120_0)).trans hw120_0), ((HB.out.cell (World.block_lt_of_cell? w _ hw121_0)).trans hw121_0)⟩ (fun hHeld => ?_)
       clear hK K
       refine norm_ (a' := ?_) ?_ ?_
       rotate_left
       ·show Act.put _ (some 58) _ = _
        simp only [put_l, List.set, i64_w, i32_w]
        rfl
       refine pz 7 (some 59) ?_ HT_ rfl rfl (by kernel_rfl) (by rfl) ?_ ?_ ?_ ?_
       rotate_left
       ·intro w'
        go_simp
        with_reducible rfl
       rotate_left
       ·simp only [put_l, List.set, i64_w, i32_w]
        rfl
       refine pz 8 (some 60) ?_ HT_ rfl rfl (by kernel_rfl) (by rfl) ?_ ?_ ?_ ?_
       rotate_left
       ·intro w'
        go_simp
        with_reducible rfl
       rotate_left
       ·simp only [put_l, List.set, i64_w, i32_w]
        rfl
       refine one_ (i := 9) (N := none) #[true, true, true, true, true, true, true, true, true, true] rfl rfl (one_of HT_.out (by kernel_rfl)) (by decide) (fun K hK => ?_)
       have hs70 : w69.cell? ⟨gb116, 1, none⟩ = some (.int .i64 0) := (blk_cell BK116.out 1).trans rfl
       have hfs70 := blk_frozen BK116.out 1
       have hns70_0 := NB109_116.out
       have hns70_1 := NB115_116.out
       have hms70_0 := NB116_109.out
       have hms70_1 := NB116_115.out
       refine skip_ (w1 := ?_) (by rfl) rfl ?_ ?_
       rotate_left
       ·go_simp
        rfl
       refine hK.out _ _ ⟨((cell_far (p := ⟨gb116, _, none⟩) (by first | exact Nat.ne_of_lt (Nat.lt_of_lt_of_le (by have := World.block_lt_of_cell? _ _ hw120_0; first | rwa [add_block] at this | exact this) GW116.out) | (rw [add_block]; exact Nat.ne_of_lt (Nat.lt_of_lt_of_le (by have := World.block_lt_of_cell? _ _ hw120_0; first | rwa [add_block] at this | exact this) GW116.out)) | (show (Addr.add _ _).block ≠ _; rw [add_block]; exact Nat.ne_of_lt (Nat.lt_of_lt_of_le (by have := World.block_lt_of_cell? _ _ hw120_0; first | rwa [add_block] at this | exact this) GW116.out)) | (dsimp only; exact Nat.ne_of_lt (Nat.lt_of_lt_of_le (by have := World.block_lt_of_cell? _ _ hw120_0; first | rwa [add_block] at this | exact this) GW116.out))) _).trans (hHeld.1)), ((cell_far (p := ⟨gb116, _, none⟩) (by first | exact Nat.ne_of_lt (Nat.lt_of_lt_of_le (by have := World.block_lt_of_cell? _ _ hw121_0; first | rwa [add_block] at this | exact this) GW116.out) | (rw [add_block]; exact Nat.ne_of_lt (Nat.lt_of_lt_of_le (by have := World.block_lt_of_cell? _ _ hw121_0; first | rwa [add_block] at this | exact this) GW116.out)) | (show (Addr.add _ _).block ≠ _; rw [add_block]; exact Nat.ne_of_lt (Nat.lt_of_lt_of_le (by have := World.block_lt_of_cell? _ _ hw121_0; first | rwa [add_block] at this | exact this) GW116.out)) | (dsimp only; exact Nat.ne_of_lt (Nat.lt_of_lt_of_le (by have := World.block_lt_of_cell? _ _ hw121_0; first | rwa [add_block] at this | exact this) GW116.out))) _).trans (hHeld.2))⟩ (fun hHeld => ?_)
       clear hK K
       refine done_ (done_of HT_.out (by kernel_rfl)) ?_
       try go_wp2
       have n0_ : Aside0 (((w69.drewN nd).setCell ⟨gb116, 1, none⟩ (.int .i64 (wrap64 (t122)))).heap[gb109]? = some (.cells #[.string (⟨#[]⟩ : ByteArray), .int .i64 0] 66 (0, 0))) := ⟨by (with_reducible repeat (first | refine blk_drewN ?_ _ | refine blk_drew ?_ | refine blk_alloc ?_ _)); refine blk_far ?_ NB109_116.out _; (with_reducible repeat (first | refine blk_drewN ?_ _ | refine blk_drew ?_ | refine blk_alloc ?_ _)); exact BK109.out⟩
       have n1_ : Aside0 (((w69.drewN nd).setCell ⟨gb116, 1, none⟩ (.int .i64 (wrap64 (t122)))).heap[gb115]? = some (.cells #[.string t111, .int .u8 t112, .int .i64 t113, .int .i64 t114] 74 (0, 0))) := ⟨by (with_reducible repeat (first | refine blk_drewN ?_ _ | refine blk_drew ?_ | refine blk_alloc ?_ _)); refine blk_far ?_ NB115_116.out _; (with_reducible repeat (first | refine blk_drewN ?_ _ | refine blk_drew ?_ | refine blk_alloc ?_ _)); exact BK115.out⟩
       have n2_ : Aside0 (((w69.drewN nd).setCell ⟨gb116, 1, none⟩ (.int .i64 (wrap64 (t122)))).heap[gb116]? = some (.cells #[.string t111, .int .i64 (wrap64 (t122))] 66 (0, 0))) := ⟨by (with_reducible repeat (first | refine blk_drewN ?_ _ | refine blk_drew ?_ | refine blk_alloc ?_ _)); refine blk_put (cs := #[.string t111, .int .i64 0]) ?_ 1 _ rfl; (with_reducible repeat (first | refine blk_drewN ?_ _ | refine blk_drew ?_ | refine blk_alloc ?_ _)); exact BK116.out⟩
       have n3_ : Aside0 (Below w.heap.size w ((w69.drewN nd).setCell ⟨gb116, 1, none⟩ (.int .i64 (wrap64 (t122))))) := ⟨bw⟩
       (try clear BK109)
       (try clear BK115)
       (try clear BK116)
       (try clear HB)
       generalize ((w69.drewN nd).setCell ⟨gb116, 1, none⟩ (.int .i64 (wrap64 (t122)))) = w71 at n0_ n1_ n2_ n3_ ⊢
       have BK109 := n0_
       have BK115 := n1_
       have BK116 := n2_
       have HB := n3_
       clear n0_ n1_ n2_ n3_
       (try (rw [drewN_self w71]; generalize hq_ : World.drewN w71 _ = w71; have n0_ : Aside0 (w71.heap[gb109]? = some (.cells #[.string (⟨#[]⟩ : ByteArray), .int .i64 0] 66 (0, 0))) := ⟨by rw [← hq_]; exact bk⟩; have n1_ : Aside0 (w71.heap[gb115]? = some (.cells #[.string t111, .int .u8 t112, .int .i64 t113, .int .i64 t114] 74 (0, 0))) := ⟨by rw [← hq_]; exact bk⟩; have n2_ : Aside0 (w71.heap[gb116]? = some (.cells #[.string t111, .int .i64 (wrap64 (t122))] 66 (0, 0))) := ⟨by rw [← hq_]; exact bk⟩; have n3_ : Aside0 (Below w.heap.size w w71) := ⟨by rw [← hq_]; exact bw⟩; clear BK109 BK115 BK116 HB hq_; have BK109 := n0_; have BK115 := n1_; have BK116 := n2_; have HB := n3_; clear n0_ n1_ n2_ n3_))
       have n0_ := Aside0.mk (blk_drew BK109.out)
       have n1_ := Aside0.mk (blk_drew BK115.out)
       have n2_ := Aside0.mk (blk_drew BK116.out)
       have n3_ := Aside0.mk (below_drew1 HB.out)
       clear BK109
       clear BK115
       clear BK116
       clear HB
       have BK109 := n0_
       have BK115 := n1_
       have BK116 := n2_
       have HB := n3_
       clear n0_ n1_ n2_ n3_
       refine start_ (n := 6) (S := fun w' => w'.cell? ⟨gb116, 0, none⟩ = some (.string t111) ∧ w'.cell? ⟨gb116, 1, none⟩ = some (.int .i64 (wrap64 (t122))) ∧ w'.cell? ⟨gb115, 0, none⟩ = some (.string t111) ∧ w'.cell? ⟨gb115, 1, none⟩ = some (.int .u8 t112) ∧ w'.cell? ⟨gb115, 2, none⟩ = some (.int .i64 t113) ∧ w'.cell? ⟨gb115, 3, none⟩ = some (.int .i64 t114)) (ds := []) #[false, false, false, false, false, false] (by kernel_rfl) rfl rfl ⟨(blk_cell BK116.out 0).trans rfl, (blk_cell BK116.out 1).trans rfl, (blk_cell BK115.out 0).trans rfl, (blk_cell BK115.out 1).trans rfl, (blk_cell BK115.out 2).trans rfl, (blk_cell BK115.out 3).trans rfl⟩ (fun hHeld => ?_)
       generalize w71.drew = w72 at BK109 BK115 BK116 HB hHeld ⊢
       refine pure_ (i := 1) (N := some 62) (v := ?_) (a' := ?_) #[false, true, false, false, false, false] rfl rfl (by kernel_rfl) (fun _ _ _ h => h) (Or.inl ⟨by rfl, ?_⟩) ?_ ?_
       rotate_left
       ·intro w'
        go_simp
        with_reducible rfl
       rotate_left
       ·simp only [put_l, List.set, i64_w, i32_w]
        rfl
       refine take_ (i := 0) (N := some 61) (v := ?_) (a' := ?_) #[true, true, false, false, false, false] rfl rfl (by kernel_rfl) (fun _ _ _ h => h) (Or.inl ⟨by rfl, ?_⟩) hHeld ?_ ?_
       rotate_left
       ·rintro w' ⟨s0, s1, s2, s3, s4, s5⟩
        go_simp
        with_reducible rfl
       rotate_left
       ·simp only [put_l, List.set, i64_w, i32_w]
        rfl
       refine take_ (i := 2) (N := some 63) (v := ?_) (a' := ?_) #[true, true, true, false, false, false] rfl rfl (by kernel_rfl) (fun _ _ _ h => h) (Or.inl ⟨by rfl, ?_⟩) hHeld ?_ ?_
       rotate_left
       ·rintro w' ⟨s0, s1, s2, s3, s4, s5⟩
        go_simp
        with_reducible rfl
       rotate_left
       ·simp only [put_l, List.set, i64_w, i32_w]
        rfl
       refine one_ (i := 3) (N := none) #[true, true, true, true, false, false] rfl rfl (by kernel_rfl) (by decide) (fun K hK => ?_)
       have hs73 : w72.cell? ⟨gb109, 0, none⟩ = some (.string (⟨#[]⟩ : ByteArray)) := (blk_cell BK109.out 0).trans rfl
       have hfs73 := blk_frozen BK109.out 0
       have hns73_1 := NB115_109.out
       have hns73_2 := NB116_109.out
       have hms73_1 := NB109_115.out
       have hms73_2 := NB109_116.out
       have hs74 : w72.cell? ⟨gb109, 1, none⟩ = some (.int .i64 0) := (blk_cell BK109.out 1).trans rfl
       have hfs74 := blk_frozen BK109.out 1
       have hns74_1 := NB115_109.out
       have hns74_2 := NB116_109.out
       have hms74_1 := NB109_115.out
       have hms74_2 := NB109_116.out
       refine skip_ (w1 := ?_) (by rfl) rfl ?_ ?_
       rotate_left
       ·go_simp
        rfl
       refine hK.out _ _ ⟨((cell_far (p := ⟨gb109, _, none⟩) NB116_109.out _).trans (((cell_far (p := ⟨gb109, _, none⟩) NB116_109.out _).trans (hHeld.1)))), ((cell_far (p := ⟨gb109, _, none⟩) NB116_109.out _).trans (((cell_far (p := ⟨gb109, _, none⟩) NB116_109.out _).trans (hHeld.2.1)))), ((cell_far (p := ⟨gb109, _, none⟩) NB115_109.out _).trans (((cell_far (p := ⟨gb109, _, none⟩) NB115_109.out _).trans (hHeld.2.2.1)))), ((cell_far (p := ⟨gb109, _, none⟩) NB115_109.out _).trans (((cell_far (p := ⟨gb109, _, none⟩) NB115_109.out _).trans (hHeld.2.2.2.1)))), ((cell_far (p := ⟨gb109, _, none⟩) NB115_109.out _).trans (((cell_far (p := ⟨gb109, _, none⟩) NB115_109.out _).trans (hHeld.2.2.2.2.1)))), ((cell_far (p := ⟨gb109, _, none⟩) NB115_109.out _).trans (((cell_far (p := ⟨gb109, _, none⟩) NB115_109.out _).trans (hHeld.2.2.2.2.2))))⟩ (fun hHeld => ?_)
       clear hK K
       refine pure_ (i := 4) (N := some 3) (v := ?_) (a' := ?_) #[true, true, true, true, true, false] rfl rfl (by kernel_rfl) (fun _ _ _ h => h) (Or.inl ⟨by rfl, ?_⟩) ?_ ?_
       rotate_left
       ·intro w'
        go_simp
        with_reducible rfl
       rotate_left
       ·simp only [put_l, List.set, i64_w, i32_w]
        rfl
       refine pure_ (i := 5) (N := some 4) (v := ?_) (a' := ?_) #[true, true, true, true, true, true] rfl rfl (by kernel_rfl) (fun _ _ _ h => h) (Or.inl ⟨by rfl, ?_⟩) ?_ ?_
       rotate_left
       ·intro w'
        go_simp
        with_reducible rfl
       rotate_left
       ·simp only [put_l, List.set, i64_w, i32_w]
        rfl
       refine done_ (by kernel_rfl) ?_
       try go_wp2
       refine bodyPost_ret (results_ctt rfl _ _ gb109 66 #[.string t111, .int .i64 (wrap64 (t122))] (0, 0) _ rfl (by (with_reducible repeat (first | refine blk_drewN ?_ _ | refine blk_drew ?_ | refine blk_alloc ?_ _)); refine blk_put (cs := #[.string t111, .int .i64 0]) ?_ 1 _ rfl; (with_reducible repeat (first | refine blk_drewN ?_ _ | refine blk_drew ?_ | refine blk_alloc ?_ _)); refine blk_put (cs := #[.string (⟨#[]⟩ : ByteArray), .int .i64 0]) ?_ 0 _ rfl; (with_reducible repeat (first | refine blk_drewN ?_ _ | refine blk_drew ?_ | refine blk_alloc ?_ _)); exact BK109.out) Tryd.underlying66 rfl (by kernel_rfl)) rfl ?_
       exact ⟨ew, bw⟩
      rw [if_neg c67] at H
      exact absurd H (by simp)
     rw [if_neg c66] at H
     exact absurd H (by simp)
    rw [if_neg c65] at H
    have c65b0 : (t112 == 6) = false := beq_eq_false_iff_ne.mpr c65
    have c65b1 : (t112 != 6) = true := bne_iff_ne.mpr c65
    simp only [Option.some.injEq, Prod.mk.injEq] at H
    obtain ⟨rfl, rfl, rfl, rfl⟩ := H
    try go_wp2
    have n0_ := Aside0.mk (blk_drew BK109.out)
    have n1_ := Aside0.mk (blk_drew BK115.out)
    have n2_ := Aside0.mk (blk_drew BK116.out)
    have n3_ := Aside0.mk (below_drew1 HB.out)
    clear BK109
    clear BK115
    clear BK116
    clear HB
    have BK109 := n0_
    have BK115 := n1_
    have BK116 := n2_
    have HB := n3_
    clear n0_ n1_ n2_ n3_
    refine start_ (n := 6) (S := fun w' => w'.cell? ⟨gb116, 0, none⟩ = some (.string t111) ∧ w'.cell? ⟨gb116, 1, none⟩ = some (.int .i64 0) ∧ w'.cell? ⟨gb115, 0, none⟩ = some (.string t111) ∧ w'.cell? ⟨gb115, 1, none⟩ = some (.int .u8 t112) ∧ w'.cell? ⟨gb115, 2, none⟩ = some (.int .i64 t113) ∧ w'.cell? ⟨gb115, 3, none⟩ = some (.int .i64 t114)) (ds := []) #[false, false, false, false, false, false] (by kernel_rfl) rfl rfl ⟨(blk_cell BK116.out 0).trans rfl, (blk_cell BK116.out 1).trans rfl, (blk_cell BK115.out 0).trans rfl, (blk_cell BK115.out 1).trans rfl, (blk_cell BK115.out 2).trans rfl, (blk_cell BK115.out 3).trans rfl⟩ (fun hHeld => ?_)
    generalize wc.drew = w75 at BK109 BK115 BK116 HB hHeld ⊢
    refine pure_ (i := 1) (N := some 62) (v := ?_) (a' := ?_) #[false, true, false, false, false, false] rfl rfl (by kernel_rfl) (fun _ _ _ h => h) (Or.inl ⟨by rfl, ?_⟩) ?_ ?_
    rotate_left
    ·intro w'
     go_simp
     with_reducible rfl
    rotate_left
    ·simp only [put_l, List.set, i64_w, i32_w]
     rfl
    refine take_ (i := 0) (N := some 61) (v := ?_) (a' := ?_) #[true, true, false, false, false, false] rfl rfl (by kernel_rfl) (fun _ _ _ h => h) (Or.inl ⟨by rfl, ?_⟩) hHeld ?_ ?_
    rotate_left
    ·rintro w' ⟨s0, s1, s2, s3, s4, s5⟩
     go_simp
     with_reducible rfl
    rotate_left
    ·simp only [put_l, List.set, i64_w, i32_w]
     rfl
    refine take_ (i := 2) (N := some 63) (v := ?_) (a' := ?_) #[true, true, true, false, false, false] rfl rfl (by kernel_rfl) (fun _ _ _ h => h) (Or.inl ⟨by rfl, ?_⟩) hHeld ?_ ?_
    rotate_left
    ·rintro w' ⟨s0, s1, s2, s3, s4, s5⟩
     go_simp
     with_reducible rfl
    rotate_left
    ·simp only [put_l, List.set, i64_w, i32_w]
     rfl
    refine one_ (i := 3) (N := none) #[true, true, true, true, false, false] rfl rfl (by kernel_rfl) (by decide) (fun K hK => ?_)
    have hs76 : w75.cell? ⟨gb109, 0, none⟩ = some (.string (⟨#[]⟩ : ByteArray)) := (blk_cell BK109.out 0).trans rfl
    have hfs76 := blk_frozen BK109.out 0
    have hns76_1 := NB115_109.out
    have hns76_2 := NB116_109.out
    have hms76_1 := NB109_115.out
    have hms76_2 := NB109_116.out
    have hs77 : w75.cell? ⟨gb109, 1, none⟩ = some (.int .i64 0) := (blk_cell BK109.out 1).trans rfl
    have hfs77 := blk_frozen BK109.out 1
    have hns77_1 := NB115_109.out
    have hns77_2 := NB116_109.out
    have hms77_1 := NB109_115.out
    have hms77_2 := NB109_116.out
    refine skip_ (w1 := ?_) (by rfl) rfl ?_ ?_
    rotate_left
    ·go_simp
     rfl
    refine hK.out _ _ ⟨((cell_far (p := ⟨gb109, _, none⟩) NB116_109.out _).trans (((cell_far (p := ⟨gb109, _, none⟩) NB116_109.out _).trans (hHeld.1)))), ((cell_far (p := ⟨gb109, _, none⟩) NB116_109.out _).trans (((cell_far (p := ⟨gb109, _, none⟩) NB116_109.out _).trans (hHeld.2.1)))), ((cell_far (p := ⟨gb109, _, none⟩) NB115_109.out _).trans (((cell_far (p := ⟨gb109, _, none⟩) NB115_109.out _).trans (hHeld.2.2.1)))), ((cell_far (p := ⟨gb109, _, none⟩) NB115_109.out _).trans (((cell_far (p := ⟨gb109, _, none⟩) NB115_109.out _).trans (hHeld.2.2.2.1)))), ((cell_far (p := ⟨gb109, _, none⟩) NB115_109.out _).trans (((cell_far (p := ⟨gb109, _, none⟩) NB115_109.out _).trans (hHeld.2.2.2.2.1)))), ((cell_far (p := ⟨gb109, _, none⟩) NB115_109.out _).trans (((cell_far (p := ⟨gb109, _, none⟩) NB115_109.out _).trans (hHeld.2.2.2.2.2))))⟩ (fun hHeld => ?_)
    clear hK K
    refine pure_ (i := 4) (N := some 3) (v := ?_) (a' := ?_) #[true, true, true, true, true, false] rfl rfl (by kernel_rfl) (fun _ _ _ h => h) (Or.inl ⟨by rfl, ?_⟩) ?_ ?_
    rotate_left
    ·intro w'
     go_simp
     with_reducible rfl
    rotate_left
    ·simp only [put_l, List.set, i64_w, i32_w]
     rfl
    refine pure_ (i := 5) (N := some 4) (v := ?_) (a' := ?_) #[true, true, true, true, true, true] rfl rfl (by kernel_rfl) (fun _ _ _ h => h) (Or.inl ⟨by rfl, ?_⟩) ?_ ?_
    rotate_left
    ·intro w'
     go_simp
     with_reducible rfl
    rotate_left
    ·simp only [put_l, List.set, i64_w, i32_w]
     rfl
    refine done_ (by kernel_rfl) ?_
    try go_wp2
    refine bodyPost_ret (results_ctt rfl _ _ gb109 66 #[.string t111, .int .i64 0] (0, 0) _ rfl (by (with_reducible repeat (first | refine blk_drewN ?_ _ | refine blk_drew ?_ | refine blk_alloc ?_ _)); refine blk_put (cs := #[.string t111, .int .i64 0]) ?_ 1 _ rfl; (with_reducible repeat (first | refine blk_drewN ?_ _ | refine blk_drew ?_ | refine blk_alloc ?_ _)); refine blk_put (cs := #[.string (⟨#[]⟩ : ByteArray), .int .i64 0]) ?_ 0 _ rfl; (with_reducible repeat (first | refine blk_drewN ?_ _ | refine blk_drew ?_ | refine blk_alloc ?_ _)); exact BK109.out) Tryd.underlying66 rfl (by kernel_rfl)) rfl ?_
    exact ⟨ew, bw⟩
 rw [if_neg c5] at H
 exact absurd H (by simp)

end Go.Proofs.YtbffmfeflcdgbaaDoor.POb
