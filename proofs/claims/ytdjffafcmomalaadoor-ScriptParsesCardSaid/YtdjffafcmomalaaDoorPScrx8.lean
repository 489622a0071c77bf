/- Written by a program of this session (gprint.py, over the kit's printer): functions of the seat YtdjffafcmomalaaDoor and their contracts. No condition but each contract's own. -/
import Derived.Test.YtdjffafcmomalaaDoorScrM3
import Derived.Test.YtdjffafcmomalaaDoorPScrx0
import Derived.Test.YtdjffafcmomalaaDoorPScrx5
import Derived.Test.YtdjffafcmomalaaDoorPScrx6
import Derived.Test.YtdjffafcmomalaaDoorPScrx7
namespace Go.Proofs.YtdjffafcmomalaaDoor.PScr
open Go.RowKit Go.Proofs.YtdjffafcmomalaaDoorW.PrintWords Go.Proofs.YtdjffafcmomalaaDoorW.PrintLast Go.Proofs.YtdjffafcmomalaaDoorW.PrintMore
open Go.Proofs.YtdjffafcmomalaaDoor.Scr (GOk)
attribute [local go_sem] max2_int min2_int max_two min_two max_three min_three max_four min_four   -- for this text's walks alone
set_option linter.unusedVariables false
set_option linter.unusedSimpArgs false

/-! ### vesperref07_Span: function 45 -/
def vesperref07_Span.l0 : Nat → ByteArray → List ByteArray → Int → Int → Int → Bool → Bool → Bool → Bool → Bool → Bool → Bool → Int → Option (Int × Int × Bool × Bool × Bool × Bool × Bool × Bool × Bool × Int × Bool)
  | 0, _, _, _, _, _, _, _, _, _, _, _, _, _ => none
  | k + 1, x0, x4, x6, x179000, x179001, x179002, x179003, x179004, x179005, x179006, x179007, x179008, x179009 => if x6 < (x4.length : Int) then (if 0 ≤ x6 then (if (rdOf ByteArray.empty x4 x6).toList = ([107, 101, 121, 115] : List UInt8) then ((vesperref07_hex.f k x4 (wrap64 (x6 + 1))).bind fun t181 => (vesperref07_Span.l0 k x0 x4 (wrap64 (x6 + 1)) x179000 (IntKind.u16.wrap (t181)) x179002 x179003 x179004 x179005 x179006 x179007 x179008 x179009)) else (if (rdOf ByteArray.empty x4 x6).toList = ([116, 97, 112, 101] : List UInt8) then (vesperref07_Span.l0 k x0 x4 (wrap64 (x6 + 1)) x179000 x179001 true x179003 x179004 x179005 x179006 x179007 x179008 x179009) else (if (rdOf ByteArray.empty x4 x6).toList = ([102, 108, 97, 103] : List UInt8) then (vesperref07_Span.l0 k x0 x4 (wrap64 (x6 + 1)) x179000 x179001 x179002 true x179004 x179005 x179006 x179007 x179008 x179009) else (if (rdOf ByteArray.empty x4 x6).toList = ([105, 110] : List UInt8) then (vesperref07_Span.l0 k x0 x4 (wrap64 (x6 + 1)) x179000 x179001 x179002 x179003 true x179005 x179006 x179007 x179008 x179009) else (if (rdOf ByteArray.empty x4 x6).toList = ([111, 117, 116] : List UInt8) then (vesperref07_Span.l0 k x0 x4 (wrap64 (x6 + 1)) x179000 x179001 x179002 x179003 x179004 true x179006 x179007 x179008 x179009) else (if (rdOf ByteArray.empty x4 x6).toList = ([105, 110, 116] : List UInt8) then (vesperref07_Span.l0 k x0 x4 (wrap64 (x6 + 1)) x179000 x179001 x179002 x179003 x179004 x179005 true x179007 x179008 x179009) else (if (rdOf ByteArray.empty x4 x6).toList = ([99, 108, 101, 97, 114] : List UInt8) then (vesperref07_Span.l0 k x0 x4 (wrap64 (x6 + 1)) x179000 x179001 x179002 x179003 x179004 x179005 x179006 true x179008 x179009) else (if (rdOf ByteArray.empty x4 x6).toList = ([119, 97, 105, 116] : List UInt8) then (vesperref07_Span.l0 k x0 x4 (wrap64 (x6 + 1)) x179000 x179001 x179002 x179003 x179004 x179005 x179006 x179007 true x179009) else (if (rdOf ByteArray.empty x4 x6).toList = ([98, 117, 115] : List UInt8) then ((vesperref07_hex.f k x4 (wrap64 (x6 + 1))).bind fun t182 => (vesperref07_Span.l0 k x0 x4 (wrap64 (x6 + 1)) x179000 x179001 x179002 x179003 x179004 x179005 x179006 x179007 x179008 ((Int.tmod t182 256) % 256))) else (vesperref07_Span.l0 k x0 x4 (wrap64 (x6 + 1)) x179000 x179001 x179002 x179003 x179004 x179005 x179006 x179007 x179008 x179009)))))))))) else (none)) else (if x179000 ≥ 1 then (if x179000 ≤ 1048576 then ((vesperref07_Line.f k x179000 x179001 x179002 x179003 x179004 x179005 x179006 x179007 x179008 x179009).bind fun t179 => (some (x179000, x179001, x179002, x179003, x179004, x179005, x179006, x179007, x179008, x179009, (t179.toList == x0.toList)))) else (some (x179000, x179001, x179002, x179003, x179004, x179005, x179006, x179007, x179008, x179009, false))) else (some (x179000, x179001, x179002, x179003, x179004, x179005, x179006, x179007, x179008, x179009, false)))
def vesperref07_Span.f (k : Nat) (a0 : ByteArray) : Option (Int × Int × Bool × Bool × Bool × Bool × Bool × Bool × Bool × Int × Bool) := if (a0.size : Int) > 100 then (some (0, 0, false, false, false, false, false, false, false, 0, false)) else ((vesperref07_Words.f k a0).bind fun t173 => (if 0 < (t173.length : Int) then ((vesperref07_decimal.f k (rdOf ByteArray.empty t173 0)).bind fun t177 => (vesperref07_Span.l0 k a0 t173 1 t177 0 false false false false false false false 0)) else (none)))
theorem vesperref07_Span.mono_l : ∀ k, (∀ y0 y1 y2 y3 y4 y5 y6 y7 y8 y9 y10 y11 y12, LeO (vesperref07_Span.l0 k y0 y1 y2 y3 y4 y5 y6 y7 y8 y9 y10 y11 y12) (vesperref07_Span.l0 (k + 1) y0 y1 y2 y3 y4 y5 y6 y7 y8 y9 y10 y11 y12))
  | 0 => fun _ _ _ _ _ _ _ _ _ _ _ _ _ r h => by simp [vesperref07_Span.l0] at h
  | k + 1 => by
    have ih0 := vesperref07_Span.mono_l k
    · intro y0 y1 y2 y3 y4 y5 y6 y7 y8 y9 y10 y11 y12
      unfold vesperref07_Span.l0
      repeat' first
      | (with_reducible exact ih0 _ _ _ _ _ _ _ _ _ _ _ _ _)
      | (with_reducible exact vesperref07_Line.mono _ _ _ _ _ _ _ _ _ _ _)
      | (with_reducible exact vesperref07_Words.mono _ _)
      | (with_reducible exact vesperref07_decimal.mono _ _)
      | (with_reducible exact vesperref07_hex.mono _ _ _)
      | (with_reducible exact LeO.refl _)
      | (with_reducible exact LeO.none _)
      | (with_reducible refine LeO.ite ?_ ?_)
      | (with_reducible refine LeO.bind ?_ (fun _ => ?_))
      | exact ih0 _ _ _ _ _ _ _ _ _ _ _ _ _
      | exact vesperref07_Line.mono _ _ _ _ _ _ _ _ _ _ _
      | exact vesperref07_Words.mono _ _
      | exact vesperref07_decimal.mono _ _
      | exact vesperref07_hex.mono _ _ _
      | exact LeO.none _
      | refine LeO.ite ?_ ?_
      | refine LeO.bind ?_ (fun _ => ?_)
theorem vesperref07_Span.mono : ∀ a0 k, LeO (vesperref07_Span.f k a0) (vesperref07_Span.f (k + 1) a0) := by
  intro a0 k
  have ih0 := vesperref07_Span.mono_l k
  unfold vesperref07_Span.f
  repeat' first
      | (with_reducible exact ih0 _ _ _ _ _ _ _ _ _ _ _ _ _)
      | (with_reducible exact vesperref07_Line.mono _ _ _ _ _ _ _ _ _ _ _)
      | (with_reducible exact vesperref07_Words.mono _ _)
      | (with_reducible exact vesperref07_decimal.mono _ _)
      | (with_reducible exact vesperref07_hex.mono _ _ _)
      | (with_reducible exact LeO.refl _)
      | (with_reducible exact LeO.none _)
      | (with_reducible refine LeO.ite ?_ ?_)
      | (with_reducible refine LeO.bind ?_ (fun _ => ?_))
      | exact ih0 _ _ _ _ _ _ _ _ _ _ _ _ _
      | exact vesperref07_Line.mono _ _ _ _ _ _ _ _ _ _ _
      | exact vesperref07_Words.mono _ _
      | exact vesperref07_decimal.mono _ _
      | exact vesperref07_hex.mono _ _ _
      | exact LeO.none _
      | refine LeO.ite ?_ ?_
      | refine LeO.bind ?_ (fun _ => ?_)
def vesperref07_Span.T28 : Bool × List (List Nat × List Nat) := (true, [([], []), ([], []), ([1], [1]), ([2], [2]), ([3, 2, 2], [2, 3]), ([2], [2]), ([4, 5, 2], [2, 4, 5]), ([2, 6], [2, 6]), ([0, 4, 0], [0]), ([7, 8, 0, 1, 2, 3, 4, 5, 6, 7, 8], [7])])
def vesperref07_Span.B28 : List Nat := [0, 0, 2, 6, 14, 6, 62, 126, 31, 511]
theorem vesperref07_Span.tab28 : rtab .any (opsOf Tryd.f45 28) = vesperref07_Span.T28 := by kernel_rfl
theorem vesperref07_Span.bits28 : waitsOk vesperref07_Span.T28.2 vesperref07_Span.B28 = true := by kernel_rfl
set_option maxHeartbeats 8000000 in
set_option maxRecDepth 100000 in
theorem vesperref07_Span.calls (k : Nat) (a0 : ByteArray) (r1 : Int) (r2 : Int) (r3 : Bool) (r4 : Bool) (r5 : Bool) (r6 : Bool) (r7 : Bool) (r8 : Bool) (r9 : Bool) (r10 : Int) (r11 : Bool) (w : World) (h : vesperref07_Span.f k a0 = some (r1, r2, r3, r4, r5, r6, r7, r8, r9, r10, r11)) (hG : GOk w := by first | exact HG.out | exact GOk.below HG.out HB.out | exact GOk.below HG.out (by repeat (first | (with_reducible first | exact HB.out | apply below_alloc | apply pw_below_drewN | apply below_drew1) | exact HB.out))) :
    Calls Tryd.prog 45 #[.string a0] w fun e w' => e = .returned (.tuple #[.agg #[.int .i64 r1, .int .u16 r2, .bool r3, .bool r4, .bool r5, .bool r6, .bool r7, .bool r8, .bool r9, .int .u8 r10], .bool r11]) ∧ Below w.heap.size w w' := by
  have HG := Aside0.mk hG
  clear hG
  have hu34 := Tryd.underlying34
  have HB := Aside0.mk (Below.refl w.heap.size w)
  have H : (if (a0.size : Int) > 100 then (some (0, 0, false, false, false, false, false, false, false, 0, false)) else ((vesperref07_Words.f k a0).bind fun t173 => (if 0 < (t173.length : Int) then ((vesperref07_decimal.f k (rdOf ByteArray.empty t173 0)).bind fun t177 => (vesperref07_Span.l0 k a0 t173 1 t177 0 false false false false false false false 0)) else (none)))) = some (r1, r2, r3, r4, r5, r6, r7, r8, r9, r10, r11) := h
  clear h
  by_cases c2 : (a0.size : Int) > 100
  · rw [if_pos c2] at H
    have c2b0 : decide (100 < (a0.size : Int)) = true := decide_eq_true c2
    have c2b1 : decide (100 < a0.size) = true := decide_eq_true (by omega)
    clear c2
    simp only [Option.some.injEq, Prod.mk.injEq] at H
    obtain ⟨rfl, rfl, rfl, rfl, rfl, rfl, rfl, rfl, rfl, rfl, rfl⟩ := H
    go_enter Tryd.func45, Tryd.ntmps45
    go_wp2_with (first | ((with_reducible refine gate_dst (N := 2) rfl ?_); refine box_event ?hg (N := 2) ?hd (cs := #[.int .i64 0, .int .u16 0, .bool false, .bool false, .bool false, .bool false, .bool false, .bool false, .bool false, .int .u8 0]) (t := 34) ?hr ?_; (case hd => rfl); (case hg => rfl); (case hr => first | (go_simp; done) | (go_simp; rfl)); intro gb172 hg w3 hbox hb; have n0_ := Aside0.mk (below_step (by repeat (first | (with_reducible first | exact HB.out | apply below_alloc | apply pw_below_drewN | apply below_drew1) | exact HB.out)) hb); have n1_ := Aside0.mk (hbox); have n2_ := Aside0.mk ((by rw [hg]; exact (below_size (by repeat (first | (with_reducible first | exact HB.out | apply below_alloc | apply pw_below_drewN | apply below_drew1) | exact HB.out))) : w.heap.size ≤ gb172)); have n3_ := Aside0.mk ((by rw [hg]; exact (below_size (by repeat (first | (with_reducible first | exact HB.out | apply below_alloc | apply pw_below_drewN | apply below_drew1) | exact HB.out))) : w.heap.size ≤ gb172)); clear HB; have HB := n0_; have BK172 := n1_; have GW172 := n2_; have GE172 := n3_; clear n0_ n1_ n2_ n3_; clear hb hbox hg; have hcz4_0 : w3.cell? ⟨gb172, 0, none⟩ = some (.int .i64 0) := (blk_cell BK172.out 0).trans rfl; have hcz4_1 : w3.cell? ⟨gb172, 1, none⟩ = some (.int .u16 0) := (blk_cell BK172.out 1).trans rfl; have hcz4_2 : w3.cell? ⟨gb172, 2, none⟩ = some (.bool false) := (blk_cell BK172.out 2).trans rfl; have hcz4_3 : w3.cell? ⟨gb172, 3, none⟩ = some (.bool false) := (blk_cell BK172.out 3).trans rfl; have hcz4_4 : w3.cell? ⟨gb172, 4, none⟩ = some (.bool false) := (blk_cell BK172.out 4).trans rfl; have hcz4_5 : w3.cell? ⟨gb172, 5, none⟩ = some (.bool false) := (blk_cell BK172.out 5).trans rfl; have hcz4_6 : w3.cell? ⟨gb172, 6, none⟩ = some (.bool false) := (blk_cell BK172.out 6).trans rfl; have hcz4_7 : w3.cell? ⟨gb172, 7, none⟩ = some (.bool false) := (blk_cell BK172.out 7).trans rfl; have hcz4_8 : w3.cell? ⟨gb172, 8, none⟩ = some (.bool false) := (blk_cell BK172.out 8).trans rfl; have hcz4_9 : w3.cell? ⟨gb172, 9, none⟩ = some (.int .u8 0) := (blk_cell BK172.out 9).trans rfl; have hfz4_0 := blk_frozen BK172.out 0; have hfz4_1 := blk_frozen BK172.out 1; have hfz4_2 := blk_frozen BK172.out 2; have hfz4_3 := blk_frozen BK172.out 3; have hfz4_4 := blk_frozen BK172.out 4; have hfz4_5 := blk_frozen BK172.out 5; have hfz4_6 := blk_frozen BK172.out 6; have hfz4_7 := blk_frozen BK172.out 7; have hfz4_8 := blk_frozen BK172.out 8; have hfz4_9 := blk_frozen BK172.out 9))
    refine bodyPost_ret (results_ct rfl _ _ gb172 34 #[.int .i64 0, .int .u16 0, .bool false, .bool false, .bool false, .bool false, .bool false, .bool false, .bool false, .int .u8 0] (0, 0) _ rfl (by (with_reducible repeat (first | refine blk_drewN ?_ _ | refine blk_drew ?_ | refine blk_alloc ?_ _)); refine blk_put (cs := #[.int .i64 0, .int .u16 0, .bool false, .bool false, .bool false, .bool false, .bool false, .bool false, .bool false, .int .u8 0]) ?_ 9 _ rfl; (with_reducible repeat (first | refine blk_drewN ?_ _ | refine blk_drew ?_ | refine blk_alloc ?_ _)); refine blk_put (cs := #[.int .i64 0, .int .u16 0, .bool false, .bool false, .bool false, .bool false, .bool false, .bool false, .bool false, .int .u8 0]) ?_ 8 _ rfl; (with_reducible repeat (first | refine blk_drewN ?_ _ | refine blk_drew ?_ | refine blk_alloc ?_ _)); refine blk_put (cs := #[.int .i64 0, .int .u16 0, .bool false, .bool false, .bool false, .bool false, .bool false, .bool false, .bool false, .int .u8 0]) ?_ 7 _ rfl; (with_reducible repeat (first | refine blk_drewN ?_ _ | refine blk_drew ?_ | refine blk_alloc ?_ _)); refine blk_put (cs := #[.int .i64 0, .int .u16 0, .bool false, .bool false, .bool false, .bool false, .bool false, .bool false, .bool false, .int .u8 0]) ?_ 6 _ rfl; (with_reducible repeat (first | refine blk_drewN ?_ _ | refine blk_drew ?_ | refine blk_alloc ?_ _)); refine blk_put (cs := #[.int .i64 0, .int .u16 0, .bool false, .bool false, .bool false, .bool false, .bool false, .bool false, .bool false, .int .u8 0]) ?_ 5 _ rfl; (with_reducible repeat (first | refine blk_drewN ?_ _ | refine blk_drew ?_ | refine blk_alloc ?_ _)); refine blk_put (cs := #[.int .i64 0, .int .u16 0, .bool false, .bool false, .bool false, .bool false, .bool false, .bool false, .bool false, .int .u8 0]) ?_ 4 _ rfl; (with_reducible repeat (first | refine blk_drewN ?_ _ | refine blk_drew ?_ | refine blk_alloc ?_ _)); refine blk_put (cs := #[.int .i64 0, .int .u16 0, .bool false, .bool false, .bool false, .bool false, .bool false, .bool false, .bool false, .int .u8 0]) ?_ 3 _ rfl; (with_reducible repeat (first | refine blk_drewN ?_ _ | refine blk_drew ?_ | refine blk_alloc ?_ _)); refine blk_put (cs := #[.int .i64 0, .int .u16 0, .bool false, .bool false, .bool false, .bool false, .bool false, .bool false, .bool false, .int .u8 0]) ?_ 2 _ rfl; (with_reducible repeat (first | refine blk_drewN ?_ _ | refine blk_drew ?_ | refine blk_alloc ?_ _)); refine blk_put (cs := #[.int .i64 0, .int .u16 0, .bool false, .bool false, .bool false, .bool false, .bool false, .bool false, .bool false, .int .u8 0]) ?_ 1 _ rfl; (with_reducible repeat (first | refine blk_drewN ?_ _ | refine blk_drew ?_ | refine blk_alloc ?_ _)); refine blk_put (cs := #[.int .i64 0, .int .u16 0, .bool false, .bool false, .bool false, .bool false, .bool false, .bool false, .bool false, .int .u8 0]) ?_ 0 _ rfl; (with_reducible repeat (first | refine blk_drewN ?_ _ | refine blk_drew ?_ | refine blk_alloc ?_ _)); exact BK172.out) Tryd.underlying34 rfl (by kernel_rfl)) rfl ?_
    exact ⟨by first | rfl | (simp [errW_none, errW_some] <;> rfl) | (simp [*, errW_none, errW_some] <;> rfl), by repeat (first | (with_reducible first | exact HB.out | apply below_alloc | apply pw_below_drewN | apply below_drew1 | refine below_set ?_ GE172.out) | exact HB.out)⟩
  · rw [if_neg c2] at H
    have c2b0 : decide (100 < (a0.size : Int)) = false := decide_eq_false c2
    have c2b1 : decide (100 < a0.size) = false := decide_eq_false (by omega)
    clear c2
    replace H := Option.bind_eq_some_iff.mp H
    obtain ⟨t173, A50, H⟩ := H
    replace H : (if 0 < (t173.length : Int) then ((vesperref07_decimal.f k (rdOf ByteArray.empty t173 0)).bind fun t177 => (vesperref07_Span.l0 k a0 t173 1 t177 0 false false false false false false false 0)) else (none)) = some (r1, r2, r3, r4, r5, r6, r7, r8, r9, r10, r11) := H
    have A5 := Aside0.mk A50
    clear A50
    by_cases c6 : 0 < (t173.length : Int)
    · rw [if_pos c6] at H
      have c6b0 : decide (0 < (t173.length : Int)) = true := decide_eq_true c6
      have c6b1 : decide (0 < t173.length) = true := decide_eq_true (by omega)
      clear c6
      replace H := Option.bind_eq_some_iff.mp H
      obtain ⟨t177, A70, H⟩ := H
      replace H : (vesperref07_Span.l0 k a0 t173 1 t177 0 false false false false false false false 0) = some (r1, r2, r3, r4, r5, r6, r7, r8, r9, r10, r11) := H
      have A7 := Aside0.mk A70
      clear A70
      have H' := Aside0.mk H
      clear H
      go_enter Tryd.func45, Tryd.ntmps45
      go_wp2_with (first | ((with_reducible refine gate_dst (N := 2) rfl ?_); refine box_event ?hg (N := 2) ?hd (cs := #[.int .i64 0, .int .u16 0, .bool false, .bool false, .bool false, .bool false, .bool false, .bool false, .bool false, .int .u8 0]) (t := 34) ?hr ?_; (case hd => rfl); (case hg => rfl); (case hr => first | (go_simp; done) | (go_simp; rfl)); intro gb172 hg w8 hbox hb; have n0_ := Aside0.mk (below_step (by repeat (first | (with_reducible first | exact HB.out | apply below_alloc | apply pw_below_drewN | apply below_drew1) | exact HB.out)) hb); have n1_ := Aside0.mk (hbox); have n2_ := Aside0.mk ((by rw [hg]; exact (below_size (by repeat (first | (with_reducible first | exact HB.out | apply below_alloc | apply pw_below_drewN | apply below_drew1) | exact HB.out))) : w.heap.size ≤ gb172)); have n3_ := Aside0.mk ((by rw [hg]; exact (below_size (by repeat (first | (with_reducible first | exact HB.out | apply below_alloc | apply pw_below_drewN | apply below_drew1) | exact HB.out))) : w.heap.size ≤ gb172)); clear HB; have HB := n0_; have BK172 := n1_; have GW172 := n2_; have GE172 := n3_; clear n0_ n1_ n2_ n3_; clear hb hbox hg) | ((with_reducible refine gate_callee (f := 65) rfl ?_); refine goesL_ (some 13) rfl rfl Tryd.func65 (by kernel_rfl) rfl #[.string a0] rfl (by (try simp only [List.map_toArray, List.map_cons, List.map_nil]); first | done | rfl | (simp only [List.length_drop, List.length_take]; rfl)) ?_; (with_reducible refine (vesperref07_Words.calls k a0 t173 _ A5.out).mono ?_); rintro e w9 ⟨v174, rfl, ho0, hb⟩; refine ⟨_, rfl, ?_⟩; have n0_ := Aside0.mk (Kd.R_lower ho0 (below_size (by repeat (first | (with_reducible first | exact HB.out | apply below_alloc | apply pw_below_drewN | apply below_drew1 | refine below_set ?_ GE172.out) | exact HB.out)))); have n1_ := Aside0.mk (blk_below (g := gb172) (o := .cells #[.int .i64 0, .int .u16 0, .bool false, .bool false, .bool false, .bool false, .bool false, .bool false, .bool false, .int .u8 0] 34 (0, 0)) (by (with_reducible repeat (first | refine blk_drewN ?_ _ | refine blk_drew ?_ | refine blk_alloc ?_ _)); exact BK172.out) hb); have n2_ := Aside0.mk (below_step (by repeat (first | (with_reducible first | exact HB.out | apply below_alloc | apply pw_below_drewN | apply below_drew1 | refine below_set ?_ GE172.out) | exact HB.out)) hb); clear BK172; clear HB; have HO175 := n0_; have BK172 := n1_; have HB := n2_; clear n0_ n1_ n2_; (try clear hb); (try clear hb2); (try clear hk); (try clear hi); (try clear ho0); obtain ⟨Ao10, co10, eo10⟩ := Kd.R_slice HO175.out; subst eo10; have p176 : 0 ≤ (0 : Int) := (by omega); have q176 : 0 < (t173.length : Int) := of_decide_eq_true (by first | (with_reducible assumption) | assumption); obtain ⟨ad176, e176, hx176_0⟩ := Kd.at_string (Kd.R_reads' HO175.out).2.2 0 p176 q176; cases e176; have qi176 : (0 < t173.length) = True := eq_true (by omega); (try rw [show ((0 : Int)).toNat = 0 from rfl] at hx176_0); (try rw [Addr.add_zero'] at hx176_0); replace p176 := eq_true p176; replace q176 := eq_true q176) | ((with_reducible refine gate_callee (f := 66) rfl ?_); refine goesL_ (some 17) rfl rfl Tryd.func66 (by kernel_rfl) rfl #[.string (rdOf ByteArray.empty t173 0)] rfl (by (try simp only [List.map_toArray, List.map_cons, List.map_nil]); first | done | rfl | (simp only [List.length_drop, List.length_take]; rfl)) ?_; (with_reducible refine (vesperref07_decimal.calls k (rdOf ByteArray.empty t173 0) t177 _ A7.out).mono ?_); rintro e w' ⟨rfl, ⟨nd, rfl⟩⟩; refine ⟨_, rfl, ?_⟩; (try (rw [drewN_self w9]; generalize hq_ : World.drewN w9 _ = w9; have n0_ : Aside0 (Kd.R Kd.string 9 w9 w.heap.size (fun _ => True) (.slice (some ad176) t173.length co10) t173) := ⟨by rw [← hq_]; exact (by (with_reducible repeat (first | apply Kd.R_alloc | apply Kd.R_drewN | apply Kd.R_drew)); exact HO175.out)⟩; have n1_ : Aside0 (w9.heap[gb172]? = some (.cells #[.int .i64 0, .int .u16 0, .bool false, .bool false, .bool false, .bool false, .bool false, .bool false, .bool false, .int .u8 0] 34 (0, 0))) := ⟨by rw [← hq_]; exact (by (with_reducible repeat (first | refine blk_drewN ?_ _ | refine blk_drew ?_ | refine blk_alloc ?_ _)); exact BK172.out)⟩; have n2_ : Aside0 (Below w.heap.size w w9) := ⟨by rw [← hq_]; exact (by repeat (first | (with_reducible first | exact HB.out | apply below_alloc | apply pw_below_drewN | apply below_drew1 | refine below_set ?_ GE172.out) | exact HB.out))⟩; clear HO175 BK172 HB hq_; have HO175 := n0_; have BK172 := n1_; have HB := n2_; clear n0_ n1_ n2_))) | ((with_reducible refine gate_dst (N := 5) rfl ?_); refine box_event ?hg (N := 5) ?hd (cs := #[.int .i64 0, .int .u16 0, .bool false, .bool false, .bool false, .bool false, .bool false, .bool false, .bool false, .int .u8 0]) (t := 34) ?hr ?_; (case hd => rfl); (case hg => rfl); (case hr => first | (go_simp; done) | (go_simp; rfl)); intro gb178 hg w11 hbox hb; have n0_ := Aside0.mk (Kd.R_below (by (with_reducible repeat (first | apply Kd.R_alloc | apply Kd.R_drewN | apply Kd.R_drew)); exact HO175.out) hb); have n1_ := Aside0.mk (blk_below (g := gb172) (o := .cells #[.int .i64 0, .int .u16 0, .bool false, .bool false, .bool false, .bool false, .bool false, .bool false, .bool false, .int .u8 0] 34 (0, 0)) (by (with_reducible repeat (first | refine blk_drewN ?_ _ | refine blk_drew ?_ | refine blk_alloc ?_ _)); exact BK172.out) hb); have n2_ := Aside0.mk (below_step (by repeat (first | (with_reducible first | exact HB.out | apply below_alloc | apply pw_below_drewN | apply below_drew1 | refine below_set ?_ GE172.out) | exact HB.out)) hb); have n3_ := Aside0.mk (hbox); have n4_ := Aside0.mk ((by rw [hg]; exact (below_size (by repeat (first | (with_reducible first | exact HB.out | apply below_alloc | apply pw_below_drewN | apply below_drew1 | refine below_set ?_ GE172.out) | exact HB.out))) : w.heap.size ≤ gb178)); have n5_ := Aside0.mk ((by rw [hg]; exact (below_size (by repeat (first | (with_reducible first | exact HB.out | apply below_alloc | apply pw_below_drewN | apply below_drew1 | refine below_set ?_ GE172.out) | exact HB.out))) : w.heap.size ≤ gb178)); have n6_ := Aside0.mk ((by rw [hg]; exact Nat.ne_of_lt (blk_lt (g := gb172) (o := .cells #[.int .i64 0, .int .u16 0, .bool false, .bool false, .bool false, .bool false, .bool false, .bool false, .bool false, .int .u8 0] 34 (0, 0)) (by (with_reducible repeat (first | refine blk_drewN ?_ _ | refine blk_drew ?_ | refine blk_alloc ?_ _)); exact BK172.out)) : gb172 ≠ gb178)); have n7_ := Aside0.mk ((by rw [hg]; exact Nat.ne_of_gt (blk_lt (g := gb172) (o := .cells #[.int .i64 0, .int .u16 0, .bool false, .bool false, .bool false, .bool false, .bool false, .bool false, .bool false, .int .u8 0] 34 (0, 0)) (by (with_reducible repeat (first | refine blk_drewN ?_ _ | refine blk_drew ?_ | refine blk_alloc ?_ _)); exact BK172.out)) : gb178 ≠ gb172)); clear HO175; clear BK172; clear HB; have HO175 := n0_; have BK172 := n1_; have HB := n2_; have BK178 := n3_; have GW178 := n4_; have GE178 := n5_; have NB172_178 := n6_; have NB178_172 := n7_; clear n0_ n1_ n2_ n3_ n4_ n5_ n6_ n7_; clear hb hbox hg; have hnb12 := NB178_172.out; have hnc12 := NB172_178.out; have hcz13_0 : w11.cell? ⟨gb178, 0, none⟩ = some (.int .i64 0) := (blk_cell BK178.out 0).trans rfl; have hcz13_1 : w11.cell? ⟨gb178, 1, none⟩ = some (.int .u16 0) := (blk_cell BK178.out 1).trans rfl; have hcz13_2 : w11.cell? ⟨gb178, 2, none⟩ = some (.bool false) := (blk_cell BK178.out 2).trans rfl; have hcz13_3 : w11.cell? ⟨gb178, 3, none⟩ = some (.bool false) := (blk_cell BK178.out 3).trans rfl; have hcz13_4 : w11.cell? ⟨gb178, 4, none⟩ = some (.bool false) := (blk_cell BK178.out 4).trans rfl; have hcz13_5 : w11.cell? ⟨gb178, 5, none⟩ = some (.bool false) := (blk_cell BK178.out 5).trans rfl; have hcz13_6 : w11.cell? ⟨gb178, 6, none⟩ = some (.bool false) := (blk_cell BK178.out 6).trans rfl; have hcz13_7 : w11.cell? ⟨gb178, 7, none⟩ = some (.bool false) := (blk_cell BK178.out 7).trans rfl; have hcz13_8 : w11.cell? ⟨gb178, 8, none⟩ = some (.bool false) := (blk_cell BK178.out 8).trans rfl; have hcz13_9 : w11.cell? ⟨gb178, 9, none⟩ = some (.int .u8 0) := (blk_cell BK178.out 9).trans rfl; have hfz13_0 := blk_frozen BK178.out 0; have hfz13_1 := blk_frozen BK178.out 1; have hfz13_2 := blk_frozen BK178.out 2; have hfz13_3 := blk_frozen BK178.out 3; have hfz13_4 := blk_frozen BK178.out 4; have hfz13_5 := blk_frozen BK178.out 5; have hfz13_6 := blk_frozen BK178.out 6; have hfz13_7 := blk_frozen BK178.out 7; have hfz13_8 := blk_frozen BK178.out 8; have hfz13_9 := blk_frozen BK178.out 9))
      go_loopg [6] k (fun kq v6 w' => ∃ (x6_1 : Int) (x179001_1 : Int) (x179002_1 : Bool) (x179003_1 : Bool) (x179004_1 : Bool) (x179005_1 : Bool) (x179006_1 : Bool) (x179007_1 : Bool) (x179008_1 : Bool) (x179009_1 : Int), v6 = .int .i64 x6_1 ∧ Aside0 (vesperref07_Span.l0 kq a0 t173 x6_1 t177 x179001_1 x179002_1 x179003_1 x179004_1 x179005_1 x179006_1 x179007_1 x179008_1 x179009_1 = some (r1, r2, r3, r4, r5, r6, r7, r8, r9, r10, r11)) ∧ Aside0 (kq ≤ k) ∧ Aside0 (Kd.R Kd.string 9 w' w.heap.size (fun _ => True) (.slice (some ad176) t173.length co10) t173) ∧ Aside0 (w'.heap[gb172]? = some (.cells #[.int .i64 0, .int .u16 0, .bool false, .bool false, .bool false, .bool false, .bool false, .bool false, .bool false, .int .u8 0] 34 (0, 0))) ∧ Aside0 (w'.heap[gb178]? = some (.cells #[.int .i64 t177, .int .u16 x179001_1, .bool x179002_1, .bool x179003_1, .bool x179004_1, .bool x179005_1, .bool x179006_1, .bool x179007_1, .bool x179008_1, .int .u8 x179009_1] 34 (0, 0))) ∧ Aside0 (Below w.heap.size w w'))
      case atStart => exact ⟨(1), (0), (false), (false), (false), (false), (false), (false), (false), (0), (by first | rfl | (simp; done) | (simp [*]; done)), H', ⟨Nat.le_refl _⟩, ⟨by (with_reducible repeat (first | apply Kd.R_alloc | apply Kd.R_drewN | apply Kd.R_drew)); exact Kd.R_mono (Kd.R_far (p := ⟨gb178, 9, none⟩) (Kd.R_far (p := ⟨gb178, 8, none⟩) (Kd.R_far (p := ⟨gb178, 7, none⟩) (Kd.R_far (p := ⟨gb178, 6, none⟩) (Kd.R_far (p := ⟨gb178, 5, none⟩) (Kd.R_far (p := ⟨gb178, 4, none⟩) (Kd.R_far (p := ⟨gb178, 3, none⟩) (Kd.R_far (p := ⟨gb178, 2, none⟩) (Kd.R_far (p := ⟨gb178, 1, none⟩) (Kd.R_far (p := ⟨gb178, 0, none⟩) (Kd.R_types HO175.out BK178.out (by decide)) (fun _ hk => hk.2) (.int .i64 t177)) (fun _ hk => hk.2) (.int .u16 0)) (fun _ hk => hk.2) (.bool false)) (fun _ hk => hk.2) (.bool false)) (fun _ hk => hk.2) (.bool false)) (fun _ hk => hk.2) (.bool false)) (fun _ hk => hk.2) (.bool false)) (fun _ hk => hk.2) (.bool false)) (fun _ hk => hk.2) (.bool false)) (fun _ hk => hk.2) (.int .u8 0)) (fun _ hk => trivial)⟩, ⟨by (with_reducible repeat (first | refine blk_drewN ?_ _ | refine blk_drew ?_ | refine blk_alloc ?_ _)); refine blk_far ?_ NB172_178.out _; (with_reducible repeat (first | refine blk_drewN ?_ _ | refine blk_drew ?_ | refine blk_alloc ?_ _)); refine blk_far ?_ NB172_178.out _; (with_reducible repeat (first | refine blk_drewN ?_ _ | refine blk_drew ?_ | refine blk_alloc ?_ _)); refine blk_far ?_ NB172_178.out _; (with_reducible repeat (first | refine blk_drewN ?_ _ | refine blk_drew ?_ | refine blk_alloc ?_ _)); refine blk_far ?_ NB172_178.out _; (with_reducible repeat (first | refine blk_drewN ?_ _ | refine blk_drew ?_ | refine blk_alloc ?_ _)); refine blk_far ?_ NB172_178.out _; (with_reducible repeat (first | refine blk_drewN ?_ _ | refine blk_drew ?_ | refine blk_alloc ?_ _)); refine blk_far ?_ NB172_178.out _; (with_reducible repeat (first | refine blk_drewN ?_ _ | refine blk_drew ?_ | refine blk_alloc ?_ _)); refine blk_far ?_ NB172_178.out _; (with_reducible repeat (first | refine blk_drewN ?_ _ | refine blk_drew ?_ | refine blk_alloc ?_ _)); refine blk_far ?_ NB172_178.out _; (with_reducible repeat (first | refine blk_drewN ?_ _ | refine blk_drew ?_ | refine blk_alloc ?_ _)); refine blk_far ?_ NB172_178.out _; (with_reducible repeat (first | refine blk_drewN ?_ _ | refine blk_drew ?_ | refine blk_alloc ?_ _)); refine blk_far ?_ NB172_178.out _; (with_reducible repeat (first | refine blk_drewN ?_ _ | refine blk_drew ?_ | refine blk_alloc ?_ _)); exact BK172.out⟩, ⟨by (with_reducible repeat (first | refine blk_drewN ?_ _ | refine blk_drew ?_ | refine blk_alloc ?_ _)); refine blk_put (cs := #[.int .i64 t177, .int .u16 0, .bool false, .bool false, .bool false, .bool false, .bool false, .bool false, .bool false, .int .u8 0]) ?_ 9 _ rfl; (with_reducible repeat (first | refine blk_drewN ?_ _ | refine blk_drew ?_ | refine blk_alloc ?_ _)); refine blk_put (cs := #[.int .i64 t177, .int .u16 0, .bool false, .bool false, .bool false, .bool false, .bool false, .bool false, .bool false, .int .u8 0]) ?_ 8 _ rfl; (with_reducible repeat (first | refine blk_drewN ?_ _ | refine blk_drew ?_ | refine blk_alloc ?_ _)); refine blk_put (cs := #[.int .i64 t177, .int .u16 0, .bool false, .bool false, .bool false, .bool false, .bool false, .bool false, .bool false, .int .u8 0]) ?_ 7 _ rfl; (with_reducible repeat (first | refine blk_drewN ?_ _ | refine blk_drew ?_ | refine blk_alloc ?_ _)); refine blk_put (cs := #[.int .i64 t177, .int .u16 0, .bool false, .bool false, .bool false, .bool false, .bool false, .bool false, .bool false, .int .u8 0]) ?_ 6 _ rfl; (with_reducible repeat (first | refine blk_drewN ?_ _ | refine blk_drew ?_ | refine blk_alloc ?_ _)); refine blk_put (cs := #[.int .i64 t177, .int .u16 0, .bool false, .bool false, .bool false, .bool false, .bool false, .bool false, .bool false, .int .u8 0]) ?_ 5 _ rfl; (with_reducible repeat (first | refine blk_drewN ?_ _ | refine blk_drew ?_ | refine blk_alloc ?_ _)); refine blk_put (cs := #[.int .i64 t177, .int .u16 0, .bool false, .bool false, .bool false, .bool false, .bool false, .bool false, .bool false, .int .u8 0]) ?_ 4 _ rfl; (with_reducible repeat (first | refine blk_drewN ?_ _ | refine blk_drew ?_ | refine blk_alloc ?_ _)); refine blk_put (cs := #[.int .i64 t177, .int .u16 0, .bool false, .bool false, .bool false, .bool false, .bool false, .bool false, .bool false, .int .u8 0]) ?_ 3 _ rfl; (with_reducible repeat (first | refine blk_drewN ?_ _ | refine blk_drew ?_ | refine blk_alloc ?_ _)); refine blk_put (cs := #[.int .i64 t177, .int .u16 0, .bool false, .bool false, .bool false, .bool false, .bool false, .bool false, .bool false, .int .u8 0]) ?_ 2 _ rfl; (with_reducible repeat (first | refine blk_drewN ?_ _ | refine blk_drew ?_ | refine blk_alloc ?_ _)); refine blk_put (cs := #[.int .i64 t177, .int .u16 0, .bool false, .bool false, .bool false, .bool false, .bool false, .bool false, .bool false, .int .u8 0]) ?_ 1 _ rfl; (with_reducible repeat (first | refine blk_drewN ?_ _ | refine blk_drew ?_ | refine blk_alloc ?_ _)); refine blk_put (cs := #[.int .i64 0, .int .u16 0, .bool false, .bool false, .bool false, .bool false, .bool false, .bool false, .bool false, .int .u8 0]) ?_ 0 _ rfl; (with_reducible repeat (first | refine blk_drewN ?_ _ | refine blk_drew ?_ | refine blk_alloc ?_ _)); exact BK178.out⟩, ⟨by repeat (first | (with_reducible first | exact HB.out | apply below_alloc | apply pw_below_drewN | apply below_drew1 | refine below_set ?_ GE172.out | refine below_set ?_ GE178.out) | exact HB.out)⟩⟩
      case round =>
        clear H'
        try clear c1
        try clear p1
        try clear q1
        try clear hx1
        try clear qi1
        try clear c2
        try clear c2b0
        try clear c2b1
        try clear p2
        try clear c4
        try clear c6
        try clear c6b0
        try clear c6b1
        try clear c12
        try clear hcz13_0
        try clear hcz13_1
        try clear hcz13_2
        try clear hcz13_3
        try clear hcz13_4
        try clear hcz13_5
        try clear hcz13_6
        try clear hcz13_7
        try clear hcz13_8
        try clear hcz13_9
        try clear hcz4_0
        try clear hcz4_1
        try clear hcz4_2
        try clear hcz4_3
        try clear hcz4_4
        try clear hcz4_5
        try clear hcz4_6
        try clear hcz4_7
        try clear hcz4_8
        try clear hcz4_9
        try clear hfz13_0
        try clear hfz13_1
        try clear hfz13_2
        try clear hfz13_3
        try clear hfz13_4
        try clear hfz13_5
        try clear hfz13_6
        try clear hfz13_7
        try clear hfz13_8
        try clear hfz13_9
        try clear hfz4_0
        try clear hfz4_1
        try clear hfz4_2
        try clear hfz4_3
        try clear hfz4_4
        try clear hfz4_5
        try clear hfz4_6
        try clear hfz4_7
        try clear hfz4_8
        try clear hfz4_9
        try clear hx176_0
        try clear p176
        try clear q176
        obtain ⟨x6_1, x179001_1, x179002_1, x179003_1, x179004_1, x179005_1, x179006_1, x179007_1, x179008_1, x179009_1, rfl, HA, HK1, HO_4, BK172, BK178, HB⟩ := hrel
        cases gk with
        | zero => exact absurd HA.out (by simp [vesperref07_Span.l0])
        | succ k1 =>
          have H := HA.out
          clear HA
          simp only [vesperref07_Span.l0] at H
          by_cases c14 : x6_1 < (t173.length : Int)
          · rw [if_pos c14] at H
            have c14b0 : decide (x6_1 < (t173.length : Int)) = true := decide_eq_true c14
            clear c14
            by_cases c15 : 0 ≤ x6_1
            · rw [if_pos c15] at H
              have c15b0 : decide (0 ≤ x6_1) = true := decide_eq_true c15
              clear c15
              by_cases c16 : (rdOf ByteArray.empty t173 x6_1).toList = ([107, 101, 121, 115] : List UInt8)
              · rw [if_pos c16] at H
                have c16b0 : ((rdOf ByteArray.empty t173 x6_1).toList == ([107, 101, 121, 115] : List UInt8)) = true := beq_iff_eq.mpr c16
                have c16b1 : ((rdOf ByteArray.empty t173 x6_1).toList != ([107, 101, 121, 115] : List UInt8)) = false := bne_eq_false_iff_eq.mpr c16
                clear c16
                replace H := Option.bind_eq_some_iff.mp H
                obtain ⟨t181, A170, H⟩ := H
                replace H : (vesperref07_Span.l0 k1 a0 t173 (wrap64 (x6_1 + 1)) t177 (IntKind.u16.wrap (t181)) x179002_1 x179003_1 x179004_1 x179005_1 x179006_1 x179007_1 x179008_1 x179009_1) = some (r1, r2, r3, r4, r5, r6, r7, r8, r9, r10, r11) := H
                have A17 := Aside0.mk A170
                clear A170
                have H' := Aside0.mk H
                clear H
                have p180 : 0 ≤ (x6_1 : Int) := of_decide_eq_true (by first | (with_reducible assumption) | assumption)
                have q180 : x6_1 < (t173.length : Int) := of_decide_eq_true (by first | (with_reducible assumption) | assumption)
                obtain ⟨ad180, e180, hx180_0⟩ := Kd.at_string (Kd.R_reads' HO_4.out).2.2 x6_1 p180 q180
                obtain rfl : ad176 = ad180 := (by injection e180)
                replace p180 := eq_true p180
                replace q180 := eq_true q180
                go_wp2_with (first | ((with_reducible refine gate_callee (f := 67) rfl ?_); refine goesL_ (some 34) rfl rfl Tryd.func67 (by kernel_rfl) rfl #[.slice (some ad176) t173.length co10, .int .i64 (wrap64 (x6_1 + 1))] rfl (by (try simp only [List.map_toArray, List.map_cons, List.map_nil]); first | done | rfl | (simp only [List.length_drop, List.length_take]; rfl)) ?_; (with_reducible refine (vesperref07_hex.calls k1 _ _ t173 (wrap64 (x6_1 + 1)) t181 _ ?side1 ?side2 A17.out).mono ?_); (case side1 => repeat (first | exact (Kd.R_reads' HO_4.out).2.2 | (with_reducible refine Kd.C_alloc ?_ _) | (with_reducible refine Kd.C_drewN ?_ _) | (with_reducible refine Kd.C_drew ?_))); (case side2 => exact (Kd.R_reads' HO_4.out).2.1); rintro e w' ⟨rfl, ⟨nd, rfl⟩⟩; refine ⟨_, rfl, ?_⟩; (try (rw [drewN_self wr]; generalize hq_ : World.drewN wr _ = wr; have n0_ : Aside0 (Kd.R Kd.string 9 wr w.heap.size (fun _ => True) (.slice (some ad176) t173.length co10) t173) := ⟨by rw [← hq_]; exact (by (with_reducible repeat (first | apply Kd.R_alloc | apply Kd.R_drewN | apply Kd.R_drew)); exact HO_4.out)⟩; have n1_ : Aside0 (wr.heap[gb172]? = some (.cells #[.int .i64 0, .int .u16 0, .bool false, .bool false, .bool false, .bool false, .bool false, .bool false, .bool false, .int .u8 0] 34 (0, 0))) := ⟨by rw [← hq_]; exact (by (with_reducible repeat (first | refine blk_drewN ?_ _ | refine blk_drew ?_ | refine blk_alloc ?_ _)); exact BK172.out)⟩; have n2_ : Aside0 (wr.heap[gb178]? = some (.cells #[.int .i64 t177, .int .u16 x179001_1, .bool x179002_1, .bool x179003_1, .bool x179004_1, .bool x179005_1, .bool x179006_1, .bool x179007_1, .bool x179008_1, .int .u8 x179009_1] 34 (0, 0))) := ⟨by rw [← hq_]; exact (by (with_reducible repeat (first | refine blk_drewN ?_ _ | refine blk_drew ?_ | refine blk_alloc ?_ _)); exact BK178.out)⟩; have n3_ : Aside0 (Below w.heap.size w wr) := ⟨by rw [← hq_]; exact (by repeat (first | (with_reducible first | exact HB.out | apply below_alloc | apply pw_below_drewN | apply below_drew1 | refine below_set ?_ GE172.out | refine below_set ?_ GE178.out) | exact HB.out))⟩; clear HO_4 BK172 BK178 HB hq_; have HO_4 := n0_; have BK172 := n1_; have BK178 := n2_; have HB := n3_; clear n0_ n1_ n2_ n3_)); have hnb18 := NB178_172.out; have hnc18 := NB172_178.out; have hcz19_0 : wr.cell? ⟨gb178, 0, none⟩ = some (.int .i64 t177) := (blk_cell BK178.out 0).trans rfl; have hcz19_1 : wr.cell? ⟨gb178, 1, none⟩ = some (.int .u16 x179001_1) := (blk_cell BK178.out 1).trans rfl; have hcz19_2 : wr.cell? ⟨gb178, 2, none⟩ = some (.bool x179002_1) := (blk_cell BK178.out 2).trans rfl; have hcz19_3 : wr.cell? ⟨gb178, 3, none⟩ = some (.bool x179003_1) := (blk_cell BK178.out 3).trans rfl; have hcz19_4 : wr.cell? ⟨gb178, 4, none⟩ = some (.bool x179004_1) := (blk_cell BK178.out 4).trans rfl; have hcz19_5 : wr.cell? ⟨gb178, 5, none⟩ = some (.bool x179005_1) := (blk_cell BK178.out 5).trans rfl; have hcz19_6 : wr.cell? ⟨gb178, 6, none⟩ = some (.bool x179006_1) := (blk_cell BK178.out 6).trans rfl; have hcz19_7 : wr.cell? ⟨gb178, 7, none⟩ = some (.bool x179007_1) := (blk_cell BK178.out 7).trans rfl; have hcz19_8 : wr.cell? ⟨gb178, 8, none⟩ = some (.bool x179008_1) := (blk_cell BK178.out 8).trans rfl; have hcz19_9 : wr.cell? ⟨gb178, 9, none⟩ = some (.int .u8 x179009_1) := (blk_cell BK178.out 9).trans rfl; have hfz19_0 := blk_frozen BK178.out 0; have hfz19_1 := blk_frozen BK178.out 1; have hfz19_2 := blk_frozen BK178.out 2; have hfz19_3 := blk_frozen BK178.out 3; have hfz19_4 := blk_frozen BK178.out 4; have hfz19_5 := blk_frozen BK178.out 5; have hfz19_6 := blk_frozen BK178.out 6; have hfz19_7 := blk_frozen BK178.out 7; have hfz19_8 := blk_frozen BK178.out 8; have hfz19_9 := blk_frozen BK178.out 9))
                go_roundg k1
                case measure => have := HK1.out; omega
                case rel => exact ⟨(wrap64 (x6_1 + 1)), (IntKind.u16.wrap (t181)), (x179002_1), (x179003_1), (x179004_1), (x179005_1), (x179006_1), (x179007_1), (x179008_1), (x179009_1), (by first | rfl | (simp; done) | (simp [*]; done)), H', ⟨by have := HK1.out; omega⟩, ⟨by (with_reducible repeat (first | apply Kd.R_alloc | apply Kd.R_drewN | apply Kd.R_drew)); exact Kd.R_mono (Kd.R_far (p := ⟨gb178, 1, none⟩) (Kd.R_types HO_4.out BK178.out (by decide)) (fun _ hk => hk.2) (.int .u16 (IntKind.u16.wrap (t181)))) (fun _ hk => trivial)⟩, ⟨by (with_reducible repeat (first | refine blk_drewN ?_ _ | refine blk_drew ?_ | refine blk_alloc ?_ _)); refine blk_far ?_ NB172_178.out _; (with_reducible repeat (first | refine blk_drewN ?_ _ | refine blk_drew ?_ | refine blk_alloc ?_ _)); exact BK172.out⟩, ⟨by (with_reducible repeat (first | refine blk_drewN ?_ _ | refine blk_drew ?_ | refine blk_alloc ?_ _)); refine blk_put (cs := #[.int .i64 t177, .int .u16 x179001_1, .bool x179002_1, .bool x179003_1, .bool x179004_1, .bool x179005_1, .bool x179006_1, .bool x179007_1, .bool x179008_1, .int .u8 x179009_1]) ?_ 1 _ rfl; (with_reducible repeat (first | refine blk_drewN ?_ _ | refine blk_drew ?_ | refine blk_alloc ?_ _)); exact BK178.out⟩, ⟨by repeat (first | (with_reducible first | exact HB.out | apply below_alloc | apply pw_below_drewN | apply below_drew1 | refine below_set ?_ GE172.out | refine below_set ?_ GE178.out) | exact HB.out)⟩⟩
              · rw [if_neg c16] at H
                have c16b0 : ((rdOf ByteArray.empty t173 x6_1).toList == ([107, 101, 121, 115] : List UInt8)) = false := beq_eq_false_iff_ne.mpr c16
                have c16b1 : ((rdOf ByteArray.empty t173 x6_1).toList != ([107, 101, 121, 115] : List UInt8)) = true := bne_iff_ne.mpr c16
                by_cases c20 : (rdOf ByteArray.empty t173 x6_1).toList = ([116, 97, 112, 101] : List UInt8)
                · rw [if_pos c20] at H
                  have c20b0 : ((rdOf ByteArray.empty t173 x6_1).toList == ([116, 97, 112, 101] : List UInt8)) = true := beq_iff_eq.mpr c20
                  have c20b1 : ((rdOf ByteArray.empty t173 x6_1).toList != ([116, 97, 112, 101] : List UInt8)) = false := bne_eq_false_iff_eq.mpr c20
                  clear c20
                  have H' := Aside0.mk H
                  clear H
                  have p180 : 0 ≤ (x6_1 : Int) := of_decide_eq_true (by first | (with_reducible assumption) | assumption)
                  have q180 : x6_1 < (t173.length : Int) := of_decide_eq_true (by first | (with_reducible assumption) | assumption)
                  obtain ⟨ad180, e180, hx180_0⟩ := Kd.at_string (Kd.R_reads' HO_4.out).2.2 x6_1 p180 q180
                  obtain rfl : ad176 = ad180 := (by injection e180)
                  replace p180 := eq_true p180
                  replace q180 := eq_true q180
                  have hnb21 := NB178_172.out
                  have hnc21 := NB172_178.out
                  have hcz22_0 : wr.cell? ⟨gb178, 0, none⟩ = some (.int .i64 t177) := (blk_cell BK178.out 0).trans rfl
                  have hcz22_1 : wr.cell? ⟨gb178, 1, none⟩ = some (.int .u16 x179001_1) := (blk_cell BK178.out 1).trans rfl
                  have hcz22_2 : wr.cell? ⟨gb178, 2, none⟩ = some (.bool x179002_1) := (blk_cell BK178.out 2).trans rfl
                  have hcz22_3 : wr.cell? ⟨gb178, 3, none⟩ = some (.bool x179003_1) := (blk_cell BK178.out 3).trans rfl
                  have hcz22_4 : wr.cell? ⟨gb178, 4, none⟩ = some (.bool x179004_1) := (blk_cell BK178.out 4).trans rfl
                  have hcz22_5 : wr.cell? ⟨gb178, 5, none⟩ = some (.bool x179005_1) := (blk_cell BK178.out 5).trans rfl
                  have hcz22_6 : wr.cell? ⟨gb178, 6, none⟩ = some (.bool x179006_1) := (blk_cell BK178.out 6).trans rfl
                  have hcz22_7 : wr.cell? ⟨gb178, 7, none⟩ = some (.bool x179007_1) := (blk_cell BK178.out 7).trans rfl
                  have hcz22_8 : wr.cell? ⟨gb178, 8, none⟩ = some (.bool x179008_1) := (blk_cell BK178.out 8).trans rfl
                  have hcz22_9 : wr.cell? ⟨gb178, 9, none⟩ = some (.int .u8 x179009_1) := (blk_cell BK178.out 9).trans rfl
                  have hfz22_0 := blk_frozen BK178.out 0
                  have hfz22_1 := blk_frozen BK178.out 1
                  have hfz22_2 := blk_frozen BK178.out 2
                  have hfz22_3 := blk_frozen BK178.out 3
                  have hfz22_4 := blk_frozen BK178.out 4
                  have hfz22_5 := blk_frozen BK178.out 5
                  have hfz22_6 := blk_frozen BK178.out 6
                  have hfz22_7 := blk_frozen BK178.out 7
                  have hfz22_8 := blk_frozen BK178.out 8
                  have hfz22_9 := blk_frozen BK178.out 9
                  go_wp2
                  go_roundg k1
                  case measure => have := HK1.out; omega
                  case rel => exact ⟨(wrap64 (x6_1 + 1)), (x179001_1), (true), (x179003_1), (x179004_1), (x179005_1), (x179006_1), (x179007_1), (x179008_1), (x179009_1), (by first | rfl | (simp; done) | (simp [*]; done)), H', ⟨by have := HK1.out; omega⟩, ⟨by (with_reducible repeat (first | apply Kd.R_alloc | apply Kd.R_drewN | apply Kd.R_drew)); exact Kd.R_mono (Kd.R_far (p := ⟨gb178, 2, none⟩) (Kd.R_types HO_4.out BK178.out (by decide)) (fun _ hk => hk.2) (.bool true)) (fun _ hk => trivial)⟩, ⟨by (with_reducible repeat (first | refine blk_drewN ?_ _ | refine blk_drew ?_ | refine blk_alloc ?_ _)); refine blk_far ?_ NB172_178.out _; (with_reducible repeat (first | refine blk_drewN ?_ _ | refine blk_drew ?_ | refine blk_alloc ?_ _)); exact BK172.out⟩, ⟨by (with_reducible repeat (first | refine blk_drewN ?_ _ | refine blk_drew ?_ | refine blk_alloc ?_ _)); refine blk_put (cs := #[.int .i64 t177, .int .u16 x179001_1, .bool x179002_1, .bool x179003_1, .bool x179004_1, .bool x179005_1, .bool x179006_1, .bool x179007_1, .bool x179008_1, .int .u8 x179009_1]) ?_ 2 _ rfl; (with_reducible repeat (first | refine blk_drewN ?_ _ | refine blk_drew ?_ | refine blk_alloc ?_ _)); exact BK178.out⟩, ⟨by repeat (first | (with_reducible first | exact HB.out | apply below_alloc | apply pw_below_drewN | apply below_drew1 | refine below_set ?_ GE172.out | refine below_set ?_ GE178.out) | exact HB.out)⟩⟩
                · rw [if_neg c20] at H
                  have c20b0 : ((rdOf ByteArray.empty t173 x6_1).toList == ([116, 97, 112, 101] : List UInt8)) = false := beq_eq_false_iff_ne.mpr c20
                  have c20b1 : ((rdOf ByteArray.empty t173 x6_1).toList != ([116, 97, 112, 101] : List UInt8)) = true := bne_iff_ne.mpr c20
                  by_cases c23 : (rdOf ByteArray.empty t173 x6_1).toList = ([102, 108, 97, 103] : List UInt8)
                  · rw [if_pos c23] at H
                    have c23b0 : ((rdOf ByteArray.empty t173 x6_1).toList == ([102, 108, 97, 103] : List UInt8)) = true := beq_iff_eq.mpr c23
                    have c23b1 : ((rdOf ByteArray.empty t173 x6_1).toList != ([102, 108, 97, 103] : List UInt8)) = false := bne_eq_false_iff_eq.mpr c23
                    clear c23
                    have H' := Aside0.mk H
                    clear H
                    have p180 : 0 ≤ (x6_1 : Int) := of_decide_eq_true (by first | (with_reducible assumption) | assumption)
                    have q180 : x6_1 < (t173.length : Int) := of_decide_eq_true (by first | (with_reducible assumption) | assumption)
                    obtain ⟨ad180, e180, hx180_0⟩ := Kd.at_string (Kd.R_reads' HO_4.out).2.2 x6_1 p180 q180
                    obtain rfl : ad176 = ad180 := (by injection e180)
                    replace p180 := eq_true p180
                    replace q180 := eq_true q180
                    have hnb24 := NB178_172.out
                    have hnc24 := NB172_178.out
                    have hcz25_0 : wr.cell? ⟨gb178, 0, none⟩ = some (.int .i64 t177) := (blk_cell BK178.out 0).trans rfl
                    have hcz25_1 : wr.cell? ⟨gb178, 1, none⟩ = some (.int .u16 x179001_1) := (blk_cell BK178.out 1).trans rfl
                    have hcz25_2 : wr.cell? ⟨gb178, 2, none⟩ = some (.bool x179002_1) := (blk_cell BK178.out 2).trans rfl
                    have hcz25_3 : wr.cell? ⟨gb178, 3, none⟩ = some (.bool x179003_1) := (blk_cell BK178.out 3).trans rfl
                    have hcz25_4 : wr.cell? ⟨gb178, 4, none⟩ = some (.bool x179004_1) := (blk_cell BK178.out 4).trans rfl
                    have hcz25_5 : wr.cell? ⟨gb178, 5, none⟩ = some (.bool x179005_1) := (blk_cell BK178.out 5).trans rfl
                    have hcz25_6 : wr.cell? ⟨gb178, 6, none⟩ = some (.bool x179006_1) := (blk_cell BK178.out 6).trans rfl
                    have hcz25_7 : wr.cell? ⟨gb178, 7, none⟩ = some (.bool x179007_1) := (blk_cell BK178.out 7).trans rfl
                    have hcz25_8 : wr.cell? ⟨gb178, 8, none⟩ = some (.bool x179008_1) := (blk_cell BK178.out 8).trans rfl
                    have hcz25_9 : wr.cell? ⟨gb178, 9, none⟩ = some (.int .u8 x179009_1) := (blk_cell BK178.out 9).trans rfl
                    have hfz25_0 := blk_frozen BK178.out 0
                    have hfz25_1 := blk_frozen BK178.out 1
                    have hfz25_2 := blk_frozen BK178.out 2
                    have hfz25_3 := blk_frozen BK178.out 3
                    have hfz25_4 := blk_frozen BK178.out 4
                    have hfz25_5 := blk_frozen BK178.out 5
                    have hfz25_6 := blk_frozen BK178.out 6
                    have hfz25_7 := blk_frozen BK178.out 7
                    have hfz25_8 := blk_frozen BK178.out 8
                    have hfz25_9 := blk_frozen BK178.out 9
                    go_wp2
                    go_roundg k1
                    case measure => have := HK1.out; omega
                    case rel => exact ⟨(wrap64 (x6_1 + 1)), (x179001_1), (x179002_1), (true), (x179004_1), (x179005_1), (x179006_1), (x179007_1), (x179008_1), (x179009_1), (by first | rfl | (simp; done) | (simp [*]; done)), H', ⟨by have := HK1.out; omega⟩, ⟨by (with_reducible repeat (first | apply Kd.R_alloc | apply Kd.R_drewN | apply Kd.R_drew)); exact Kd.R_mono (Kd.R_far (p := ⟨gb178, 3, none⟩) (Kd.R_types HO_4.out BK178.out (by decide)) (fun _ hk => hk.2) (.bool true)) (fun _ hk => trivial)⟩, ⟨by (with_reducible repeat (first | refine blk_drewN ?_ _ | refine blk_drew ?_ | refine blk_alloc ?_ _)); refine blk_far ?_ NB172_178.out _; (with_reducible repeat (first | refine blk_drewN ?_ _ | refine blk_drew ?_ | refine blk_alloc ?_ _)); exact BK172.out⟩, ⟨by (with_reducible repeat (first | refine blk_drewN ?_ _ | refine blk_drew ?_ | refine blk_alloc ?_ _)); refine blk_put (cs := #[.int .i64 t177, .int .u16 x179001_1, .bool x179002_1, .bool x179003_1, .bool x179004_1, .bool x179005_1, .bool x179006_1, .bool x179007_1, .bool x179008_1, .int .u8 x179009_1]) ?_ 3 _ rfl; (with_reducible repeat (first | refine blk_drewN ?_ _ | refine blk_drew ?_ | refine blk_alloc ?_ _)); exact BK178.out⟩, ⟨by repeat (first | (with_reducible first | exact HB.out | apply below_alloc | apply pw_below_drewN | apply below_drew1 | refine below_set ?_ GE172.out | refine below_set ?_ GE178.out) | exact HB.out)⟩⟩
                  · rw [if_neg c23] at H
                    have c23b0 : ((rdOf ByteArray.empty t173 x6_1).toList == ([102, 108, 97, 103] : List UInt8)) = false := beq_eq_false_iff_ne.mpr c23
                    have c23b1 : ((rdOf ByteArray.empty t173 x6_1).toList != ([102, 108, 97, 103] : List UInt8)) = true := bne_iff_ne.mpr c23
                    by_cases c26 : (rdOf ByteArray.empty t173 x6_1).toList = ([105, 110] : List UInt8)
                    · rw [if_pos c26] at H
                      have c26b0 : ((rdOf ByteArray.empty t173 x6_1).toList == ([105, 110] : List UInt8)) = true := beq_iff_eq.mpr c26
                      have c26b1 : ((rdOf ByteArray.empty t173 x6_1).toList != ([105, 110] : List UInt8)) = false := bne_eq_false_iff_eq.mpr c26
                      clear c26
                      have H' := Aside0.mk H
                      clear H
                      have p180 : 0 ≤ (x6_1 : Int) := of_decide_eq_true (by first | (with_reducible assumption) | assumption)
                      have q180 : x6_1 < (t173.length : Int) := of_decide_eq_true (by first | (with_reducible assumption) | assumption)
                      obtain ⟨ad180, e180, hx180_0⟩ := Kd.at_string (Kd.R_reads' HO_4.out).2.2 x6_1 p180 q180
                      obtain rfl : ad176 = ad180 := (by injection e180)
                      replace p180 := eq_true p180
                      replace q180 := eq_true q180
                      have hnb27 := NB178_172.out
                      have hnc27 := NB172_178.out
                      have hcz28_0 : wr.cell? ⟨gb178, 0, none⟩ = some (.int .i64 t177) := (blk_cell BK178.out 0).trans rfl
                      have hcz28_1 : wr.cell? ⟨gb178, 1, none⟩ = some (.int .u16 x179001_1) := (blk_cell BK178.out 1).trans rfl
                      have hcz28_2 : wr.cell? ⟨gb178, 2, none⟩ = some (.bool x179002_1) := (blk_cell BK178.out 2).trans rfl
                      have hcz28_3 : wr.cell? ⟨gb178, 3, none⟩ = some (.bool x179003_1) := (blk_cell BK178.out 3).trans rfl
                      have hcz28_4 : wr.cell? ⟨gb178, 4, none⟩ = some (.bool x179004_1) := (blk_cell BK178.out 4).trans rfl
                      have hcz28_5 : wr.cell? ⟨gb178, 5, none⟩ = some (.bool x179005_1) := (blk_cell BK178.out 5).trans rfl
                      have hcz28_6 : wr.cell? ⟨gb178, 6, none⟩ = some (.bool x179006_1) := (blk_cell BK178.out 6).trans rfl
                      have hcz28_7 : wr.cell? ⟨gb178, 7, none⟩ = some (.bool x179007_1) := (blk_cell BK178.out 7).trans rfl
                      have hcz28_8 : wr.cell? ⟨gb178, 8, none⟩ = some (.bool x179008_1) := (blk_cell BK178.out 8).trans rfl
                      have hcz28_9 : wr.cell? ⟨gb178, 9, none⟩ = some (.int .u8 x179009_1) := (blk_cell BK178.out 9).trans rfl
                      have hfz28_0 := blk_frozen BK178.out 0
                      have hfz28_1 := blk_frozen BK178.out 1
                      have hfz28_2 := blk_frozen BK178.out 2
                      have hfz28_3 := blk_frozen BK178.out 3
                      have hfz28_4 := blk_frozen BK178.out 4
                      have hfz28_5 := blk_frozen BK178.out 5
                      have hfz28_6 := blk_frozen BK178.out 6
                      have hfz28_7 := blk_frozen BK178.out 7
                      have hfz28_8 := blk_frozen BK178.out 8
                      have hfz28_9 := blk_frozen BK178.out 9
                      go_wp2
                      go_roundg k1
                      case measure => have := HK1.out; omega
                      case rel => exact ⟨(wrap64 (x6_1 + 1)), (x179001_1), (x179002_1), (x179003_1), (true), (x179005_1), (x179006_1), (x179007_1), (x179008_1), (x179009_1), (by first | rfl | (simp; done) | (simp [*]; done)), H', ⟨by have := HK1.out; omega⟩, ⟨by (with_reducible repeat (first | apply Kd.R_alloc | apply Kd.R_drewN | apply Kd.R_drew)); exact Kd.R_mono (Kd.R_far (p := ⟨gb178, 4, none⟩) (Kd.R_types HO_4.out BK178.out (by decide)) (fun _ hk => hk.2) (.bool true)) (fun _ hk => trivial)⟩, ⟨by (with_reducible repeat (first | refine blk_drewN ?_ _ | refine blk_drew ?_ | refine blk_alloc ?_ _)); refine blk_far ?_ NB172_178.out _; (with_reducible repeat (first | refine blk_drewN ?_ _ | refine blk_drew ?_ | refine blk_alloc ?_ _)); exact BK172.out⟩, ⟨by (with_reducible repeat (first | refine blk_drewN ?_ _ | refine blk_drew ?_ | refine blk_alloc ?_ _)); refine blk_put (cs := #[.int .i64 t177, .int .u16 x179001_1, .bool x179002_1, .bool x179003_1, .bool x179004_1, .bool x179005_1, .bool x179006_1, .bool x179007_1, .bool x179008_1, .int .u8 x179009_1]) ?_ 4 _ rfl; (with_reducible repeat (first | refine blk_drewN ?_ _ | refine blk_drew ?_ | refine blk_alloc ?_ _)); exact BK178.out⟩, ⟨by repeat (first | (with_reducible first | exact HB.out | apply below_alloc | apply pw_below_drewN | apply below_drew1 | refine below_set ?_ GE172.out | refine below_set ?_ GE178.out) | exact HB.out)⟩⟩
                    · rw [if_neg c26] at H
                      have c26b0 : ((rdOf ByteArray.empty t173 x6_1).toList == ([105, 110] : List UInt8)) = false := beq_eq_false_iff_ne.mpr c26
                      have c26b1 : ((rdOf ByteArray.empty t173 x6_1).toList != ([105, 110] : List UInt8)) = true := bne_iff_ne.mpr c26
                      by_cases c29 : (rdOf ByteArray.empty t173 x6_1).toList = ([111, 117, 116] : List UInt8)
                      · rw [if_pos c29] at H
                        have c29b0 : ((rdOf ByteArray.empty t173 x6_1).toList == ([111, 117, 116] : List UInt8)) = true := beq_iff_eq.mpr c29
                        have c29b1 : ((rdOf ByteArray.empty t173 x6_1).toList != ([111, 117, 116] : List UInt8)) = false := bne_eq_false_iff_eq.mpr c29
                        clear c29
                        have H' := Aside0.mk H
                        clear H
                        have p180 : 0 ≤ (x6_1 : Int) := of_decide_eq_true (by first | (with_reducible assumption) | assumption)
                        have q180 : x6_1 < (t173.length : Int) := of_decide_eq_true (by first | (with_reducible assumption) | assumption)
                        obtain ⟨ad180, e180, hx180_0⟩ := Kd.at_string (Kd.R_reads' HO_4.out).2.2 x6_1 p180 q180
                        obtain rfl : ad176 = ad180 := (by injection e180)
                        replace p180 := eq_true p180
                        replace q180 := eq_true q180
                        have hnb30 := NB178_172.out
                        have hnc30 := NB172_178.out
                        have hcz31_0 : wr.cell? ⟨gb178, 0, none⟩ = some (.int .i64 t177) := (blk_cell BK178.out 0).trans rfl
                        have hcz31_1 : wr.cell? ⟨gb178, 1, none⟩ = some (.int .u16 x179001_1) := (blk_cell BK178.out 1).trans rfl
                        have hcz31_2 : wr.cell? ⟨gb178, 2, none⟩ = some (.bool x179002_1) := (blk_cell BK178.out 2).trans rfl
                        have hcz31_3 : wr.cell? ⟨gb178, 3, none⟩ = some (.bool x179003_1) := (blk_cell BK178.out 3).trans rfl
                        have hcz31_4 : wr.cell? ⟨gb178, 4, none⟩ = some (.bool x179004_1) := (blk_cell BK178.out 4).trans rfl
                        have hcz31_5 : wr.cell? ⟨gb178, 5, none⟩ = some (.bool x179005_1) := (blk_cell BK178.out 5).trans rfl
                        have hcz31_6 : wr.cell? ⟨gb178, 6, none⟩ = some (.bool x179006_1) := (blk_cell BK178.out 6).trans rfl
                        have hcz31_7 : wr.cell? ⟨gb178, 7, none⟩ = some (.bool x179007_1) := (blk_cell BK178.out 7).trans rfl
                        have hcz31_8 : wr.cell? ⟨gb178, 8, none⟩ = some (.bool x179008_1) := (blk_cell BK178.out 8).trans rfl
                        have hcz31_9 : wr.cell? ⟨gb178, 9, none⟩ = some (.int .u8 x179009_1) := (blk_cell BK178.out 9).trans rfl
                        have hfz31_0 := blk_frozen BK178.out 0
                        have hfz31_1 := blk_frozen BK178.out 1
                        have hfz31_2 := blk_frozen BK178.out 2
                        have hfz31_3 := blk_frozen BK178.out 3
                        have hfz31_4 := blk_frozen BK178.out 4
                        have hfz31_5 := blk_frozen BK178.out 5
                        have hfz31_6 := blk_frozen BK178.out 6
                        have hfz31_7 := blk_frozen BK178.out 7
                        have hfz31_8 := blk_frozen BK178.out 8
                        have hfz31_9 := blk_frozen BK178.out 9
                        go_wp2
                        go_roundg k1
                        case measure => have := HK1.out; omega
                        case rel => exact ⟨(wrap64 (x6_1 + 1)), (x179001_1), (x179002_1), (x179003_1), (x179004_1), (true), (x179006_1), (x179007_1), (x179008_1), (x179009_1), (by first | rfl | (simp; done) | (simp [*]; done)), H', ⟨by have := HK1.out; omega⟩, ⟨by (with_reducible repeat (first | apply Kd.R_alloc | apply Kd.R_drewN | apply Kd.R_drew)); exact Kd.R_mono (Kd.R_far (p := ⟨gb178, 5, none⟩) (Kd.R_types HO_4.out BK178.out (by decide)) (fun _ hk => hk.2) (.bool true)) (fun _ hk => trivial)⟩, ⟨by (with_reducible repeat (first | refine blk_drewN ?_ _ | refine blk_drew ?_ | refine blk_alloc ?_ _)); refine blk_far ?_ NB172_178.out _; (with_reducible repeat (first | refine blk_drewN ?_ _ | refine blk_drew ?_ | refine blk_alloc ?_ _)); exact BK172.out⟩, ⟨by (with_reducible repeat (first | refine blk_drewN ?_ _ | refine blk_drew ?_ | refine blk_alloc ?_ _)); refine blk_put (cs := #[.int .i64 t177, .int .u16 x179001_1, .bool x179002_1, .bool x179003_1, .bool x179004_1, .bool x179005_1, .bool x179006_1, .bool x179007_1, .bool x179008_1, .int .u8 x179009_1]) ?_ 5 _ rfl; (with_reducible repeat (first | refine blk_drewN ?_ _ | refine blk_drew ?_ | refine blk_alloc ?_ _)); exact BK178.out⟩, ⟨by repeat (first | (with_reducible first | exact HB.out | apply below_alloc | apply pw_below_drewN | apply below_drew1 | refine below_set ?_ GE172.out | refine below_set ?_ GE178.out) | exact HB.out)⟩⟩
                      · rw [if_neg c29] at H
                        have c29b0 : ((rdOf ByteArray.empty t173 x6_1).toList == ([111, 117, 116] : List UInt8)) = false := beq_eq_false_iff_ne.mpr c29
                        have c29b1 : ((rdOf ByteArray.empty t173 x6_1).toList != ([111, 117, 116] : List UInt8)) = true := bne_iff_ne.mpr c29
                        by_cases c32 : (rdOf ByteArray.empty t173 x6_1).toList = ([105, 110, 116] : List UInt8)
                        · rw [if_pos c32] at H
                          have c32b0 : ((rdOf ByteArray.empty t173 x6_1).toList == ([105, 110, 116] : List UInt8)) = true := beq_iff_eq.mpr c32
                          have c32b1 : ((rdOf ByteArray.empty t173 x6_1).toList != ([105, 110, 116] : List UInt8)) = false := bne_eq_false_iff_eq.mpr c32
                          clear c32
                          have H' := Aside0.mk H
                          clear H
                          have p180 : 0 ≤ (x6_1 : Int) := of_decide_eq_true (by first | (with_reducible assumption) | assumption)
                          have q180 : x6_1 < (t173.length : Int) := of_decide_eq_true (by first | (with_reducible assumption) | assumption)
                          obtain ⟨ad180, e180, hx180_0⟩ := Kd.at_string (Kd.R_reads' HO_4.out).2.2 x6_1 p180 q180
                          obtain rfl : ad176 = ad180 := (by injection e180)
                          replace p180 := eq_true p180
                          replace q180 := eq_true q180
                          have hnb33 := NB178_172.out
                          have hnc33 := NB172_178.out
                          have hcz34_0 : wr.cell? ⟨gb178, 0, none⟩ = some (.int .i64 t177) := (blk_cell BK178.out 0).trans rfl
                          have hcz34_1 : wr.cell? ⟨gb178, 1, none⟩ = some (.int .u16 x179001_1) := (blk_cell BK178.out 1).trans rfl
                          have hcz34_2 : wr.cell? ⟨gb178, 2, none⟩ = some (.bool x179002_1) := (blk_cell BK178.out 2).trans rfl
                          have hcz34_3 : wr.cell? ⟨gb178, 3, none⟩ = some (.bool x179003_1) := (blk_cell BK178.out 3).trans rfl
                          have hcz34_4 : wr.cell? ⟨gb178, 4, none⟩ = some (.bool x179004_1) := (blk_cell BK178.out 4).trans rfl
                          have hcz34_5 : wr.cell? ⟨gb178, 5, none⟩ = some (.bool x179005_1) := (blk_cell BK178.out 5).trans rfl
                          have hcz34_6 : wr.cell? ⟨gb178, 6, none⟩ = some (.bool x179006_1) := (blk_cell BK178.out 6).trans rfl
                          have hcz34_7 : wr.cell? ⟨gb178, 7, none⟩ = some (.bool x179007_1) := (blk_cell BK178.out 7).trans rfl
                          have hcz34_8 : wr.cell? ⟨gb178, 8, none⟩ = some (.bool x179008_1) := (blk_cell BK178.out 8).trans rfl
                          have hcz34_9 : wr.cell? ⟨gb178, 9, none⟩ = some (.int .u8 x179009_1) := (blk_cell BK178.out 9).trans rfl
                          have hfz34_0 := blk_frozen BK178.out 0
                          have hfz34_1 := blk_frozen BK178.out 1
                          have hfz34_2 := blk_frozen BK178.out 2
                          have hfz34_3 := blk_frozen BK178.out 3
                          have hfz34_4 := blk_frozen BK178.out 4
                          have hfz34_5 := blk_frozen BK178.out 5
                          have hfz34_6 := blk_frozen BK178.out 6
                          have hfz34_7 := blk_frozen BK178.out 7
                          have hfz34_8 := blk_frozen BK178.out 8
                          have hfz34_9 := blk_frozen BK178.out 9
                          go_wp2
                          go_roundg k1
                          case measure => have := HK1.out; omega
                          case rel => exact ⟨(wrap64 (x6_1 + 1)), (x179001_1), (x179002_1), (x179003_1), (x179004_1), (x179005_1), (true), (x179007_1), (x179008_1), (x179009_1), (by first | rfl | (simp; done) | (simp [*]; done)), H', ⟨by have := HK1.out; omega⟩, ⟨by (with_reducible repeat (first | apply Kd.R_alloc | apply Kd.R_drewN | apply Kd.R_drew)); exact Kd.R_mono (Kd.R_far (p := ⟨gb178, 6, none⟩) (Kd.R_types HO_4.out BK178.out (by decide)) (fun _ hk => hk.2) (.bool true)) (fun _ hk => trivial)⟩, ⟨by (with_reducible repeat (first | refine blk_drewN ?_ _ | refine blk_drew ?_ | refine blk_alloc ?_ _)); refine blk_far ?_ NB172_178.out _; (with_reducible repeat (first | refine blk_drewN ?_ _ | refine blk_drew ?_ | refine blk_alloc ?_ _)); exact BK172.out⟩, ⟨by (with_reducible repeat (first | refine blk_drewN ?_ _ | refine blk_drew ?_ | refine blk_alloc ?_ _)); refine blk_put (cs := #[.int .i64 t177, .int .u16 x179001_1, .bool x179002_1, .bool x179003_1, .bool x179004_1, .bool x179005_1, .bool x179006_1, .bool x179007_1, .bool x179008_1, .int .u8 x179009_1]) ?_ 6 _ rfl; (with_reducible repeat (first | refine blk_drewN ?_ _ | refine blk_drew ?_ | refine blk_alloc ?_ _)); exact BK178.out⟩, ⟨by repeat (first | (with_reducible first | exact HB.out | apply below_alloc | apply pw_below_drewN | apply below_drew1 | refine below_set ?_ GE172.out | refine below_set ?_ GE178.out) | exact HB.out)⟩⟩
                        · rw [if_neg c32] at H
                          have c32b0 : ((rdOf ByteArray.empty t173 x6_1).toList == ([105, 110, 116] : List UInt8)) = false := beq_eq_false_iff_ne.mpr c32
                          have c32b1 : ((rdOf ByteArray.empty t173 x6_1).toList != ([105, 110, 116] : List UInt8)) = true := bne_iff_ne.mpr c32
                          by_cases c35 : (rdOf ByteArray.empty t173 x6_1).toList = ([99, 108, 101, 97, 114] : List UInt8)
                          · rw [if_pos c35] at H
                            have c35b0 : ((rdOf ByteArray.empty t173 x6_1).toList == ([99, 108, 101, 97, 114] : List UInt8)) = true := beq_iff_eq.mpr c35
                            have c35b1 : ((rdOf ByteArray.empty t173 x6_1).toList != ([99, 108, 101, 97, 114] : List UInt8)) = false := bne_eq_false_iff_eq.mpr c35
                            clear c35
                            have H' := Aside0.mk H
                            clear H
                            have p180 : 0 ≤ (x6_1 : Int) := of_decide_eq_true (by first | (with_reducible assumption) | assumption)
                            have q180 : x6_1 < (t173.length : Int) := of_decide_eq_true (by first | (with_reducible assumption) | assumption)
                            obtain ⟨ad180, e180, hx180_0⟩ := Kd.at_string (Kd.R_reads' HO_4.out).2.2 x6_1 p180 q180
                            obtain rfl : ad176 = ad180 := (by injection e180)
                            replace p180 := eq_true p180
                            replace q180 := eq_true q180
                            have hnb36 := NB178_172.out
                            have hnc36 := NB172_178.out
                            have hcz37_0 : wr.cell? ⟨gb178, 0, none⟩ = some (.int .i64 t177) := (blk_cell BK178.out 0).trans rfl
                            have hcz37_1 : wr.cell? ⟨gb178, 1, none⟩ = some (.int .u16 x179001_1) := (blk_cell BK178.out 1).trans rfl
                            have hcz37_2 : wr.cell? ⟨gb178, 2, none⟩ = some (.bool x179002_1) := (blk_cell BK178.out 2).trans rfl
                            have hcz37_3 : wr.cell? ⟨gb178, 3, none⟩ = some (.bool x179003_1) := (blk_cell BK178.out 3).trans rfl
                            have hcz37_4 : wr.cell? ⟨gb178, 4, none⟩ = some (.bool x179004_1) := (blk_cell BK178.out 4).trans rfl
                            have hcz37_5 : wr.cell? ⟨gb178, 5, none⟩ = some (.bool x179005_1) := (blk_cell BK178.out 5).trans rfl
                            have hcz37_6 : wr.cell? ⟨gb178, 6, none⟩ = some (.bool x179006_1) := (blk_cell BK178.out 6).trans rfl
                            have hcz37_7 : wr.cell? ⟨gb178, 7, none⟩ = some (.bool x179007_1) := (blk_cell BK178.out 7).trans rfl
                            have hcz37_8 : wr.cell? ⟨gb178, 8, none⟩ = some (.bool x179008_1) := (blk_cell BK178.out 8).trans rfl
                            have hcz37_9 : wr.cell? ⟨gb178, 9, none⟩ = some (.int .u8 x179009_1) := (blk_cell BK178.out 9).trans rfl
                            have hfz37_0 := blk_frozen BK178.out 0
                            have hfz37_1 := blk_frozen BK178.out 1
                            have hfz37_2 := blk_frozen BK178.out 2
                            have hfz37_3 := blk_frozen BK178.out 3
                            have hfz37_4 := blk_frozen BK178.out 4
                            have hfz37_5 := blk_frozen BK178.out 5
                            have hfz37_6 := blk_frozen BK178.out 6
                            have hfz37_7 := blk_frozen BK178.out 7
                            have hfz37_8 := blk_frozen BK178.out 8
                            have hfz37_9 := blk_frozen BK178.out 9
                            go_wp2
                            go_roundg k1
                            case measure => have := HK1.out; omega
                            case rel => exact ⟨(wrap64 (x6_1 + 1)), (x179001_1), (x179002_1), (x179003_1), (x179004_1), (x179005_1), (x179006_1), (true), (x179008_1), (x179009_1), (by first | rfl | (simp; done) | (simp [*]; done)), H', ⟨by have := HK1.out; omega⟩, ⟨by (with_reducible repeat (first | apply Kd.R_alloc | apply Kd.R_drewN | apply Kd.R_drew)); exact Kd.R_mono (Kd.R_far (p := ⟨gb178, 7, none⟩) (Kd.R_types HO_4.out BK178.out (by decide)) (fun _ hk => hk.2) (.bool true)) (fun _ hk => trivial)⟩, ⟨by (with_reducible repeat (first | refine blk_drewN ?_ _ | refine blk_drew ?_ | refine blk_alloc ?_ _)); refine blk_far ?_ NB172_178.out _; (with_reducible repeat (first | refine blk_drewN ?_ _ | refine blk_drew ?_ | refine blk_alloc ?_ _)); exact BK172.out⟩, ⟨by (with_reducible repeat (first | refine blk_drewN ?_ _ | refine blk_drew ?_ | refine blk_alloc ?_ _)); refine blk_put (cs := #[.int .i64 t177, .int .u16 x179001_1, .bool x179002_1, .bool x179003_1, .bool x179004_1, .bool x179005_1, .bool x179006_1, .bool x179007_1, .bool x179008_1, .int .u8 x179009_1]) ?_ 7 _ rfl; (with_reducible repeat (first | refine blk_drewN ?_ _ | refine blk_drew ?_ | refine blk_alloc ?_ _)); exact BK178.out⟩, ⟨by repeat (first | (with_reducible first | exact HB.out | apply below_alloc | apply pw_below_drewN | apply below_drew1 | refine below_set ?_ GE172.out | refine below_set ?_ GE178.out) | exact HB.out)⟩⟩
                          · rw [if_neg c35] at H
                            have c35b0 : ((rdOf ByteArray.empty t173 x6_1).toList == ([99, 108, 101, 97, 114] : List UInt8)) = false := beq_eq_false_iff_ne.mpr c35
                            have c35b1 : ((rdOf ByteArray.empty t173 x6_1).toList != ([99, 108, 101, 97, 114] : List UInt8)) = true := bne_iff_ne.mpr c35
                            by_cases c38 : (rdOf ByteArray.empty t173 x6_1).toList = ([119, 97, 105, 116] : List UInt8)
                            · rw [if_pos c38] at H
                              have c38b0 : ((rdOf ByteArray.empty t173 x6_1).toList == ([119, 97, 105, 116] : List UInt8)) = true := beq_iff_eq.mpr c38
                              have c38b1 : ((rdOf ByteArray.empty t173 x6_1).toList != ([119, 97, 105, 116] : List UInt8)) = false := bne_eq_false_iff_eq.mpr c38
                              clear c38
                              have H' := Aside0.mk H
                              clear H
                              have p180 : 0 ≤ (x6_1 : Int) := of_decide_eq_true (by first | (with_reducible assumption) | assumption)
                              have q180 : x6_1 < (t173.length : Int) := of_decide_eq_true (by first | (with_reducible assumption) | assumption)
                              obtain ⟨ad180, e180, hx180_0⟩ := Kd.at_string (Kd.R_reads' HO_4.out).2.2 x6_1 p180 q180
                              obtain rfl : ad176 = ad180 := (by injection e180)
                              replace p180 := eq_true p180
                              replace q180 := eq_true q180
                              have hnb39 := NB178_172.out
                              have hnc39 := NB172_178.out
                              have hcz40_0 : wr.cell? ⟨gb178, 0, none⟩ = some (.int .i64 t177) := (blk_cell BK178.out 0).trans rfl
                              have hcz40_1 : wr.cell? ⟨gb178, 1, none⟩ = some (.int .u16 x179001_1) := (blk_cell BK178.out 1).trans rfl
                              have hcz40_2 : wr.cell? ⟨gb178, 2, none⟩ = some (.bool x179002_1) := (blk_cell BK178.out 2).trans rfl
                              have hcz40_3 : wr.cell? ⟨gb178, 3, none⟩ = some (.bool x179003_1) := (blk_cell BK178.out 3).trans rfl
                              have hcz40_4 : wr.cell? ⟨gb178, 4, none⟩ = some (.bool x179004_1) := (blk_cell BK178.out 4).trans rfl
                              have hcz40_5 : wr.cell? ⟨gb178, 5, none⟩ = some (.bool x179005_1) := (blk_cell BK178.out 5).trans rfl
                              have hcz40_6 : wr.cell? ⟨gb178, 6, none⟩ = some (.bool x179006_1) := (blk_cell BK178.out 6).trans rfl
                              have hcz40_7 : wr.cell? ⟨gb178, 7, none⟩ = some (.bool x179007_1) := (blk_cell BK178.out 7).trans rfl
                              have hcz40_8 : wr.cell? ⟨gb178, 8, none⟩ = some (.bool x179008_1) := (blk_cell BK178.out 8).trans rfl
                              have hcz40_9 : wr.cell? ⟨gb178, 9, none⟩ = some (.int .u8 x179009_1) := (blk_cell BK178.out 9).trans rfl
                              have hfz40_0 := blk_frozen BK178.out 0
                              have hfz40_1 := blk_frozen BK178.out 1
                              have hfz40_2 := blk_frozen BK178.out 2
                              have hfz40_3 := blk_frozen BK178.out 3
                              have hfz40_4 := blk_frozen BK178.out 4
                              have hfz40_5 := blk_frozen BK178.out 5
                              have hfz40_6 := blk_frozen BK178.out 6
                              have hfz40_7 := blk_frozen BK178.out 7
                              have hfz40_8 := blk_frozen BK178.out 8
                              have hfz40_9 := blk_frozen BK178.out 9
                              go_wp2
                              go_roundg k1
                              case measure => have := HK1.out; omega
                              case rel => exact ⟨(wrap64 (x6_1 + 1)), (x179001_1), (x179002_1), (x179003_1), (x179004_1), (x179005_1), (x179006_1), (x179007_1), (true), (x179009_1), (by first | rfl | (simp; done) | (simp [*]; done)), H', ⟨by have := HK1.out; omega⟩, ⟨by (with_reducible repeat (first | apply Kd.R_alloc | apply Kd.R_drewN | apply Kd.R_drew)); exact Kd.R_mono (Kd.R_far (p := ⟨gb178, 8, none⟩) (Kd.R_types HO_4.out BK178.out (by decide)) (fun _ hk => hk.2) (.bool true)) (fun _ hk => trivial)⟩, ⟨by (with_reducible repeat (first | refine blk_drewN ?_ _ | refine blk_drew ?_ | refine blk_alloc ?_ _)); refine blk_far ?_ NB172_178.out _; (with_reducible repeat (first | refine blk_drewN ?_ _ | refine blk_drew ?_ | refine blk_alloc ?_ _)); exact BK172.out⟩, ⟨by (with_reducible repeat (first | refine blk_drewN ?_ _ | refine blk_drew ?_ | refine blk_alloc ?_ _)); refine blk_put (cs := #[.int .i64 t177, .int .u16 x179001_1, .bool x179002_1, .bool x179003_1, .bool x179004_1, .bool x179005_1, .bool x179006_1, .bool x179007_1, .bool x179008_1, .int .u8 x179009_1]) ?_ 8 _ rfl; (with_reducible repeat (first | refine blk_drewN ?_ _ | refine blk_drew ?_ | refine blk_alloc ?_ _)); exact BK178.out⟩, ⟨by repeat (first | (with_reducible first | exact HB.out | apply below_alloc | apply pw_below_drewN | apply below_drew1 | refine below_set ?_ GE172.out | refine below_set ?_ GE178.out) | exact HB.out)⟩⟩
                            · rw [if_neg c38] at H
                              have c38b0 : ((rdOf ByteArray.empty t173 x6_1).toList == ([119, 97, 105, 116] : List UInt8)) = false := beq_eq_false_iff_ne.mpr c38
                              have c38b1 : ((rdOf ByteArray.empty t173 x6_1).toList != ([119, 97, 105, 116] : List UInt8)) = true := bne_iff_ne.mpr c38
                              by_cases c41 : (rdOf ByteArray.empty t173 x6_1).toList = ([98, 117, 115] : List UInt8)
                              · rw [if_pos c41] at H
                                have c41b0 : ((rdOf ByteArray.empty t173 x6_1).toList == ([98, 117, 115] : List UInt8)) = true := beq_iff_eq.mpr c41
                                have c41b1 : ((rdOf ByteArray.empty t173 x6_1).toList != ([98, 117, 115] : List UInt8)) = false := bne_eq_false_iff_eq.mpr c41
                                clear c41
                                replace H := Option.bind_eq_some_iff.mp H
                                obtain ⟨t182, A420, H⟩ := H
                                replace H : (vesperref07_Span.l0 k1 a0 t173 (wrap64 (x6_1 + 1)) t177 x179001_1 x179002_1 x179003_1 x179004_1 x179005_1 x179006_1 x179007_1 x179008_1 ((Int.tmod t182 256) % 256)) = some (r1, r2, r3, r4, r5, r6, r7, r8, r9, r10, r11) := H
                                have A42 := Aside0.mk A420
                                clear A420
                                have H' := Aside0.mk H
                                clear H
                                have p180 : 0 ≤ (x6_1 : Int) := of_decide_eq_true (by first | (with_reducible assumption) | assumption)
                                have q180 : x6_1 < (t173.length : Int) := of_decide_eq_true (by first | (with_reducible assumption) | assumption)
                                obtain ⟨ad180, e180, hx180_0⟩ := Kd.at_string (Kd.R_reads' HO_4.out).2.2 x6_1 p180 q180
                                obtain rfl : ad176 = ad180 := (by injection e180)
                                replace p180 := eq_true p180
                                replace q180 := eq_true q180
                                go_wp2_with (first | ((with_reducible refine gate_callee (f := 67) rfl ?_); refine goesL_ (some 63) rfl rfl Tryd.func67 (by kernel_rfl) rfl #[.slice (some ad176) t173.length co10, .int .i64 (wrap64 (x6_1 + 1))] rfl (by (try simp only [List.map_toArray, List.map_cons, List.map_nil]); first | done | rfl | (simp only [List.length_drop, List.length_take]; rfl)) ?_; (with_reducible refine (vesperref07_hex.calls k1 _ _ t173 (wrap64 (x6_1 + 1)) t182 _ ?side1 ?side2 A42.out).mono ?_); (case side1 => repeat (first | exact (Kd.R_reads' HO_4.out).2.2 | (with_reducible refine Kd.C_alloc ?_ _) | (with_reducible refine Kd.C_drewN ?_ _) | (with_reducible refine Kd.C_drew ?_))); (case side2 => exact (Kd.R_reads' HO_4.out).2.1); rintro e w' ⟨rfl, ⟨nd, rfl⟩⟩; refine ⟨_, rfl, ?_⟩; (try (rw [drewN_self wr]; generalize hq_ : World.drewN wr _ = wr; have n0_ : Aside0 (Kd.R Kd.string 9 wr w.heap.size (fun _ => True) (.slice (some ad176) t173.length co10) t173) := ⟨by rw [← hq_]; exact (by (with_reducible repeat (first | apply Kd.R_alloc | apply Kd.R_drewN | apply Kd.R_drew)); exact HO_4.out)⟩; have n1_ : Aside0 (wr.heap[gb172]? = some (.cells #[.int .i64 0, .int .u16 0, .bool false, .bool false, .bool false, .bool false, .bool false, .bool false, .bool false, .int .u8 0] 34 (0, 0))) := ⟨by rw [← hq_]; exact (by (with_reducible repeat (first | refine blk_drewN ?_ _ | refine blk_drew ?_ | refine blk_alloc ?_ _)); exact BK172.out)⟩; have n2_ : Aside0 (wr.heap[gb178]? = some (.cells #[.int .i64 t177, .int .u16 x179001_1, .bool x179002_1, .bool x179003_1, .bool x179004_1, .bool x179005_1, .bool x179006_1, .bool x179007_1, .bool x179008_1, .int .u8 x179009_1] 34 (0, 0))) := ⟨by rw [← hq_]; exact (by (with_reducible repeat (first | refine blk_drewN ?_ _ | refine blk_drew ?_ | refine blk_alloc ?_ _)); exact BK178.out)⟩; have n3_ : Aside0 (Below w.heap.size w wr) := ⟨by rw [← hq_]; exact (by repeat (first | (with_reducible first | exact HB.out | apply below_alloc | apply pw_below_drewN | apply below_drew1 | refine below_set ?_ GE172.out | refine below_set ?_ GE178.out) | exact HB.out))⟩; clear HO_4 BK172 BK178 HB hq_; have HO_4 := n0_; have BK172 := n1_; have BK178 := n2_; have HB := n3_; clear n0_ n1_ n2_ n3_)); have hnb43 := NB178_172.out; have hnc43 := NB172_178.out; have hcz44_0 : wr.cell? ⟨gb178, 0, none⟩ = some (.int .i64 t177) := (blk_cell BK178.out 0).trans rfl; have hcz44_1 : wr.cell? ⟨gb178, 1, none⟩ = some (.int .u16 x179001_1) := (blk_cell BK178.out 1).trans rfl; have hcz44_2 : wr.cell? ⟨gb178, 2, none⟩ = some (.bool x179002_1) := (blk_cell BK178.out 2).trans rfl; have hcz44_3 : wr.cell? ⟨gb178, 3, none⟩ = some (.bool x179003_1) := (blk_cell BK178.out 3).trans rfl; have hcz44_4 : wr.cell? ⟨gb178, 4, none⟩ = some (.bool x179004_1) := (blk_cell BK178.out 4).trans rfl; have hcz44_5 : wr.cell? ⟨gb178, 5, none⟩ = some (.bool x179005_1) := (blk_cell BK178.out 5).trans rfl; have hcz44_6 : wr.cell? ⟨gb178, 6, none⟩ = some (.bool x179006_1) := (blk_cell BK178.out 6).trans rfl; have hcz44_7 : wr.cell? ⟨gb178, 7, none⟩ = some (.bool x179007_1) := (blk_cell BK178.out 7).trans rfl; have hcz44_8 : wr.cell? ⟨gb178, 8, none⟩ = some (.bool x179008_1) := (blk_cell BK178.out 8).trans rfl; have hcz44_9 : wr.cell? ⟨gb178, 9, none⟩ = some (.int .u8 x179009_1) := (blk_cell BK178.out 9).trans rfl; have hfz44_0 := blk_frozen BK178.out 0; have hfz44_1 := blk_frozen BK178.out 1; have hfz44_2 := blk_frozen BK178.out 2; have hfz44_3 := blk_frozen BK178.out 3; have hfz44_4 := blk_frozen BK178.out 4; have hfz44_5 := blk_frozen BK178.out 5; have hfz44_6 := blk_frozen BK178.out 6; have hfz44_7 := blk_frozen BK178.out 7; have hfz44_8 := blk_frozen BK178.out 8; have hfz44_9 := blk_frozen BK178.out 9))
                                go_roundg k1
                                case measure => have := HK1.out; omega
                                case rel => exact ⟨(wrap64 (x6_1 + 1)), (x179001_1), (x179002_1), (x179003_1), (x179004_1), (x179005_1), (x179006_1), (x179007_1), (x179008_1), ((Int.tmod t182 256) % 256), (by first | rfl | (simp; done) | (simp [*]; done)), H', ⟨by have := HK1.out; omega⟩, ⟨by (with_reducible repeat (first | apply Kd.R_alloc | apply Kd.R_drewN | apply Kd.R_drew)); exact Kd.R_mono (Kd.R_far (p := ⟨gb178, 9, none⟩) (Kd.R_types HO_4.out BK178.out (by decide)) (fun _ hk => hk.2) (.int .u8 ((Int.tmod t182 256) % 256))) (fun _ hk => trivial)⟩, ⟨by (with_reducible repeat (first | refine blk_drewN ?_ _ | refine blk_drew ?_ | refine blk_alloc ?_ _)); refine blk_far ?_ NB172_178.out _; (with_reducible repeat (first | refine blk_drewN ?_ _ | refine blk_drew ?_ | refine blk_alloc ?_ _)); exact BK172.out⟩, ⟨by (with_reducible repeat (first | refine blk_drewN ?_ _ | refine blk_drew ?_ | refine blk_alloc ?_ _)); refine blk_put (cs := #[.int .i64 t177, .int .u16 x179001_1, .bool x179002_1, .bool x179003_1, .bool x179004_1, .bool x179005_1, .bool x179006_1, .bool x179007_1, .bool x179008_1, .int .u8 x179009_1]) ?_ 9 _ rfl; (with_reducible repeat (first | refine blk_drewN ?_ _ | refine blk_drew ?_ | refine blk_alloc ?_ _)); exact BK178.out⟩, ⟨by repeat (first | (with_reducible first | exact HB.out | apply below_alloc | apply pw_below_drewN | apply below_drew1 | refine below_set ?_ GE172.out | refine below_set ?_ GE178.out) | exact HB.out)⟩⟩
                              · rw [if_neg c41] at H
                                have c41b0 : ((rdOf ByteArray.empty t173 x6_1).toList == ([98, 117, 115] : List UInt8)) = false := beq_eq_false_iff_ne.mpr c41
                                have c41b1 : ((rdOf ByteArray.empty t173 x6_1).toList != ([98, 117, 115] : List UInt8)) = true := bne_iff_ne.mpr c41
                                have H' := Aside0.mk H
                                clear H
                                have p180 : 0 ≤ (x6_1 : Int) := of_decide_eq_true (by first | (with_reducible assumption) | assumption)
                                have q180 : x6_1 < (t173.length : Int) := of_decide_eq_true (by first | (with_reducible assumption) | assumption)
                                obtain ⟨ad180, e180, hx180_0⟩ := Kd.at_string (Kd.R_reads' HO_4.out).2.2 x6_1 p180 q180
                                obtain rfl : ad176 = ad180 := (by injection e180)
                                replace p180 := eq_true p180
                                replace q180 := eq_true q180
                                go_wp2
                                go_roundg k1
                                case measure => have := HK1.out; omega
                                case rel => exact ⟨(wrap64 (x6_1 + 1)), (x179001_1), (x179002_1), (x179003_1), (x179004_1), (x179005_1), (x179006_1), (x179007_1), (x179008_1), (x179009_1), (by first | rfl | (simp; done) | (simp [*]; done)), H', ⟨by have := HK1.out; omega⟩, ⟨by (with_reducible repeat (first | apply Kd.R_alloc | apply Kd.R_drewN | apply Kd.R_drew)); exact HO_4.out⟩, ⟨by (with_reducible repeat (first | refine blk_drewN ?_ _ | refine blk_drew ?_ | refine blk_alloc ?_ _)); exact BK172.out⟩, ⟨by (with_reducible repeat (first | refine blk_drewN ?_ _ | refine blk_drew ?_ | refine blk_alloc ?_ _)); exact BK178.out⟩, ⟨by repeat (first | (with_reducible first | exact HB.out | apply below_alloc | apply pw_below_drewN | apply below_drew1 | refine below_set ?_ GE172.out | refine below_set ?_ GE178.out) | exact HB.out)⟩⟩
            · rw [if_neg c15] at H
              exact absurd H (by simp)
          · rw [if_neg c14] at H
            have c14b0 : decide (x6_1 < (t173.length : Int)) = false := decide_eq_false c14
            clear c14
            by_cases c45 : t177 ≥ 1
            · rw [if_pos c45] at H
              have c45b0 : decide (1 ≤ t177) = true := decide_eq_true c45
              clear c45
              by_cases c46 : t177 ≤ 1048576
              · rw [if_pos c46] at H
                have c46b0 : decide (t177 ≤ 1048576) = true := decide_eq_true c46
                clear c46
                replace H := Option.bind_eq_some_iff.mp H
                obtain ⟨t179, A470, H⟩ := H
                replace H : (some (t177, x179001_1, x179002_1, x179003_1, x179004_1, x179005_1, x179006_1, x179007_1, x179008_1, x179009_1, (t179.toList == a0.toList))) = some (r1, r2, r3, r4, r5, r6, r7, r8, r9, r10, r11) := H
                have A47 := Aside0.mk A470
                clear A470
                simp only [Option.some.injEq, Prod.mk.injEq] at H
                obtain ⟨rfl, rfl, rfl, rfl, rfl, rfl, rfl, rfl, rfl, rfl, rfl⟩ := H
                have hnb48 := NB178_172.out
                have hnc48 := NB172_178.out
                have hcz49_0 : wr.cell? ⟨gb178, 0, none⟩ = some (.int .i64 t177) := (blk_cell BK178.out 0).trans rfl
                have hcz49_1 : wr.cell? ⟨gb178, 1, none⟩ = some (.int .u16 x179001_1) := (blk_cell BK178.out 1).trans rfl
                have hcz49_2 : wr.cell? ⟨gb178, 2, none⟩ = some (.bool x179002_1) := (blk_cell BK178.out 2).trans rfl
                have hcz49_3 : wr.cell? ⟨gb178, 3, none⟩ = some (.bool x179003_1) := (blk_cell BK178.out 3).trans rfl
                have hcz49_4 : wr.cell? ⟨gb178, 4, none⟩ = some (.bool x179004_1) := (blk_cell BK178.out 4).trans rfl
                have hcz49_5 : wr.cell? ⟨gb178, 5, none⟩ = some (.bool x179005_1) := (blk_cell BK178.out 5).trans rfl
                have hcz49_6 : wr.cell? ⟨gb178, 6, none⟩ = some (.bool x179006_1) := (blk_cell BK178.out 6).trans rfl
                have hcz49_7 : wr.cell? ⟨gb178, 7, none⟩ = some (.bool x179007_1) := (blk_cell BK178.out 7).trans rfl
                have hcz49_8 : wr.cell? ⟨gb178, 8, none⟩ = some (.bool x179008_1) := (blk_cell BK178.out 8).trans rfl
                have hcz49_9 : wr.cell? ⟨gb178, 9, none⟩ = some (.int .u8 x179009_1) := (blk_cell BK178.out 9).trans rfl
                have hfz49_0 := blk_frozen BK178.out 0
                have hfz49_1 := blk_frozen BK178.out 1
                have hfz49_2 := blk_frozen BK178.out 2
                have hfz49_3 := blk_frozen BK178.out 3
                have hfz49_4 := blk_frozen BK178.out 4
                have hfz49_5 := blk_frozen BK178.out 5
                have hfz49_6 := blk_frozen BK178.out 6
                have hfz49_7 := blk_frozen BK178.out 7
                have hfz49_8 := blk_frozen BK178.out 8
                have hfz49_9 := blk_frozen BK178.out 9
                try go_wp2
                have n0_ := Aside0.mk (Kd.R_drew HO_4.out)
                have n1_ := Aside0.mk (blk_drew BK172.out)
                have n2_ := Aside0.mk (blk_drew BK178.out)
                have n3_ := Aside0.mk (below_drew1 HB.out)
                clear HO_4
                clear BK172
                clear BK178
                clear HB
                have HO_4 := n0_
                have BK172 := n1_
                have BK178 := n2_
                have HB := n3_
                clear n0_ n1_ n2_ n3_
                refine start_ (n := 10) (S := fun w' => w'.cell? ⟨gb178, 0, none⟩ = some (.int .i64 t177) ∧ w'.cell? ⟨gb178, 1, none⟩ = some (.int .u16 x179001_1) ∧ w'.cell? ⟨gb178, 2, none⟩ = some (.bool x179002_1) ∧ w'.cell? ⟨gb178, 3, none⟩ = some (.bool x179003_1) ∧ w'.cell? ⟨gb178, 4, none⟩ = some (.bool x179004_1) ∧ w'.cell? ⟨gb178, 5, none⟩ = some (.bool x179005_1) ∧ w'.cell? ⟨gb178, 6, none⟩ = some (.bool x179006_1) ∧ w'.cell? ⟨gb178, 7, none⟩ = some (.bool x179007_1) ∧ w'.cell? ⟨gb178, 8, none⟩ = some (.bool x179008_1) ∧ w'.cell? ⟨gb178, 9, none⟩ = some (.int .u8 x179009_1)) (ds := []) #[false, false, false, false, false, false, false, false, false, false] (by kernel_rfl) rfl rfl ⟨(blk_cell BK178.out 0).trans rfl, (blk_cell BK178.out 1).trans rfl, (blk_cell BK178.out 2).trans rfl, (blk_cell BK178.out 3).trans rfl, (blk_cell BK178.out 4).trans rfl, (blk_cell BK178.out 5).trans rfl, (blk_cell BK178.out 6).trans rfl, (blk_cell BK178.out 7).trans rfl, (blk_cell BK178.out 8).trans rfl, (blk_cell BK178.out 9).trans rfl⟩ (fun hHeld => ?_); refine with_tabW vesperref07_Span.tab28 vesperref07_Span.bits28 (fun HT_ HW_ => ?_)
                generalize wr.drew = w50 at HO_4 BK172 BK178 HB hHeld ⊢
                refine pure_ (i := 1) (N := some 76) (v := ?_) (a' := ?_) #[false, true, false, false, false, false, false, false, false, false] rfl rfl (any_of HT_.out (by kernel_rfl)) (fun _ _ _ h => h) (Or.inl ⟨by rfl, ?_⟩) ?_ ?_
                rotate_left
                · intro w'
                  go_simp
                  with_reducible rfl
                rotate_left
                · simp only [Act.put, List.setIfInBounds_toArray, List.set_cons_zero, List.set_cons_succ, i64_w, i32_w]
                  rfl
                refine pure_ (i := 2) (N := some 77) (v := ?_) (a' := ?_) #[false, true, true, false, false, false, false, false, false, false] rfl rfl (any_of HT_.out (by kernel_rfl)) (fun _ _ _ h => h) (Or.inl ⟨by rfl, ?_⟩) ?_ ?_
                rotate_left
                · intro w'
                  go_simp
                  with_reducible rfl
                rotate_left
                · simp only [Act.put, List.setIfInBounds_toArray, List.set_cons_zero, List.set_cons_succ, i64_w, i32_w]
                  rfl
                refine pure_ (i := 5) (N := some 80) (v := ?_) (a' := ?_) #[false, true, true, false, false, true, false, false, false, false] rfl rfl (any_of HT_.out (by kernel_rfl)) (fun _ _ _ h => h) (Or.inl ⟨by rfl, ?_⟩) ?_ ?_
                rotate_left
                · intro w'
                  go_simp
                  with_reducible rfl
                rotate_left
                · simp only [Act.put, List.setIfInBounds_toArray, List.set_cons_zero, List.set_cons_succ, i64_w, i32_w]
                  rfl
                refine take_ (i := 0) (N := some 75) (v := ?_) (a' := ?_) #[true, true, true, false, false, true, false, false, false, false] rfl rfl (take_ofW HT_.out HW_.out (by kernel_rfl)) (fun _ _ _ h => h) (Or.inl ⟨by rfl, ?_⟩) hHeld ?_ ?_
                rotate_left
                · rintro w' ⟨s0, s1, s2, s3, s4, s5, s6, s7, s8, s9⟩
                  go_simp
                  with_reducible rfl
                rotate_left
                · simp only [Act.put, List.setIfInBounds_toArray, List.set_cons_zero, List.set_cons_succ, i64_w, i32_w]
                  rfl
                refine take_ (i := 3) (N := some 78) (v := ?_) (a' := ?_) #[true, true, true, true, false, true, false, false, false, false] rfl rfl (take_ofW HT_.out HW_.out (by kernel_rfl)) (fun _ _ _ h => h) (Or.inl ⟨by rfl, ?_⟩) hHeld ?_ ?_
                rotate_left
                · rintro w' ⟨s0, s1, s2, s3, s4, s5, s6, s7, s8, s9⟩
                  go_simp
                  with_reducible rfl
                rotate_left
                · simp only [Act.put, List.setIfInBounds_toArray, List.set_cons_zero, List.set_cons_succ, i64_w, i32_w]
                  rfl
                refine one_ (i := 4) (N := some 79) #[true, true, true, true, true, true, false, false, false, false] rfl rfl (one_of HT_.out (by kernel_rfl)) (by decide) (fun K hK => ?_)
                refine goes_ Tryd.func39 (by kernel_rfl) rfl #[.agg #[.int .i64 t177, .int .u16 x179001_1, .bool x179002_1, .bool x179003_1, .bool x179004_1, .bool x179005_1, .bool x179006_1, .bool x179007_1, .bool x179008_1, .int .u8 x179009_1]] (by rfl) rfl rfl (by (try simp only [List.map_toArray, List.map_cons, List.map_nil]); first | done | rfl | (simp only [List.length_drop, List.length_take]; rfl)) ?_
                with_reducible refine (vesperref07_Line.calls k1 t177 x179001_1 x179002_1 x179003_1 x179004_1 x179005_1 x179006_1 x179007_1 x179008_1 x179009_1 t179 _ A47.out).mono ?_
                rintro e w51 ⟨rfl, hb⟩
                refine ⟨_, rfl, ?_⟩
                have n0_ := Aside0.mk (Kd.R_below (by (with_reducible repeat (first | apply Kd.R_alloc | apply Kd.R_drewN | apply Kd.R_drew)); exact HO_4.out) hb)
                have n1_ := Aside0.mk (blk_below (g := gb172) (o := .cells #[.int .i64 0, .int .u16 0, .bool false, .bool false, .bool false, .bool false, .bool false, .bool false, .bool false, .int .u8 0] 34 (0, 0)) (by (with_reducible repeat (first | refine blk_drewN ?_ _ | refine blk_drew ?_ | refine blk_alloc ?_ _)); exact BK172.out) hb)
                have n2_ := Aside0.mk (blk_below (g := gb178) (o := .cells #[.int .i64 t177, .int .u16 x179001_1, .bool x179002_1, .bool x179003_1, .bool x179004_1, .bool x179005_1, .bool x179006_1, .bool x179007_1, .bool x179008_1, .int .u8 x179009_1] 34 (0, 0)) (by (with_reducible repeat (first | refine blk_drewN ?_ _ | refine blk_drew ?_ | refine blk_alloc ?_ _)); exact BK178.out) hb)
                have n3_ := Aside0.mk (below_step (by repeat (first | (with_reducible first | exact HB.out | apply below_alloc | apply pw_below_drewN | apply below_drew1 | refine below_set ?_ GE172.out | refine below_set ?_ GE178.out) | exact HB.out)) hb)
                clear HO_4
                clear BK172
                clear BK178
                clear HB
                have HO_4 := n0_
                have BK172 := n1_
                have BK178 := n2_
                have HB := n3_
                clear n0_ n1_ n2_ n3_
                (try clear hb)
                (try clear hb2)
                (try clear hk)
                (try clear hi)
                refine hK.out _ _ ⟨(blk_cell BK178.out 0).trans rfl, (blk_cell BK178.out 1).trans rfl, (blk_cell BK178.out 2).trans rfl, (blk_cell BK178.out 3).trans rfl, (blk_cell BK178.out 4).trans rfl, (blk_cell BK178.out 5).trans rfl, (blk_cell BK178.out 6).trans rfl, (blk_cell BK178.out 7).trans rfl, (blk_cell BK178.out 8).trans rfl, (blk_cell BK178.out 9).trans rfl⟩ (fun hHeld => ?_)
                clear hK K
                refine norm_ (a' := ?_) ?_ ?_
                rotate_left
                · show Act.put _ (some 79) _ = _
                  simp only [Act.put, List.setIfInBounds_toArray, List.set_cons_zero, List.set_cons_succ, i64_w, i32_w]
                  rfl
                refine pure_ (i := 6) (N := some 81) (v := ?_) (a' := ?_) #[true, true, true, true, true, true, true, false, false, false] rfl rfl (any_of HT_.out (by kernel_rfl)) (fun _ _ _ h => h) (Or.inl ⟨by rfl, ?_⟩) ?_ ?_
                rotate_left
                · intro w'
                  go_simp
                  with_reducible rfl
                rotate_left
                · simp only [Act.put, List.setIfInBounds_toArray, List.set_cons_zero, List.set_cons_succ, i64_w, i32_w]
                  rfl
                refine pure_ (i := 7) (N := some 82) (v := ?_) (a' := ?_) #[true, true, true, true, true, true, true, true, false, false] rfl rfl (any_of HT_.out (by kernel_rfl)) (fun _ _ _ h => h) (Or.inl ⟨by rfl, ?_⟩) ?_ ?_
                rotate_left
                · intro w'
                  go_simp
                  with_reducible rfl
                rotate_left
                · simp only [Act.put, List.setIfInBounds_toArray, List.set_cons_zero, List.set_cons_succ, i64_w, i32_w]
                  rfl
                refine one_ (i := 8) (N := none) #[true, true, true, true, true, true, true, true, true, false] rfl rfl (one_of HT_.out (by kernel_rfl)) (by decide) (fun K hK => ?_)
                have hs52 : w51.cell? ⟨gb172, 0, none⟩ = some (.int .i64 0) := (blk_cell BK172.out 0).trans rfl
                have hfs52 := blk_frozen BK172.out 0
                have hns52_1 := NB178_172.out
                have hms52_1 := NB172_178.out
                have hs53 : w51.cell? ⟨gb172, 1, none⟩ = some (.int .u16 0) := (blk_cell BK172.out 1).trans rfl
                have hfs53 := blk_frozen BK172.out 1
                have hns53_1 := NB178_172.out
                have hms53_1 := NB172_178.out
                have hs54 : w51.cell? ⟨gb172, 2, none⟩ = some (.bool false) := (blk_cell BK172.out 2).trans rfl
                have hfs54 := blk_frozen BK172.out 2
                have hns54_1 := NB178_172.out
                have hms54_1 := NB172_178.out
                have hs55 : w51.cell? ⟨gb172, 3, none⟩ = some (.bool false) := (blk_cell BK172.out 3).trans rfl
                have hfs55 := blk_frozen BK172.out 3
                have hns55_1 := NB178_172.out
                have hms55_1 := NB172_178.out
                have hs56 : w51.cell? ⟨gb172, 4, none⟩ = some (.bool false) := (blk_cell BK172.out 4).trans rfl
                have hfs56 := blk_frozen BK172.out 4
                have hns56_1 := NB178_172.out
                have hms56_1 := NB172_178.out
                have hs57 : w51.cell? ⟨gb172, 5, none⟩ = some (.bool false) := (blk_cell BK172.out 5).trans rfl
                have hfs57 := blk_frozen BK172.out 5
                have hns57_1 := NB178_172.out
                have hms57_1 := NB172_178.out
                have hs58 : w51.cell? ⟨gb172, 6, none⟩ = some (.bool false) := (blk_cell BK172.out 6).trans rfl
                have hfs58 := blk_frozen BK172.out 6
                have hns58_1 := NB178_172.out
                have hms58_1 := NB172_178.out
                have hs59 : w51.cell? ⟨gb172, 7, none⟩ = some (.bool false) := (blk_cell BK172.out 7).trans rfl
                have hfs59 := blk_frozen BK172.out 7
                have hns59_1 := NB178_172.out
                have hms59_1 := NB172_178.out
                have hs60 : w51.cell? ⟨gb172, 8, none⟩ = some (.bool false) := (blk_cell BK172.out 8).trans rfl
                have hfs60 := blk_frozen BK172.out 8
                have hns60_1 := NB178_172.out
                have hms60_1 := NB172_178.out
                have hs61 : w51.cell? ⟨gb172, 9, none⟩ = some (.int .u8 0) := (blk_cell BK172.out 9).trans rfl
                have hfs61 := blk_frozen BK172.out 9
                have hns61_1 := NB178_172.out
                have hms61_1 := NB172_178.out
                refine skip_ (w1 := ?_) (by rfl) rfl ?_ ?_
                rotate_left
                · go_simp
                  rfl
                refine hK.out _ _ ⟨((cell_far (p := ⟨gb172, _, none⟩) NB178_172.out _).trans (((cell_far (p := ⟨gb172, _, none⟩) NB178_172.out _).trans (((cell_far (p := ⟨gb172, _, none⟩) NB178_172.out _).trans (((cell_far (p := ⟨gb172, _, none⟩) NB178_172.out _).trans (((cell_far (p := ⟨gb172, _, none⟩) NB178_172.out _).trans (((cell_far (p := ⟨gb172, _, none⟩) NB178_172.out _).trans (((cell_far (p := ⟨gb172, _, none⟩) NB178_172.out _).trans (((cell_far (p := ⟨gb172, _, none⟩) NB178_172.out _).trans (((cell_far (p := ⟨gb172, _, none⟩) NB178_172.out _).trans (((cell_far (p := ⟨gb172, _, none⟩) NB178_172.out _).trans (hHeld.1)))))))))))))))))))), ((cell_far (p := ⟨gb172, _, none⟩) NB178_172.out _).trans (((cell_far (p := ⟨gb172, _, none⟩) NB178_172.out _).trans (((cell_far (p := ⟨gb172, _, none⟩) NB178_172.out _).trans (((cell_far (p := ⟨gb172, _, none⟩) NB178_172.out _).trans (((cell_far (p := ⟨gb172, _, none⟩) NB178_172.out _).trans (((cell_far (p := ⟨gb172, _, none⟩) NB178_172.out _).trans (((cell_far (p := ⟨gb172, _, none⟩) NB178_172.out _).trans (((cell_far (p := ⟨gb172, _, none⟩) NB178_172.out _).trans (((cell_far (p := ⟨gb172, _, none⟩) NB178_172.out _).trans (((cell_far (p := ⟨gb172, _, none⟩) NB178_172.out _).trans (hHeld.2.1)))))))))))))))))))), ((cell_far (p := ⟨gb172, _, none⟩) NB178_172.out _).trans (((cell_far (p := ⟨gb172, _, none⟩) NB178_172.out _).trans (((cell_far (p := ⟨gb172, _, none⟩) NB178_172.out _).trans (((cell_far (p := ⟨gb172, _, none⟩) NB178_172.out _).trans (((cell_far (p := ⟨gb172, _, none⟩) NB178_172.out _).trans (((cell_far (p := ⟨gb172, _, none⟩) NB178_172.out _).trans (((cell_far (p := ⟨gb172, _, none⟩) NB178_172.out _).trans (((cell_far (p := ⟨gb172, _, none⟩) NB178_172.out _).trans (((cell_far (p := ⟨gb172, _, none⟩) NB178_172.out _).trans (((cell_far (p := ⟨gb172, _, none⟩) NB178_172.out _).trans (hHeld.2.2.1)))))))))))))))))))), ((cell_far (p := ⟨gb172, _, none⟩) NB178_172.out _).trans (((cell_far (p := ⟨gb172, _, none⟩) NB178_172.out _).trans (((cell_far (p := ⟨gb172, _, none⟩) NB178_172.out _).trans (((cell_far (p := ⟨gb172, _, none⟩) NB178_172.out _).trans (((cell_far (p := ⟨gb172, _, none⟩) NB178_172.out _).trans (((cell_far (p := ⟨gb172, _, none⟩) NB178_172.out _).trans (((cell_far (p := ⟨gb172, _, none⟩) NB178_172.out _).trans (((cell_far (p := ⟨gb172, _, none⟩) NB178_172.out _).trans (((cell_far (p := ⟨gb172, _, none⟩) NB178_172.out _).trans (((cell_far (p := ⟨gb172, _, none⟩) NB178_172.out _).trans (hHeld.2.2.2.1)))))))))))))))))))), ((cell_far (p := ⟨gb172, _, none⟩) NB178_172.out _).trans (((cell_far (p := ⟨gb172, _, none⟩) NB178_172.out _).trans (((cell_far (p := ⟨gb172, _, none⟩) NB178_172.out _).trans (((cell_far (p := ⟨gb172, _, none⟩) NB178_172.out _).trans (((cell_far (p := ⟨gb172, _, none⟩) NB178_172.out _).trans (((cell_far (p := ⟨gb172, _, none⟩) NB178_172.out _).trans (((cell_far (p := ⟨gb172, _, none⟩) NB178_172.out _).trans (((cell_far (p := ⟨gb172, _, none⟩) NB178_172.out _).trans (((cell_far (p := ⟨gb172, _, none⟩) NB178_172.out _).trans (((cell_far (p := ⟨gb172, _, none⟩) NB178_172.out _).trans (hHeld.2.2.2.2.1)))))))))))))))))))), ((cell_far (p := ⟨gb172, _, none⟩) NB178_172.out _).trans (((cell_far (p := ⟨gb172, _, none⟩) NB178_172.out _).trans (((cell_far (p := ⟨gb172, _, none⟩) NB178_172.out _).trans (((cell_far (p := ⟨gb172, _, none⟩) NB178_172.out _).trans (((cell_far (p := ⟨gb172, _, none⟩) NB178_172.out _).trans (((cell_far (p := ⟨gb172, _, none⟩) NB178_172.out _).trans (((cell_far (p := ⟨gb172, _, none⟩) NB178_172.out _).trans (((cell_far (p := ⟨gb172, _, none⟩) NB178_172.out _).trans (((cell_far (p := ⟨gb172, _, none⟩) NB178_172.out _).trans (((cell_far (p := ⟨gb172, _, none⟩) NB178_172.out _).trans (hHeld.2.2.2.2.2.1)))))))))))))))))))), ((cell_far (p := ⟨gb172, _, none⟩) NB178_172.out _).trans (((cell_far (p := ⟨gb172, _, none⟩) NB178_172.out _).trans (((cell_far (p := ⟨gb172, _, none⟩) NB178_172.out _).trans (((cell_far (p := ⟨gb172, _, none⟩) NB178_172.out _).trans (((cell_far (p := ⟨gb172, _, none⟩) NB178_172.out _).trans (((cell_far (p := ⟨gb172, _, none⟩) NB178_172.out _).trans (((cell_far (p := ⟨gb172, _, none⟩) NB178_172.out _).trans (((cell_far (p := ⟨gb172, _, none⟩) NB178_172.out _).trans (((cell_far (p := ⟨gb172, _, none⟩) NB178_172.out _).trans (((cell_far (p := ⟨gb172, _, none⟩) NB178_172.out _).trans (hHeld.2.2.2.2.2.2.1)))))))))))))))))))), ((cell_far (p := ⟨gb172, _, none⟩) NB178_172.out _).trans (((cell_far (p := ⟨gb172, _, none⟩) NB178_172.out _).trans (((cell_far (p := ⟨gb172, _, none⟩) NB178_172.out _).trans (((cell_far (p := ⟨gb172, _, none⟩) NB178_172.out _).trans (((cell_far (p := ⟨gb172, _, none⟩) NB178_172.out _).trans (((cell_far (p := ⟨gb172, _, none⟩) NB178_172.out _).trans (((cell_far (p := ⟨gb172, _, none⟩) NB178_172.out _).trans (((cell_far (p := ⟨gb172, _, none⟩) NB178_172.out _).trans (((cell_far (p := ⟨gb172, _, none⟩) NB178_172.out _).trans (((cell_far (p := ⟨gb172, _, none⟩) NB178_172.out _).trans (hHeld.2.2.2.2.2.2.2.1)))))))))))))))))))), ((cell_far (p := ⟨gb172, _, none⟩) NB178_172.out _).trans (((cell_far (p := ⟨gb172, _, none⟩) NB178_172.out _).trans (((cell_far (p := ⟨gb172, _, none⟩) NB178_172.out _).trans (((cell_far (p := ⟨gb172, _, none⟩) NB178_172.out _).trans (((cell_far (p := ⟨gb172, _, none⟩) NB178_172.out _).trans (((cell_far (p := ⟨gb172, _, none⟩) NB178_172.out _).trans (((cell_far (p := ⟨gb172, _, none⟩) NB178_172.out _).trans (((cell_far (p := ⟨gb172, _, none⟩) NB178_172.out _).trans (((cell_far (p := ⟨gb172, _, none⟩) NB178_172.out _).trans (((cell_far (p := ⟨gb172, _, none⟩) NB178_172.out _).trans (hHeld.2.2.2.2.2.2.2.2.1)))))))))))))))))))), ((cell_far (p := ⟨gb172, _, none⟩) NB178_172.out _).trans (((cell_far (p := ⟨gb172, _, none⟩) NB178_172.out _).trans (((cell_far (p := ⟨gb172, _, none⟩) NB178_172.out _).trans (((cell_far (p := ⟨gb172, _, none⟩) NB178_172.out _).trans (((cell_far (p := ⟨gb172, _, none⟩) NB178_172.out _).trans (((cell_far (p := ⟨gb172, _, none⟩) NB178_172.out _).trans (((cell_far (p := ⟨gb172, _, none⟩) NB178_172.out _).trans (((cell_far (p := ⟨gb172, _, none⟩) NB178_172.out _).trans (((cell_far (p := ⟨gb172, _, none⟩) NB178_172.out _).trans (((cell_far (p := ⟨gb172, _, none⟩) NB178_172.out _).trans (hHeld.2.2.2.2.2.2.2.2.2))))))))))))))))))))⟩ (fun hHeld => ?_)
                clear hK K
                refine pure_ (i := 9) (N := some 3) (v := ?_) (a' := ?_) #[true, true, true, true, true, true, true, true, true, true] rfl rfl (any_of HT_.out (by kernel_rfl)) (fun _ _ _ h => h) (Or.inl ⟨by rfl, ?_⟩) ?_ ?_
                rotate_left
                · intro w'
                  go_simp
                  with_reducible rfl
                rotate_left
                · simp only [Act.put, List.setIfInBounds_toArray, List.set_cons_zero, List.set_cons_succ, i64_w, i32_w]
                  rfl
                refine done_ (done_of HT_.out (by kernel_rfl)) ?_
                try go_wp2
                refine bodyPost_ret (results_ct rfl _ _ gb172 34 #[.int .i64 t177, .int .u16 x179001_1, .bool x179002_1, .bool x179003_1, .bool x179004_1, .bool x179005_1, .bool x179006_1, .bool x179007_1, .bool x179008_1, .int .u8 x179009_1] (0, 0) _ rfl (by (with_reducible repeat (first | refine blk_drewN ?_ _ | refine blk_drew ?_ | refine blk_alloc ?_ _)); refine blk_put (cs := #[.int .i64 t177, .int .u16 x179001_1, .bool x179002_1, .bool x179003_1, .bool x179004_1, .bool x179005_1, .bool x179006_1, .bool x179007_1, .bool x179008_1, .int .u8 0]) ?_ 9 _ rfl; (with_reducible repeat (first | refine blk_drewN ?_ _ | refine blk_drew ?_ | refine blk_alloc ?_ _)); refine blk_put (cs := #[.int .i64 t177, .int .u16 x179001_1, .bool x179002_1, .bool x179003_1, .bool x179004_1, .bool x179005_1, .bool x179006_1, .bool x179007_1, .bool false, .int .u8 0]) ?_ 8 _ rfl; (with_reducible repeat (first | refine blk_drewN ?_ _ | refine blk_drew ?_ | refine blk_alloc ?_ _)); refine blk_put (cs := #[.int .i64 t177, .int .u16 x179001_1, .bool x179002_1, .bool x179003_1, .bool x179004_1, .bool x179005_1, .bool x179006_1, .bool false, .bool false, .int .u8 0]) ?_ 7 _ rfl; (with_reducible repeat (first | refine blk_drewN ?_ _ | refine blk_drew ?_ | refine blk_alloc ?_ _)); refine blk_put (cs := #[.int .i64 t177, .int .u16 x179001_1, .bool x179002_1, .bool x179003_1, .bool x179004_1, .bool x179005_1, .bool false, .bool false, .bool false, .int .u8 0]) ?_ 6 _ rfl; (with_reducible repeat (first | refine blk_drewN ?_ _ | refine blk_drew ?_ | refine blk_alloc ?_ _)); refine blk_put (cs := #[.int .i64 t177, .int .u16 x179001_1, .bool x179002_1, .bool x179003_1, .bool x179004_1, .bool false, .bool false, .bool false, .bool false, .int .u8 0]) ?_ 5 _ rfl; (with_reducible repeat (first | refine blk_drewN ?_ _ | refine blk_drew ?_ | refine blk_alloc ?_ _)); refine blk_put (cs := #[.int .i64 t177, .int .u16 x179001_1, .bool x179002_1, .bool x179003_1, .bool false, .bool false, .bool false, .bool false, .bool false, .int .u8 0]) ?_ 4 _ rfl; (with_reducible repeat (first | refine blk_drewN ?_ _ | refine blk_drew ?_ | refine blk_alloc ?_ _)); refine blk_put (cs := #[.int .i64 t177, .int .u16 x179001_1, .bool x179002_1, .bool false, .bool false, .bool false, .bool false, .bool false, .bool false, .int .u8 0]) ?_ 3 _ rfl; (with_reducible repeat (first | refine blk_drewN ?_ _ | refine blk_drew ?_ | refine blk_alloc ?_ _)); refine blk_put (cs := #[.int .i64 t177, .int .u16 x179001_1, .bool false, .bool false, .bool false, .bool false, .bool false, .bool false, .bool false, .int .u8 0]) ?_ 2 _ rfl; (with_reducible repeat (first | refine blk_drewN ?_ _ | refine blk_drew ?_ | refine blk_alloc ?_ _)); refine blk_put (cs := #[.int .i64 t177, .int .u16 0, .bool false, .bool false, .bool false, .bool false, .bool false, .bool false, .bool false, .int .u8 0]) ?_ 1 _ rfl; (with_reducible repeat (first | refine blk_drewN ?_ _ | refine blk_drew ?_ | refine blk_alloc ?_ _)); refine blk_put (cs := #[.int .i64 0, .int .u16 0, .bool false, .bool false, .bool false, .bool false, .bool false, .bool false, .bool false, .int .u8 0]) ?_ 0 _ rfl; (with_reducible repeat (first | refine blk_drewN ?_ _ | refine blk_drew ?_ | refine blk_alloc ?_ _)); exact BK172.out) Tryd.underlying34 rfl (by kernel_rfl)) rfl ?_
                exact ⟨by first | rfl | (simp [errW_none, errW_some] <;> rfl) | (simp [*, errW_none, errW_some] <;> rfl), by repeat (first | (with_reducible first | exact HB.out | apply below_alloc | apply pw_below_drewN | apply below_drew1 | refine below_set ?_ GE172.out | refine below_set ?_ GE178.out) | exact HB.out)⟩
              · rw [if_neg c46] at H
                have c46b0 : decide (t177 ≤ 1048576) = false := decide_eq_false c46
                clear c46
                simp only [Option.some.injEq, Prod.mk.injEq] at H
                obtain ⟨rfl, rfl, rfl, rfl, rfl, rfl, rfl, rfl, rfl, rfl, rfl⟩ := H
                have hnb62 := NB178_172.out
                have hnc62 := NB172_178.out
                have hcz63_0 : wr.cell? ⟨gb178, 0, none⟩ = some (.int .i64 t177) := (blk_cell BK178.out 0).trans rfl
                have hcz63_1 : wr.cell? ⟨gb178, 1, none⟩ = some (.int .u16 x179001_1) := (blk_cell BK178.out 1).trans rfl
                have hcz63_2 : wr.cell? ⟨gb178, 2, none⟩ = some (.bool x179002_1) := (blk_cell BK178.out 2).trans rfl
                have hcz63_3 : wr.cell? ⟨gb178, 3, none⟩ = some (.bool x179003_1) := (blk_cell BK178.out 3).trans rfl
                have hcz63_4 : wr.cell? ⟨gb178, 4, none⟩ = some (.bool x179004_1) := (blk_cell BK178.out 4).trans rfl
                have hcz63_5 : wr.cell? ⟨gb178, 5, none⟩ = some (.bool x179005_1) := (blk_cell BK178.out 5).trans rfl
                have hcz63_6 : wr.cell? ⟨gb178, 6, none⟩ = some (.bool x179006_1) := (blk_cell BK178.out 6).trans rfl
                have hcz63_7 : wr.cell? ⟨gb178, 7, none⟩ = some (.bool x179007_1) := (blk_cell BK178.out 7).trans rfl
                have hcz63_8 : wr.cell? ⟨gb178, 8, none⟩ = some (.bool x179008_1) := (blk_cell BK178.out 8).trans rfl
                have hcz63_9 : wr.cell? ⟨gb178, 9, none⟩ = some (.int .u8 x179009_1) := (blk_cell BK178.out 9).trans rfl
                have hfz63_0 := blk_frozen BK178.out 0
                have hfz63_1 := blk_frozen BK178.out 1
                have hfz63_2 := blk_frozen BK178.out 2
                have hfz63_3 := blk_frozen BK178.out 3
                have hfz63_4 := blk_frozen BK178.out 4
                have hfz63_5 := blk_frozen BK178.out 5
                have hfz63_6 := blk_frozen BK178.out 6
                have hfz63_7 := blk_frozen BK178.out 7
                have hfz63_8 := blk_frozen BK178.out 8
                have hfz63_9 := blk_frozen BK178.out 9
                try go_wp2
                have n0_ := Aside0.mk (Kd.R_drew HO_4.out)
                have n1_ := Aside0.mk (blk_drew BK172.out)
                have n2_ := Aside0.mk (blk_drew BK178.out)
                have n3_ := Aside0.mk (below_drew1 HB.out)
                clear HO_4
                clear BK172
                clear BK178
                clear HB
                have HO_4 := n0_
                have BK172 := n1_
                have BK178 := n2_
                have HB := n3_
                clear n0_ n1_ n2_ n3_
                refine start_ (n := 10) (S := fun w' => w'.cell? ⟨gb178, 0, none⟩ = some (.int .i64 t177) ∧ w'.cell? ⟨gb178, 1, none⟩ = some (.int .u16 x179001_1) ∧ w'.cell? ⟨gb178, 2, none⟩ = some (.bool x179002_1) ∧ w'.cell? ⟨gb178, 3, none⟩ = some (.bool x179003_1) ∧ w'.cell? ⟨gb178, 4, none⟩ = some (.bool x179004_1) ∧ w'.cell? ⟨gb178, 5, none⟩ = some (.bool x179005_1) ∧ w'.cell? ⟨gb178, 6, none⟩ = some (.bool x179006_1) ∧ w'.cell? ⟨gb178, 7, none⟩ = some (.bool x179007_1) ∧ w'.cell? ⟨gb178, 8, none⟩ = some (.bool x179008_1) ∧ w'.cell? ⟨gb178, 9, none⟩ = some (.int .u8 x179009_1)) (ds := []) #[false, false, false, false, false, false, false, false, false, false] (by kernel_rfl) rfl rfl ⟨(blk_cell BK178.out 0).trans rfl, (blk_cell BK178.out 1).trans rfl, (blk_cell BK178.out 2).trans rfl, (blk_cell BK178.out 3).trans rfl, (blk_cell BK178.out 4).trans rfl, (blk_cell BK178.out 5).trans rfl, (blk_cell BK178.out 6).trans rfl, (blk_cell BK178.out 7).trans rfl, (blk_cell BK178.out 8).trans rfl, (blk_cell BK178.out 9).trans rfl⟩ (fun hHeld => ?_); refine with_tabW vesperref07_Span.tab28 vesperref07_Span.bits28 (fun HT_ HW_ => ?_)
                generalize wr.drew = w64 at HO_4 BK172 BK178 HB hHeld ⊢
                refine pure_ (i := 1) (N := some 76) (v := ?_) (a' := ?_) #[false, true, false, false, false, false, false, false, false, false] rfl rfl (any_of HT_.out (by kernel_rfl)) (fun _ _ _ h => h) (Or.inl ⟨by rfl, ?_⟩) ?_ ?_
                rotate_left
                · intro w'
                  go_simp
                  with_reducible rfl
                rotate_left
                · simp only [Act.put, List.setIfInBounds_toArray, List.set_cons_zero, List.set_cons_succ, i64_w, i32_w]
                  rfl
                refine pure_ (i := 2) (N := some 77) (v := ?_) (a' := ?_) #[false, true, true, false, false, false, false, false, false, false] rfl rfl (any_of HT_.out (by kernel_rfl)) (fun _ _ _ h => h) (Or.inl ⟨by rfl, ?_⟩) ?_ ?_
                rotate_left
                · intro w'
                  go_simp
                  with_reducible rfl
                rotate_left
                · simp only [Act.put, List.setIfInBounds_toArray, List.set_cons_zero, List.set_cons_succ, i64_w, i32_w]
                  rfl
                refine pure_ (i := 3) (N := some 78) (v := undef) (a' := ?_) #[false, true, true, true, false, false, false, false, false, false] rfl rfl (any_of HT_.out (by kernel_rfl)) (fun _ _ _ h => h) (Or.inr ⟨by rfl, rfl⟩) ?_ ?_
                rotate_left
                · simp only [Act.put, List.setIfInBounds_toArray, List.set_cons_zero, List.set_cons_succ, i64_w, i32_w]
                  rfl
                refine pure_ (i := 4) (N := some 79) (v := undef) (a' := ?_) #[false, true, true, true, true, false, false, false, false, false] rfl rfl (any_of HT_.out (by kernel_rfl)) (fun _ _ _ h => h) (Or.inr ⟨by rfl, rfl⟩) ?_ ?_
                rotate_left
                · simp only [Act.put, List.setIfInBounds_toArray, List.set_cons_zero, List.set_cons_succ, i64_w, i32_w]
                  rfl
                refine pure_ (i := 5) (N := some 80) (v := undef) (a' := ?_) #[false, true, true, true, true, true, false, false, false, false] rfl rfl (any_of HT_.out (by kernel_rfl)) (fun _ _ _ h => h) (Or.inr ⟨by rfl, rfl⟩) ?_ ?_
                rotate_left
                · simp only [Act.put, List.setIfInBounds_toArray, List.set_cons_zero, List.set_cons_succ, i64_w, i32_w]
                  rfl
                refine pure_ (i := 6) (N := some 81) (v := undef) (a' := ?_) #[false, true, true, true, true, true, true, false, false, false] rfl rfl (any_of HT_.out (by kernel_rfl)) (fun _ _ _ h => h) (Or.inr ⟨by rfl, rfl⟩) ?_ ?_
                rotate_left
                · simp only [Act.put, List.setIfInBounds_toArray, List.set_cons_zero, List.set_cons_succ, i64_w, i32_w]
                  rfl
                refine pure_ (i := 7) (N := some 82) (v := ?_) (a' := ?_) #[false, true, true, true, true, true, true, true, false, false] rfl rfl (any_of HT_.out (by kernel_rfl)) (fun _ _ _ h => h) (Or.inl ⟨by rfl, ?_⟩) ?_ ?_
                rotate_left
                · intro w'
                  go_simp
                  with_reducible rfl
                rotate_left
                · simp only [Act.put, List.setIfInBounds_toArray, List.set_cons_zero, List.set_cons_succ, i64_w, i32_w]
                  rfl
                refine take_ (i := 0) (N := some 75) (v := ?_) (a' := ?_) #[true, true, true, true, true, true, true, true, false, false] rfl rfl (take_ofW HT_.out HW_.out (by kernel_rfl)) (fun _ _ _ h => h) (Or.inl ⟨by rfl, ?_⟩) hHeld ?_ ?_
                rotate_left
                · rintro w' ⟨s0, s1, s2, s3, s4, s5, s6, s7, s8, s9⟩
                  go_simp
                  with_reducible rfl
                rotate_left
                · simp only [Act.put, List.setIfInBounds_toArray, List.set_cons_zero, List.set_cons_succ, i64_w, i32_w]
                  rfl
                refine one_ (i := 8) (N := none) #[true, true, true, true, true, true, true, true, true, false] rfl rfl (one_of HT_.out (by kernel_rfl)) (by decide) (fun K hK => ?_)
                have hs65 : w64.cell? ⟨gb172, 0, none⟩ = some (.int .i64 0) := (blk_cell BK172.out 0).trans rfl
                have hfs65 := blk_frozen BK172.out 0
                have hns65_1 := NB178_172.out
                have hms65_1 := NB172_178.out
                have hs66 : w64.cell? ⟨gb172, 1, none⟩ = some (.int .u16 0) := (blk_cell BK172.out 1).trans rfl
                have hfs66 := blk_frozen BK172.out 1
                have hns66_1 := NB178_172.out
                have hms66_1 := NB172_178.out
                have hs67 : w64.cell? ⟨gb172, 2, none⟩ = some (.bool false) := (blk_cell BK172.out 2).trans rfl
                have hfs67 := blk_frozen BK172.out 2
                have hns67_1 := NB178_172.out
                have hms67_1 := NB172_178.out
                have hs68 : w64.cell? ⟨gb172, 3, none⟩ = some (.bool false) := (blk_cell BK172.out 3).trans rfl
                have hfs68 := blk_frozen BK172.out 3
                have hns68_1 := NB178_172.out
                have hms68_1 := NB172_178.out
                have hs69 : w64.cell? ⟨gb172, 4, none⟩ = some (.bool false) := (blk_cell BK172.out 4).trans rfl
                have hfs69 := blk_frozen BK172.out 4
                have hns69_1 := NB178_172.out
                have hms69_1 := NB172_178.out
                have hs70 : w64.cell? ⟨gb172, 5, none⟩ = some (.bool false) := (blk_cell BK172.out 5).trans rfl
                have hfs70 := blk_frozen BK172.out 5
                have hns70_1 := NB178_172.out
                have hms70_1 := NB172_178.out
                have hs71 : w64.cell? ⟨gb172, 6, none⟩ = some (.bool false) := (blk_cell BK172.out 6).trans rfl
                have hfs71 := blk_frozen BK172.out 6
                have hns71_1 := NB178_172.out
                have hms71_1 := NB172_178.out
                have hs72 : w64.cell? ⟨gb172, 7, none⟩ = some (.bool false) := (blk_cell BK172.out 7).trans rfl
                have hfs72 := blk_frozen BK172.out 7
                have hns72_1 := NB178_172.out
                have hms72_1 := NB172_178.out
                have hs73 : w64.cell? ⟨gb172, 8, none⟩ = some (.bool false) := (blk_cell BK172.out 8).trans rfl
                have hfs73 := blk_frozen BK172.out 8
                have hns73_1 := NB178_172.out
                have hms73_1 := NB172_178.out
                have hs74 : w64.cell? ⟨gb172, 9, none⟩ = some (.int .u8 0) := (blk_cell BK172.out 9).trans rfl
                have hfs74 := blk_frozen BK172.out 9
                have hns74_1 := NB178_172.out
                have hms74_1 := NB172_178.out
                refine skip_ (w1 := ?_) (by rfl) rfl ?_ ?_
                rotate_left
                · go_simp
                  rfl
                refine hK.out _ _ ⟨((cell_far (p := ⟨gb172, _, none⟩) NB178_172.out _).trans (((cell_far (p := ⟨gb172, _, none⟩) NB178_172.out _).trans (((cell_far (p := ⟨gb172, _, none⟩) NB178_172.out _).trans (((cell_far (p := ⟨gb172, _, none⟩) NB178_172.out _).trans (((cell_far (p := ⟨gb172, _, none⟩) NB178_172.out _).trans (((cell_far (p := ⟨gb172, _, none⟩) NB178_172.out _).trans (((cell_far (p := ⟨gb172, _, none⟩) NB178_172.out _).trans (((cell_far (p := ⟨gb172, _, none⟩) NB178_172.out _).trans (((cell_far (p := ⟨gb172, _, none⟩) NB178_172.out _).trans (((cell_far (p := ⟨gb172, _, none⟩) NB178_172.out _).trans (hHeld.1)))))))))))))))))))), ((cell_far (p := ⟨gb172, _, none⟩) NB178_172.out _).trans (((cell_far (p := ⟨gb172, _, none⟩) NB178_172.out _).trans (((cell_far (p := ⟨gb172, _, none⟩) NB178_172.out _).trans (((cell_far (p := ⟨gb172, _, none⟩) NB178_172.out _).trans (((cell_far (p := ⟨gb172, _, none⟩) NB178_172.out _).trans (((cell_far (p := ⟨gb172, _, none⟩) NB178_172.out _).trans (((cell_far (p := ⟨gb172, _, none⟩) NB178_172.out _).trans (((cell_far (p := ⟨gb172, _, none⟩) NB178_172.out _).trans (((cell_far (p := ⟨gb172, _, none⟩) NB178_172.out _).trans (((cell_far (p := ⟨gb172, _, none⟩) NB178_172.out _).trans (hHeld.2.1)))))))))))))))))))), ((cell_far (p := ⟨gb172, _, none⟩) NB178_172.out _).trans (((cell_far (p := ⟨gb172, _, none⟩) NB178_172.out _).trans (((cell_far (p := ⟨gb172, _, none⟩) NB178_172.out _).trans (((cell_far (p := ⟨gb172, _, none⟩) NB178_172.out _).trans (((cell_far (p := ⟨gb172, _, none⟩) NB178_172.out _).trans (((cell_far (p := ⟨gb172, _, none⟩) NB178_172.out _).trans (((cell_far (p := ⟨gb172, _, none⟩) NB178_172.out _).trans (((cell_far (p := ⟨gb172, _, none⟩) NB178_172.out _).trans (((cell_far (p := ⟨gb172, _, none⟩) NB178_172.out _).trans (((cell_far (p := ⟨gb172, _, none⟩) NB178_172.out _).trans (hHeld.2.2.1)))))))))))))))))))), ((cell_far (p := ⟨gb172, _, none⟩) NB178_172.out _).trans (((cell_far (p := ⟨gb172, _, none⟩) NB178_172.out _).trans (((cell_far (p := ⟨gb172, _, none⟩) NB178_172.out _).trans (((cell_far (p := ⟨gb172, _, none⟩) NB178_172.out _).trans (((cell_far (p := ⟨gb172, _, none⟩) NB178_172.out _).trans (((cell_far (p := ⟨gb172, _, none⟩) NB178_172.out _).trans (((cell_far (p := ⟨gb172, _, none⟩) NB178_172.out _).trans (((cell_far (p := ⟨gb172, _, none⟩) NB178_172.out _).trans (((cell_far (p := ⟨gb172, _, none⟩) NB178_172.out _).trans (((cell_far (p := ⟨gb172, _, none⟩) NB178_172.out _).trans (hHeld.2.2.2.1)))))))))))))))))))), ((cell_far (p := ⟨gb172, _, none⟩) NB178_172.out _).trans (((cell_far (p := ⟨gb172, _, none⟩) NB178_172.out _).trans (((cell_far (p := ⟨gb172, _, none⟩) NB178_172.out _).trans (((cell_far (p := ⟨gb172, _, none⟩) NB178_172.out _).trans (((cell_far (p := ⟨gb172, _, none⟩) NB178_172.out _).trans (((cell_far (p := ⟨gb172, _, none⟩) NB178_172.out _).trans (((cell_far (p := ⟨gb172, _, none⟩) NB178_172.out _).trans (((cell_far (p := ⟨gb172, _, none⟩) NB178_172.out _).trans (((cell_far (p := ⟨gb172, _, none⟩) NB178_172.out _).trans (((cell_far (p := ⟨gb172, _, none⟩) NB178_172.out _).trans (hHeld.2.2.2.2.1)))))))))))))))))))), ((cell_far (p := ⟨gb172, _, none⟩) NB178_172.out _).trans (((cell_far (p := ⟨gb172, _, none⟩) NB178_172.out _).trans (((cell_far (p := ⟨gb172, _, none⟩) NB178_172.out _).trans (((cell_far (p := ⟨gb172, _, none⟩) NB178_172.out _).trans (((cell_far (p := ⟨gb172, _, none⟩) NB178_172.out _).trans (((cell_far (p := ⟨gb172, _, none⟩) NB178_172.out _).trans (((cell_far (p := ⟨gb172, _, none⟩) NB178_172.out _).trans (((cell_far (p := ⟨gb172, _, none⟩) NB178_172.out _).trans (((cell_far (p := ⟨gb172, _, none⟩) NB178_172.out _).trans (((cell_far (p := ⟨gb172, _, none⟩) NB178_172.out _).trans (hHeld.2.2.2.2.2.1)))))))))))))))))))), ((cell_far (p := ⟨gb172, _, none⟩) NB178_172.out _).trans (((cell_far (p := ⟨gb172, _, none⟩) NB178_172.out _).trans (((cell_far (p := ⟨gb172, _, none⟩) NB178_172.out _).trans (((cell_far (p := ⟨gb172, _, none⟩) NB178_172.out _).trans (((cell_far (p := ⟨gb172, _, none⟩) NB178_172.out _).trans (((cell_far (p := ⟨gb172, _, none⟩) NB178_172.out _).trans (((cell_far (p := ⟨gb172, _, none⟩) NB178_172.out _).trans (((cell_far (p := ⟨gb172, _, none⟩) NB178_172.out _).trans (((cell_far (p := ⟨gb172, _, none⟩) NB178_172.out _).trans (((cell_far (p := ⟨gb172, _, none⟩) NB178_172.out _).trans (hHeld.2.2.2.2.2.2.1)))))))))))))))))))), ((cell_far (p := ⟨gb172, _, none⟩) NB178_172.out _).trans (((cell_far (p := ⟨gb172, _, none⟩) NB178_172.out _).trans (((cell_far (p := ⟨gb172, _, none⟩) NB178_172.out _).trans (((cell_far (p := ⟨gb172, _, none⟩) NB178_172.out _).trans (((cell_far (p := ⟨gb172, _, none⟩) NB178_172.out _).trans (((cell_far (p := ⟨gb172, _, none⟩) NB178_172.out _).trans (((cell_far (p := ⟨gb172, _, none⟩) NB178_172.out _).trans (((cell_far (p := ⟨gb172, _, none⟩) NB178_172.out _).trans (((cell_far (p := ⟨gb172, _, none⟩) NB178_172.out _).trans (((cell_far (p := ⟨gb172, _, none⟩) NB178_172.out _).trans (hHeld.2.2.2.2.2.2.2.1)))))))))))))))))))), ((cell_far (p := ⟨gb172, _, none⟩) NB178_172.out _).trans (((cell_far (p := ⟨gb172, _, none⟩) NB178_172.out _).trans (((cell_far (p := ⟨gb172, _, none⟩) NB178_172.out _).trans (((cell_far (p := ⟨gb172, _, none⟩) NB178_172.out _).trans (((cell_far (p := ⟨gb172, _, none⟩) NB178_172.out _).trans (((cell_far (p := ⟨gb172, _, none⟩) NB178_172.out _).trans (((cell_far (p := ⟨gb172, _, none⟩) NB178_172.out _).trans (((cell_far (p := ⟨gb172, _, none⟩) NB178_172.out _).trans (((cell_far (p := ⟨gb172, _, none⟩) NB178_172.out _).trans (((cell_far (p := ⟨gb172, _, none⟩) NB178_172.out _).trans (hHeld.2.2.2.2.2.2.2.2.1)))))))))))))))))))), ((cell_far (p := ⟨gb172, _, none⟩) NB178_172.out _).trans (((cell_far (p := ⟨gb172, _, none⟩) NB178_172.out _).trans (((cell_far (p := ⟨gb172, _, none⟩) NB178_172.out _).trans (((cell_far (p := ⟨gb172, _, none⟩) NB178_172.out _).trans (((cell_far (p := ⟨gb172, _, none⟩) NB178_172.out _).trans (((cell_far (p := ⟨gb172, _, none⟩) NB178_172.out _).trans (((cell_far (p := ⟨gb172, _, none⟩) NB178_172.out _).trans (((cell_far (p := ⟨gb172, _, none⟩) NB178_172.out _).trans (((cell_far (p := ⟨gb172, _, none⟩) NB178_172.out _).trans (((cell_far (p := ⟨gb172, _, none⟩) NB178_172.out _).trans (hHeld.2.2.2.2.2.2.2.2.2))))))))))))))))))))⟩ (fun hHeld => ?_)
                clear hK K
                refine pure_ (i := 9) (N := some 3) (v := ?_) (a' := ?_) #[true, true, true, true, true, true, true, true, true, true] rfl rfl (any_of HT_.out (by kernel_rfl)) (fun _ _ _ h => h) (Or.inl ⟨by rfl, ?_⟩) ?_ ?_
                rotate_left
                · intro w'
                  go_simp
                  with_reducible rfl
                rotate_left
                · simp only [Act.put, List.setIfInBounds_toArray, List.set_cons_zero, List.set_cons_succ, i64_w, i32_w]
                  rfl
                refine done_ (done_of HT_.out (by kernel_rfl)) ?_
                try go_wp2
                refine bodyPost_ret (results_ct rfl _ _ gb172 34 #[.int .i64 t177, .int .u16 x179001_1, .bool x179002_1, .bool x179003_1, .bool x179004_1, .bool x179005_1, .bool x179006_1, .bool x179007_1, .bool x179008_1, .int .u8 x179009_1] (0, 0) _ rfl (by (with_reducible repeat (first | refine blk_drewN ?_ _ | refine blk_drew ?_ | refine blk_alloc ?_ _)); refine blk_put (cs := #[.int .i64 t177, .int .u16 x179001_1, .bool x179002_1, .bool x179003_1, .bool x179004_1, .bool x179005_1, .bool x179006_1, .bool x179007_1, .bool x179008_1, .int .u8 0]) ?_ 9 _ rfl; (with_reducible repeat (first | refine blk_drewN ?_ _ | refine blk_drew ?_ | refine blk_alloc ?_ _)); refine blk_put (cs := #[.int .i64 t177, .int .u16 x179001_1, .bool x179002_1, .bool x179003_1, .bool x179004_1, .bool x179005_1, .bool x179006_1, .bool x179007_1, .bool false, .int .u8 0]) ?_ 8 _ rfl; (with_reducible repeat (first | refine blk_drewN ?_ _ | refine blk_drew ?_ | refine blk_alloc ?_ _)); refine blk_put (cs := #[.int .i64 t177, .int .u16 x179001_1, .bool x179002_1, .bool x179003_1, .bool x179004_1, .bool x179005_1, .bool x179006_1, .bool false, .bool false, .int .u8 0]) ?_ 7 _ rfl; (with_reducible repeat (first | refine blk_drewN ?_ _ | refine blk_drew ?_ | refine blk_alloc ?_ _)); refine blk_put (cs := #[.int .i64 t177, .int .u16 x179001_1, .bool x179002_1, .bool x179003_1, .bool x179004_1, .bool x179005_1, .bool false, .bool false, .bool false, .int .u8 0]) ?_ 6 _ rfl; (with_reducible repeat (first | refine blk_drewN ?_ _ | refine blk_drew ?_ | refine blk_alloc ?_ _)); refine blk_put (cs := #[.int .i64 t177, .int .u16 x179001_1, .bool x179002_1, .bool x179003_1, .bool x179004_1, .bool false, .bool false, .bool false, .bool false, .int .u8 0]) ?_ 5 _ rfl; (with_reducible repeat (first | refine blk_drewN ?_ _ | refine blk_drew ?_ | refine blk_alloc ?_ _)); refine blk_put (cs := #[.int .i64 t177, .int .u16 x179001_1, .bool x179002_1, .bool x179003_1, .bool false, .bool false, .bool false, .bool false, .bool false, .int .u8 0]) ?_ 4 _ rfl; (with_reducible repeat (first | refine blk_drewN ?_ _ | refine blk_drew ?_ | refine blk_alloc ?_ _)); refine blk_put (cs := #[.int .i64 t177, .int .u16 x179001_1, .bool x179002_1, .bool false, .bool false, .bool false, .bool false, .bool false, .bool false, .int .u8 0]) ?_ 3 _ rfl; (with_reducible repeat (first | refine blk_drewN ?_ _ | refine blk_drew ?_ | refine blk_alloc ?_ _)); refine blk_put (cs := #[.int .i64 t177, .int .u16 x179001_1, .bool false, .bool false, .bool false, .bool false, .bool false, .bool false, .bool false, .int .u8 0]) ?_ 2 _ rfl; (with_reducible repeat (first | refine blk_drewN ?_ _ | refine blk_drew ?_ | refine blk_alloc ?_ _)); refine blk_put (cs := #[.int .i64 t177, .int .u16 0, .bool false, .bool false, .bool false, .bool false, .bool false, .bool false, .bool false, .int .u8 0]) ?_ 1 _ rfl; (with_reducible repeat (first | refine blk_drewN ?_ _ | refine blk_drew ?_ | refine blk_alloc ?_ _)); refine blk_put (cs := #[.int .i64 0, .int .u16 0, .bool false, .bool false, .bool false, .bool false, .bool false, .bool false, .bool false, .int .u8 0]) ?_ 0 _ rfl; (with_reducible repeat (first | refine blk_drewN ?_ _ | refine blk_drew ?_ | refine blk_alloc ?_ _)); exact BK172.out) Tryd.underlying34 rfl (by kernel_rfl)) rfl ?_
                exact ⟨by first | rfl | (simp [errW_none, errW_some] <;> rfl) | (simp [*, errW_none, errW_some] <;> rfl), by repeat (first | (with_reducible first | exact HB.out | apply below_alloc | apply pw_below_drewN | apply below_drew1 | refine below_set ?_ GE172.out | refine below_set ?_ GE178.out) | exact HB.out)⟩
            · rw [if_neg c45] at H
              have c45b0 : decide (1 ≤ t177) = false := decide_eq_false c45
              clear c45
              simp only [Option.some.injEq, Prod.mk.injEq] at H
              obtain ⟨rfl, rfl, rfl, rfl, rfl, rfl, rfl, rfl, rfl, rfl, rfl⟩ := H
              have hnb75 := NB178_172.out
              have hnc75 := NB172_178.out
              have hcz76_0 : wr.cell? ⟨gb178, 0, none⟩ = some (.int .i64 t177) := (blk_cell BK178.out 0).trans rfl
              have hcz76_1 : wr.cell? ⟨gb178, 1, none⟩ = some (.int .u16 x179001_1) := (blk_cell BK178.out 1).trans rfl
              have hcz76_2 : wr.cell? ⟨gb178, 2, none⟩ = some (.bool x179002_1) := (blk_cell BK178.out 2).trans rfl
              have hcz76_3 : wr.cell? ⟨gb178, 3, none⟩ = some (.bool x179003_1) := (blk_cell BK178.out 3).trans rfl
              have hcz76_4 : wr.cell? ⟨gb178, 4, none⟩ = some (.bool x179004_1) := (blk_cell BK178.out 4).trans rfl
              have hcz76_5 : wr.cell? ⟨gb178, 5, none⟩ = some (.bool x179005_1) := (blk_cell BK178.out 5).trans rfl
              have hcz76_6 : wr.cell? ⟨gb178, 6, none⟩ = some (.bool x179006_1) := (blk_cell BK178.out 6).trans rfl
              have hcz76_7 : wr.cell? ⟨gb178, 7, none⟩ = some (.bool x179007_1) := (blk_cell BK178.out 7).trans rfl
              have hcz76_8 : wr.cell? ⟨gb178, 8, none⟩ = some (.bool x179008_1) := (blk_cell BK178.out 8).trans rfl
              have hcz76_9 : wr.cell? ⟨gb178, 9, none⟩ = some (.int .u8 x179009_1) := (blk_cell BK178.out 9).trans rfl
              have hfz76_0 := blk_frozen BK178.out 0
              have hfz76_1 := blk_frozen BK178.out 1
              have hfz76_2 := blk_frozen BK178.out 2
              have hfz76_3 := blk_frozen BK178.out 3
              have hfz76_4 := blk_frozen BK178.out 4
              have hfz76_5 := blk_frozen BK178.out 5
              have hfz76_6 := blk_frozen BK178.out 6
              have hfz76_7 := blk_frozen BK178.out 7
              have hfz76_8 := blk_frozen BK178.out 8
              have hfz76_9 := blk_frozen BK178.out 9
              try go_wp2
              have n0_ := Aside0.mk (Kd.R_drew HO_4.out)
              have n1_ := Aside0.mk (blk_drew BK172.out)
              have n2_ := Aside0.mk (blk_drew BK178.out)
              have n3_ := Aside0.mk (below_drew1 HB.out)
              clear HO_4
              clear BK172
              clear BK178
              clear HB
              have HO_4 := n0_
              have BK172 := n1_
              have BK178 := n2_
              have HB := n3_
              clear n0_ n1_ n2_ n3_
              refine start_ (n := 10) (S := fun w' => w'.cell? ⟨gb178, 0, none⟩ = some (.int .i64 t177) ∧ w'.cell? ⟨gb178, 1, none⟩ = some (.int .u16 x179001_1) ∧ w'.cell? ⟨gb178, 2, none⟩ = some (.bool x179002_1) ∧ w'.cell? ⟨gb178, 3, none⟩ = some (.bool x179003_1) ∧ w'.cell? ⟨gb178, 4, none⟩ = some (.bool x179004_1) ∧ w'.cell? ⟨gb178, 5, none⟩ = some (.bool x179005_1) ∧ w'.cell? ⟨gb178, 6, none⟩ = some (.bool x179006_1) ∧ w'.cell? ⟨gb178, 7, none⟩ = some (.bool x179007_1) ∧ w'.cell? ⟨gb178, 8, none⟩ = some (.bool x179008_1) ∧ w'.cell? ⟨gb178, 9, none⟩ = some (.int .u8 x179009_1)) (ds := []) #[false, false, false, false, false, false, false, false, false, false] (by kernel_rfl) rfl rfl ⟨(blk_cell BK178.out 0).trans rfl, (blk_cell BK178.out 1).trans rfl, (blk_cell BK178.out 2).trans rfl, (blk_cell BK178.out 3).trans rfl, (blk_cell BK178.out 4).trans rfl, (blk_cell BK178.out 5).trans rfl, (blk_cell BK178.out 6).trans rfl, (blk_cell BK178.out 7).trans rfl, (blk_cell BK178.out 8).trans rfl, (blk_cell BK178.out 9).trans rfl⟩ (fun hHeld => ?_); refine with_tabW vesperref07_Span.tab28 vesperref07_Span.bits28 (fun HT_ HW_ => ?_)
              generalize wr.drew = w77 at HO_4 BK172 BK178 HB hHeld ⊢
              refine pure_ (i := 1) (N := some 76) (v := ?_) (a' := ?_) #[false, true, false, false, false, false, false, false, false, false] rfl rfl (any_of HT_.out (by kernel_rfl)) (fun _ _ _ h => h) (Or.inl ⟨by rfl, ?_⟩) ?_ ?_
              rotate_left
              · intro w'
                go_simp
                with_reducible rfl
              rotate_left
              · simp only [Act.put, List.setIfInBounds_toArray, List.set_cons_zero, List.set_cons_succ, i64_w, i32_w]
                rfl
              refine pure_ (i := 2) (N := some 77) (v := ?_) (a' := ?_) #[false, true, true, false, false, false, false, false, false, false] rfl rfl (any_of HT_.out (by kernel_rfl)) (fun _ _ _ h => h) (Or.inl ⟨by rfl, ?_⟩) ?_ ?_
              rotate_left
              · intro w'
                go_simp
                with_reducible rfl
              rotate_left
              · simp only [Act.put, List.setIfInBounds_toArray, List.set_cons_zero, List.set_cons_succ, i64_w, i32_w]
                rfl
              refine pure_ (i := 3) (N := some 78) (v := undef) (a' := ?_) #[false, true, true, true, false, false, false, false, false, false] rfl rfl (any_of HT_.out (by kernel_rfl)) (fun _ _ _ h => h) (Or.inr ⟨by rfl, rfl⟩) ?_ ?_
              rotate_left
              · simp only [Act.put, List.setIfInBounds_toArray, List.set_cons_zero, List.set_cons_succ, i64_w, i32_w]
                rfl
              refine pure_ (i := 4) (N := some 79) (v := undef) (a' := ?_) #[false, true, true, true, true, false, false, false, false, false] rfl rfl (any_of HT_.out (by kernel_rfl)) (fun _ _ _ h => h) (Or.inr ⟨by rfl, rfl⟩) ?_ ?_
              rotate_left
              · simp only [Act.put, List.setIfInBounds_toArray, List.set_cons_zero, List.set_cons_succ, i64_w, i32_w]
                rfl
              refine pure_ (i := 5) (N := some 80) (v := undef) (a' := ?_) #[false, true, true, true, true, true, false, false, false, false] rfl rfl (any_of HT_.out (by kernel_rfl)) (fun _ _ _ h => h) (Or.inr ⟨by rfl, rfl⟩) ?_ ?_
              rotate_left
              · simp only [Act.put, List.setIfInBounds_toArray, List.set_cons_zero, List.set_cons_succ, i64_w, i32_w]
                rfl
              refine pure_ (i := 6) (N := some 81) (v := undef) (a' := ?_) #[false, true, true, true, true, true, true, false, false, false] rfl rfl (any_of HT_.out (by kernel_rfl)) (fun _ _ _ h => h) (Or.inr ⟨by rfl, rfl⟩) ?_ ?_
              rotate_left
              · simp only [Act.put, List.setIfInBounds_toArray, List.set_cons_zero, List.set_cons_succ, i64_w, i32_w]
                rfl
              refine pure_ (i := 7) (N := some 82) (v := ?_) (a' := ?_) #[false, true, true, true, true, true, true, true, false, false] rfl rfl (any_of HT_.out (by kernel_rfl)) (fun _ _ _ h => h) (Or.inl ⟨by rfl, ?_⟩) ?_ ?_
              rotate_left
              · intro w'
                go_simp
                with_reducible rfl
              rotate_left
              · simp only [Act.put, List.setIfInBounds_toArray, List.set_cons_zero, List.set_cons_succ, i64_w, i32_w]
                rfl
              refine take_ (i := 0) (N := some 75) (v := ?_) (a' := ?_) #[true, true, true, true, true, true, true, true, false, false] rfl rfl (take_ofW HT_.out HW_.out (by kernel_rfl)) (fun _ _ _ h => h) (Or.inl ⟨by rfl, ?_⟩) hHeld ?_ ?_
              rotate_left
              · rintro w' ⟨s0, s1, s2, s3, s4, s5, s6, s7, s8, s9⟩
                go_simp
                with_reducible rfl
              rotate_left
              · simp only [Act.put, List.setIfInBounds_toArray, List.set_cons_zero, List.set_cons_succ, i64_w, i32_w]
                rfl
              refine one_ (i := 8) (N := none) #[true, true, true, true, true, true, true, true, true, false] rfl rfl (one_of HT_.out (by kernel_rfl)) (by decide) (fun K hK => ?_)
              have hs78 : w77.cell? ⟨gb172, 0, none⟩ = some (.int .i64 0) := (blk_cell BK172.out 0).trans rfl
              have hfs78 := blk_frozen BK172.out 0
              have hns78_1 := NB178_172.out
              have hms78_1 := NB172_178.out
              have hs79 : w77.cell? ⟨gb172, 1, none⟩ = some (.int .u16 0) := (blk_cell BK172.out 1).trans rfl
              have hfs79 := blk_frozen BK172.out 1
              have hns79_1 := NB178_172.out
              have hms79_1 := NB172_178.out
              have hs80 : w77.cell? ⟨gb172, 2, none⟩ = some (.bool false) := (blk_cell BK172.out 2).trans rfl
              have hfs80 := blk_frozen BK172.out 2
              have hns80_1 := NB178_172.out
              have hms80_1 := NB172_178.out
              have hs81 : w77.cell? ⟨gb172, 3, none⟩ = some (.bool false) := (blk_cell BK172.out 3).trans rfl
              have hfs81 := blk_frozen BK172.out 3
              have hns81_1 := NB178_172.out
              have hms81_1 := NB172_178.out
              have hs82 : w77.cell? ⟨gb172, 4, none⟩ = some (.bool false) := (blk_cell BK172.out 4).trans rfl
              have hfs82 := blk_frozen BK172.out 4
              have hns82_1 := NB178_172.out
              have hms82_1 := NB172_178.out
              have hs83 : w77.cell? ⟨gb172, 5, none⟩ = some (.bool false) := (blk_cell BK172.out 5).trans rfl
              have hfs83 := blk_frozen BK172.out 5
              have hns83_1 := NB178_172.out
              have hms83_1 := NB172_178.out
              have hs84 : w77.cell? ⟨gb172, 6, none⟩ = some (.bool false) := (blk_cell BK172.out 6).trans rfl
              have hfs84 := blk_frozen BK172.out 6
              have hns84_1 := NB178_172.out
              have hms84_1 := NB172_178.out
              have hs85 : w77.cell? ⟨gb172, 7, none⟩ = some (.bool false) := (blk_cell BK172.out 7).trans rfl
              have hfs85 := blk_frozen BK172.out 7
              have hns85_1 := NB178_172.out
              have hms85_1 := NB172_178.out
              have hs86 : w77.cell? ⟨gb172, 8, none⟩ = some (.bool false) := (blk_cell BK172.out 8).trans rfl
              have hfs86 := blk_frozen BK172.out 8
              have hns86_1 := NB178_172.out
              have hms86_1 := NB172_178.out
              have hs87 : w77.cell? ⟨gb172, 9, none⟩ = some (.int .u8 0) := (blk_cell BK172.out 9).trans rfl
              have hfs87 := blk_frozen BK172.out 9
              have hns87_1 := NB178_172.out
              have hms87_1 := NB172_178.out
              refine skip_ (w1 := ?_) (by rfl) rfl ?_ ?_
              rotate_left
              · go_simp
                rfl
              refine hK.out _ _ ⟨((cell_far (p := ⟨gb172, _, none⟩) NB178_172.out _).trans (((cell_far (p := ⟨gb172, _, none⟩) NB178_172.out _).trans (((cell_far (p := ⟨gb172, _, none⟩) NB178_172.out _).trans (((cell_far (p := ⟨gb172, _, none⟩) NB178_172.out _).trans (((cell_far (p := ⟨gb172, _, none⟩) NB178_172.out _).trans (((cell_far (p := ⟨gb172, _, none⟩) NB178_172.out _).trans (((cell_far (p := ⟨gb172, _, none⟩) NB178_172.out _).trans (((cell_far (p := ⟨gb172, _, none⟩) NB178_172.out _).trans (((cell_far (p := ⟨gb172, _, none⟩) NB178_172.out _).trans (((cell_far (p := ⟨gb172, _, none⟩) NB178_172.out _).trans (hHeld.1)))))))))))))))))))), ((cell_far (p := ⟨gb172, _, none⟩) NB178_172.out _).trans (((cell_far (p := ⟨gb172, _, none⟩) NB178_172.out _).trans (((cell_far (p := ⟨gb172, _, none⟩) NB178_172.out _).trans (((cell_far (p := ⟨gb172, _, none⟩) NB178_172.out _).trans (((cell_far (p := ⟨gb172, _, none⟩) NB178_172.out _).trans (((cell_far (p := ⟨gb172, _, none⟩) NB178_172.out _).trans (((cell_far (p := ⟨gb172, _, none⟩) NB178_172.out _).trans (((cell_far (p := ⟨gb172, _, none⟩) NB178_172.out _).trans (((cell_far (p := ⟨gb172, _, none⟩) NB178_172.out _).trans (((cell_far (p := ⟨gb172, _, none⟩) NB178_172.out _).trans (hHeld.2.1)))))))))))))))))))), ((cell_far (p := ⟨gb172, _, none⟩) NB178_172.out _).trans (((cell_far (p := ⟨gb172, _, none⟩) NB178_172.out _).trans (((cell_far (p := ⟨gb172, _, none⟩) NB178_172.out _).trans (((cell_far (p := ⟨gb172, _, none⟩) NB178_172.out _).trans (((cell_far (p := ⟨gb172, _, none⟩) NB178_172.out _).trans (((cell_far (p := ⟨gb172, _, none⟩) NB178_172.out _).trans (((cell_far (p := ⟨gb172, _, none⟩) NB178_172.out _).trans (((cell_far (p := ⟨gb172, _, none⟩) NB178_172.out _).trans (((cell_far (p := ⟨gb172, _, none⟩) NB178_172.out _).trans (((cell_far (p := ⟨gb172, _, none⟩) NB178_172.out _).trans (hHeld.2.2.1)))))))))))))))))))), ((cell_far (p := ⟨gb172, _, none⟩) NB178_172.out _).trans (((cell_far (p := ⟨gb172, _, none⟩) NB178_172.out _).trans (((cell_far (p := ⟨gb172, _, none⟩) NB178_172.out _).trans (((cell_far (p := ⟨gb172, _, none⟩) NB178_172.out _).trans (((cell_far (p := ⟨gb172, _, none⟩) NB178_172.out _).trans (((cell_far (p := ⟨gb172, _, none⟩) NB178_172.out _).trans (((cell_far (p := ⟨gb172, _, none⟩) NB178_172.out _).trans (((cell_far (p := ⟨gb172, _, none⟩) NB178_172.out _).trans (((cell_far (p := ⟨gb172, _, none⟩) NB178_172.out _).trans (((cell_far (p := ⟨gb172, _, none⟩) NB178_172.out _).trans (hHeld.2.2.2.1)))))))))))))))))))), ((cell_far (p := ⟨gb172, _, none⟩) NB178_172.out _).trans (((cell_far (p := ⟨gb172, _, none⟩) NB178_172.out _).trans (((cell_far (p := ⟨gb172, _, none⟩) NB178_172.out _).trans (((cell_far (p := ⟨gb172, _, none⟩) NB178_172.out _).trans (((cell_far (p := ⟨gb172, _, none⟩) NB178_172.out _).trans (((cell_far (p := ⟨gb172, _, none⟩) NB178_172.out _).trans (((cell_far (p := ⟨gb172, _, none⟩) NB178_172.out _).trans (((cell_far (p := ⟨gb172, _, none⟩) NB178_172.out _).trans (((cell_far (p := ⟨gb172, _, none⟩) NB178_172.out _).trans (((cell_far (p := ⟨gb172, _, none⟩) NB178_172.out _).trans (hHeld.2.2.2.2.1)))))))))))))))))))), ((cell_far (p := ⟨gb172, _, none⟩) NB178_172.out _).trans (((cell_far (p := ⟨gb172, _, none⟩) NB178_172.out _).trans (((cell_far (p := ⟨gb172, _, none⟩) NB178_172.out _).trans (((cell_far (p := ⟨gb172, _, none⟩) NB178_172.out _).trans (((cell_far (p := ⟨gb172, _, none⟩) NB178_172.out _).trans (((cell_far (p := ⟨gb172, _, none⟩) NB178_172.out _).trans (((cell_far (p := ⟨gb172, _, none⟩) NB178_172.out _).trans (((cell_far (p := ⟨gb172, _, none⟩) NB178_172.out _).trans (((cell_far (p := ⟨gb172, _, none⟩) NB178_172.out _).trans (((cell_far (p := ⟨gb172, _, none⟩) NB178_172.out _).trans (hHeld.2.2.2.2.2.1)))))))))))))))))))), ((cell_far (p := ⟨gb172, _, none⟩) NB178_172.out _).trans (((cell_far (p := ⟨gb172, _, none⟩) NB178_172.out _).trans (((cell_far (p := ⟨gb172, _, none⟩) NB178_172.out _).trans (((cell_far (p := ⟨gb172, _, none⟩) NB178_172.out _).trans (((cell_far (p := ⟨gb172, _, none⟩) NB178_172.out _).trans (((cell_far (p := ⟨gb172, _, none⟩) NB178_172.out _).trans (((cell_far (p := ⟨gb172, _, none⟩) NB178_172.out _).trans (((cell_far (p := ⟨gb172, _, none⟩) NB178_172.out _).trans (((cell_far (p := ⟨gb172, _, none⟩) NB178_172.out _).trans (((cell_far (p := ⟨gb172, _, none⟩) NB178_172.out _).trans (hHeld.2.2.2.2.2.2.1)))))))))))))))))))), ((cell_far (p := ⟨gb172, _, none⟩) NB178_172.out _).trans (((cell_far (p := ⟨gb172, _, none⟩) NB178_172.out _).trans (((cell_far (p := ⟨gb172, _, none⟩) NB178_172.out _).trans (((cell_far (p := ⟨gb172, _, none⟩) NB178_172.out _).trans (((cell_far (p := ⟨gb172, _, none⟩) NB178_172.out _).trans (((cell_far (p := ⟨gb172, _, none⟩) NB178_172.out _).trans (((cell_far (p := ⟨gb172, _, none⟩) NB178_172.out _).trans (((cell_far (p := ⟨gb172, _, none⟩) NB178_172.out _).trans (((cell_far (p := ⟨gb172, _, none⟩) NB178_172.out _).trans (((cell_far (p := ⟨gb172, _, none⟩) NB178_172.out _).trans (hHeld.2.2.2.2.2.2.2.1)))))))))))))))))))), ((cell_far (p := ⟨gb172, _, none⟩) NB178_172.out _).trans (((cell_far (p := ⟨gb172, _, none⟩) NB178_172.out _).trans (((cell_far (p := ⟨gb172, _, none⟩) NB178_172.out _).trans (((cell_far (p := ⟨gb172, _, none⟩) NB178_172.out _).trans (((cell_far (p := ⟨gb172, _, none⟩) NB178_172.out _).trans (((cell_far (p := ⟨gb172, _, none⟩) NB178_172.out _).trans (((cell_far (p := ⟨gb172, _, none⟩) NB178_172.out _).trans (((cell_far (p := ⟨gb172, _, none⟩) NB178_172.out _).trans (((cell_far (p := ⟨gb172, _, none⟩) NB178_172.out _).trans (((cell_far (p := ⟨gb172, _, none⟩) NB178_172.out _).trans (hHeld.2.2.2.2.2.2.2.2.1)))))))))))))))))))), ((cell_far (p := ⟨gb172, _, none⟩) NB178_172.out _).trans (((cell_far (p := ⟨gb172, _, none⟩) NB178_172.out _).trans (((cell_far (p := ⟨gb172, _, none⟩) NB178_172.out _).trans (((cell_far (p := ⟨gb172, _, none⟩) NB178_172.out _).trans (((cell_far (p := ⟨gb172, _, none⟩) NB178_172.out _).trans (((cell_far (p := ⟨gb172, _, none⟩) NB178_172.out _).trans (((cell_far (p := ⟨gb172, _, none⟩) NB178_172.out _).trans (((cell_far (p := ⟨gb172, _, none⟩) NB178_172.out _).trans (((cell_far (p := ⟨gb172, _, none⟩) NB178_172.out _).trans (((cell_far (p := ⟨gb172, _, none⟩) NB178_172.out _).trans (hHeld.2.2.2.2.2.2.2.2.2))))))))))))))))))))⟩ (fun hHeld => ?_)
              clear hK K
              refine pure_ (i := 9) (N := some 3) (v := ?_) (a' := ?_) #[true, true, true, true, true, true, true, true, true, true] rfl rfl (any_of HT_.out (by kernel_rfl)) (fun _ _ _ h => h) (Or.inl ⟨by rfl, ?_⟩) ?_ ?_
              rotate_left
              · intro w'
                go_simp
                with_reducible rfl
              rotate_left
              · simp only [Act.put, List.setIfInBounds_toArray, List.set_cons_zero, List.set_cons_succ, i64_w, i32_w]
                rfl
              refine done_ (done_of HT_.out (by kernel_rfl)) ?_
              try go_wp2
              refine bodyPost_ret (results_ct rfl _ _ gb172 34 #[.int .i64 t177, .int .u16 x179001_1, .bool x179002_1, .bool x179003_1, .bool x179004_1, .bool x179005_1, .bool x179006_1, .bool x179007_1, .bool x179008_1, .int .u8 x179009_1] (0, 0) _ rfl (by (with_reducible repeat (first | refine blk_drewN ?_ _ | refine blk_drew ?_ | refine blk_alloc ?_ _)); refine blk_put (cs := #[.int .i64 t177, .int .u16 x179001_1, .bool x179002_1, .bool x179003_1, .bool x179004_1, .bool x179005_1, .bool x179006_1, .bool x179007_1, .bool x179008_1, .int .u8 0]) ?_ 9 _ rfl; (with_reducible repeat (first | refine blk_drewN ?_ _ | refine blk_drew ?_ | refine blk_alloc ?_ _)); refine blk_put (cs := #[.int .i64 t177, .int .u16 x179001_1, .bool x179002_1, .bool x179003_1, .bool x179004_1, .bool x179005_1, .bool x179006_1, .bool x179007_1, .bool false, .int .u8 0]) ?_ 8 _ rfl; (with_reducible repeat (first | refine blk_drewN ?_ _ | refine blk_drew ?_ | refine blk_alloc ?_ _)); refine blk_put (cs := #[.int .i64 t177, .int .u16 x179001_1, .bool x179002_1, .bool x179003_1, .bool x179004_1, .bool x179005_1, .bool x179006_1, .bool false, .bool false, .int .u8 0]) ?_ 7 _ rfl; (with_reducible repeat (first | refine blk_drewN ?_ _ | refine blk_drew ?_ | refine blk_alloc ?_ _)); refine blk_put (cs := #[.int .i64 t177, .int .u16 x179001_1, .bool x179002_1, .bool x179003_1, .bool x179004_1, .bool x179005_1, .bool false, .bool false, .bool false, .int .u8 0]) ?_ 6 _ rfl; (with_reducible repeat (first | refine blk_drewN ?_ _ | refine blk_drew ?_ | refine blk_alloc ?_ _)); refine blk_put (cs := #[.int .i64 t177, .int .u16 x179001_1, .bool x179002_1, .bool x179003_1, .bool x179004_1, .bool false, .bool false, .bool false, .bool false, .int .u8 0]) ?_ 5 _ rfl; (with_reducible repeat (first | refine blk_drewN ?_ _ | refine blk_drew ?_ | refine blk_alloc ?_ _)); refine blk_put (cs := #[.int .i64 t177, .int .u16 x179001_1, .bool x179002_1, .bool x179003_1, .bool false, .bool false, .bool false, .bool false, .bool false, .int .u8 0]) ?_ 4 _ rfl; (with_reducible repeat (first | refine blk_drewN ?_ _ | refine blk_drew ?_ | refine blk_alloc ?_ _)); refine blk_put (cs := #[.int .i64 t177, .int .u16 x179001_1, .bool x179002_1, .bool false, .bool false, .bool false, .bool false, .bool false, .bool false, .int .u8 0]) ?_ 3 _ rfl; (with_reducible repeat (first | refine blk_drewN ?_ _ | refine blk_drew ?_ | refine blk_alloc ?_ _)); refine blk_put (cs := #[.int .i64 t177, .int .u16 x179001_1, .bool false, .bool false, .bool false, .bool false, .bool false, .bool false, .bool false, .int .u8 0]) ?_ 2 _ rfl; (with_reducible repeat (first | refine blk_drewN ?_ _ | refine blk_drew ?_ | refine blk_alloc ?_ _)); refine blk_put (cs := #[.int .i64 t177, .int .u16 0, .bool false, .bool false, .bool false, .bool false, .bool false, .bool false, .bool false, .int .u8 0]) ?_ 1 _ rfl; (with_reducible repeat (first | refine blk_drewN ?_ _ | refine blk_drew ?_ | refine blk_alloc ?_ _)); refine blk_put (cs := #[.int .i64 0, .int .u16 0, .bool false, .bool false, .bool false, .bool false, .bool false, .bool false, .bool false, .int .u8 0]) ?_ 0 _ rfl; (with_reducible repeat (first | refine blk_drewN ?_ _ | refine blk_drew ?_ | refine blk_alloc ?_ _)); exact BK172.out) Tryd.underlying34 rfl (by kernel_rfl)) rfl ?_
              exact ⟨by first | rfl | (simp [errW_none, errW_some] <;> rfl) | (simp [*, errW_none, errW_some] <;> rfl), by repeat (first | (with_reducible first | exact HB.out | apply below_alloc | apply pw_below_drewN | apply below_drew1 | refine below_set ?_ GE172.out | refine below_set ?_ GE178.out) | exact HB.out)⟩
    · rw [if_neg c6] at H
      exact absurd H (by simp)

end Go.Proofs.YtdjffafcmomalaaDoor.PScr
