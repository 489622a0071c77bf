/- Written by a program of this session (gprint.py, over the kit's printer): functions of the seat YtjedbamcjgabpaaDoor and their contracts. No condition but each contract's own. -/
import Derived.Test.YtjedbamcjgabpaaDoorPSox0
import Derived.Test.YtjedbamcjgabpaaDoorPSoCodeFind
import Derived.Test.YtjedbamcjgabpaaDoorPSoCodeEncode
import Derived.Test.YtjedbamcjgabpaaDoorSrcAll
import Derived.Test.YtjedbamcjgabpaaDoorSrcG
namespace Go.Proofs.YtjedbamcjgabpaaDoor.PSo
open Go.RowKit Go.Proofs.YtjedbamcjgabpaaDoorW.PrintWords Go.Proofs.YtjedbamcjgabpaaDoorW.PrintLast Go.Proofs.YtjedbamcjgabpaaDoorW.PrintMore
open Go.Proofs.YtjedbamcjgabpaaDoor.Src (GOk)
attribute [local go_sem] max2_int min2_int max_two min_two max_three min_three max_four min_four   -- for this text's walks alone
set_option linter.unusedVariables false
set_option linter.unusedSimpArgs false

/-! ### source_instruction: function 36 -/
mutual
def source_instruction.j0 : Nat → Bool → Int → ByteArray → Int → ByteArray → Int → List Int → ByteArray → Int → Int → Int → Option (Bool)
 | 0, _, _, _, _, _, _, _, _, _, _, _ => none
 | k + 1, x20, x127000, x127001, x127002, x127003, x127004, x127005, x133000, x133001, x133002, x133003 => if x20 = true then (some false) else (if x127004 = 0 then ((code_Encode.f k x127001 x127002).bind fun bt133 => (if bt133.2 = 0 then (some (x127003.toList == ([] : List UInt8))) else (some false))) else (if x127002 = 0 then ((source_name.f x127003).bind fun t137 => (source_instruction.j1 k (!t137) x127000 x127001 x127002 x127003 x127004 x127005 x133000 x133001 x133002 x133003)) else (source_instruction.j1 k true x127000 x127001 x127002 x127003 x127004 x127005 x133000 x133001 x133002 x133003)))
def source_instruction.j1 : Nat → Bool → Int → ByteArray → Int → ByteArray → Int → List Int → ByteArray → Int → Int → Int → Option (Bool)
 | 0, _, _, _, _, _, _, _, _, _, _, _ => none
 | k + 1, x48, x127000, x127001, x127002, x127003, x127004, x127005, x133000, x133001, x133002, x133003 => if x48 = true then (some false) else (if x133001 = 4 then (if x127004 = 2 then (some true) else (some (x127004 == 3))) else (if x133001 = 5 then (some (x127004 == 1)) else (if x133001 = 6 then (some (x127004 == 1)) else (some false))))
end
def source_instruction.f (k : Nat) (a0_0 : Int) (a0_1 : ByteArray) (a0_2 : Int) (a0_3 : ByteArray) (a0_4 : Int) (l0_5 : List Int) : Option (Bool) := (code_Find.f k a0_1).bind fun bt127 => (if bt127.2.2.2.2 = true then (source_instruction.j0 k (decide ((l0_5.length : Int) > 0)) a0_0 a0_1 a0_2 a0_3 a0_4 l0_5 bt127.1 bt127.2.1 bt127.2.2.1 bt127.2.2.2.1) else (source_instruction.j0 k true a0_0 a0_1 a0_2 a0_3 a0_4 l0_5 bt127.1 bt127.2.1 bt127.2.2.1 bt127.2.2.2.1))
theorem source_instruction.mono_l : ∀ k, (∀ y0 y1 y2 y3 y4 y5 y6 y7 y8 y9 y10, LeO (source_instruction.j0 k y0 y1 y2 y3 y4 y5 y6 y7 y8 y9 y10) (source_instruction.j0 (k + 1) y0 y1 y2 y3 y4 y5 y6 y7 y8 y9 y10)) ∧ (∀ y0 y1 y2 y3 y4 y5 y6 y7 y8 y9 y10, LeO (source_instruction.j1 k y0 y1 y2 y3 y4 y5 y6 y7 y8 y9 y10) (source_instruction.j1 (k + 1) y0 y1 y2 y3 y4 y5 y6 y7 y8 y9 y10))
 | 0 => ⟨fun _ _ _ _ _ _ _ _ _ _ _ r h => by simp [source_instruction.j0] at h, fun _ _ _ _ _ _ _ _ _ _ _ r h => by simp [source_instruction.j1] at h⟩
 | k + 1 => by
  obtain ⟨ih0, ih1⟩ := source_instruction.mono_l k
  refine ⟨?_, ?_⟩
  ·intro y0 y1 y2 y3 y4 y5 y6 y7 y8 y9 y10
   unfold source_instruction.j0
   repeat' first
   | (with_reducible exact ih0 _ _ _ _ _ _ _ _ _ _ _)
   | (with_reducible exact ih1 _ _ _ _ _ _ _ _ _ _ _)
   | (with_reducible exact code_Encode.mono _ _ _)
   | (with_reducible exact code_Find.mono _ _)
   | (with_reducible exact LeO.refl _)
   | (with_reducible exact LeO.none _)
   | (with_reducible refine LeO.ite ?_ ?_)
   | (with_reducible refine LeO.bind ?_ (fun _ => ?_))
   | exact ih0 _ _ _ _ _ _ _ _ _ _ _
   | exact ih1 _ _ _ _ _ _ _ _ _ _ _
   | exact code_Encode.mono _ _ _
   | exact code_Find.mono _ _
   | exact LeO.none _
   | refine LeO.ite ?_ ?_
   | refine LeO.bind ?_ (fun _ => ?_)
  ·intro y0 y1 y2 y3 y4 y5 y6 y7 y8 y9 y10
   unfold source_instruction.j1
   repeat' first
   | (with_reducible exact ih0 _ _ _ _ _ _ _ _ _ _ _)
   | (with_reducible exact ih1 _ _ _ _ _ _ _ _ _ _ _)
   | (with_reducible exact code_Encode.mono _ _ _)
   | (with_reducible exact code_Find.mono _ _)
   | (with_reducible exact LeO.refl _)
   | (with_reducible exact LeO.none _)
   | (with_reducible refine LeO.ite ?_ ?_)
   | (with_reducible refine LeO.bind ?_ (fun _ => ?_))
   | exact ih0 _ _ _ _ _ _ _ _ _ _ _
   | exact ih1 _ _ _ _ _ _ _ _ _ _ _
   | exact code_Encode.mono _ _ _
   | exact code_Find.mono _ _
   | exact LeO.none _
   | refine LeO.ite ?_ ?_
   | refine LeO.bind ?_ (fun _ => ?_)
theorem source_instruction.mono : ∀ a0 a1 a2 a3 a4 a5 k, LeO (source_instruction.f k a0 a1 a2 a3 a4 a5) (source_instruction.f (k + 1) a0 a1 a2 a3 a4 a5) := by
 intro a0 a1 a2 a3 a4 a5 k
 obtain ⟨ih0, ih1⟩ := source_instruction.mono_l k
 unfold source_instruction.f
 repeat' first
  | (with_reducible exact ih0 _ _ _ _ _ _ _ _ _ _ _)
  | (with_reducible exact ih1 _ _ _ _ _ _ _ _ _ _ _)
  | (with_reducible exact code_Encode.mono _ _ _)
  | (with_reducible exact code_Find.mono _ _)
  | (with_reducible exact LeO.refl _)
  | (with_reducible exact LeO.none _)
  | (with_reducible refine LeO.ite ?_ ?_)
  | (with_reducible refine LeO.bind ?_ (fun _ => ?_))
  | exact ih0 _ _ _ _ _ _ _ _ _ _ _
  | exact ih1 _ _ _ _ _ _ _ _ _ _ _
  | exact code_Encode.mono _ _ _
  | exact code_Find.mono _ _
  | exact LeO.none _
  | refine LeO.ite ?_ ?_
  | refine LeO.bind ?_ (fun _ => ?_)
set_option maxHeartbeats 8000000 in
set_option maxRecDepth 100000 in
theorem source_instruction.calls (k : Nat) (a0_0 : Int) (a0_1 : ByteArray) (a0_2 : Int) (a0_3 : ByteArray) (a0_4 : Int) (A0_5 : Option Addr) (c0_5 : Nat) (l0_5 : List Int) (r : Bool) (w : World) (hr0_5 : Kd.C (Kd.int .u8) w A0_5 l0_5.length l0_5) (hc0_5 : l0_5.length ≤ c0_5) (h : source_instruction.f k a0_0 a0_1 a0_2 a0_3 a0_4 l0_5 = some r) (hG : GOk w := by first | exact HG.out | exact GOk.below HG.out HB.out | exact GOk.below HG.out (by repeat (first | (with_reducible first | exact HB.out | apply below_alloc | apply pw_below_drewN | apply below_drew1 | refine below_set ?_ (Aside0.out (by assumption))) | exact HB.out))) :
 Calls Tryd.prog 36 #[.agg #[.int .u8 a0_0, .string a0_1, .int .i64 a0_2, .string a0_3, .int .u8 a0_4, .slice A0_5 l0_5.length c0_5]] w fun e w' => e = .returned (.bool r) ∧ Below w.heap.size w w' := by
 have HG := Aside0.mk hG
 clear hG
 have hu43 := Tryd.underlying43
 have hu72 := Tryd.underlying72
 have hu80 := Tryd.underlying80
 have HR0_5 := Aside0.mk hr0_5
 have HC0_5 := Aside0.mk hc0_5
 clear hr0_5 hc0_5
 have HB := Aside0.mk (Below.refl w.heap.size w)
 have H : ((code_Find.f k a0_1).bind fun bt127 => (if bt127.2.2.2.2 = true then (source_instruction.j0 k (decide ((l0_5.length : Int) > 0)) a0_0 a0_1 a0_2 a0_3 a0_4 l0_5 bt127.1 bt127.2.1 bt127.2.2.1 bt127.2.2.2.1) else (source_instruction.j0 k true a0_0 a0_1 a0_2 a0_3 a0_4 l0_5 bt127.1 bt127.2.1 bt127.2.2.1 bt127.2.2.2.1))) = some r := h
 clear h
 replace H := Option.bind_eq_some_iff.mp H
 obtain ⟨⟨t127, t128, t129, t130, t131⟩, A20, H⟩ := H
 replace H : (if t131 = true then (source_instruction.j0 k (decide ((l0_5.length : Int) > 0)) a0_0 a0_1 a0_2 a0_3 a0_4 l0_5 t127 t128 t129 t130) else (source_instruction.j0 k true a0_0 a0_1 a0_2 a0_3 a0_4 l0_5 t127 t128 t129 t130)) = some r := H
 have A2 := Aside0.mk A20
 clear A20
 have HC3 := Aside0.mk H
 clear H
 go_enter Tryd.func36, Tryd.ntmps36
 go_upto_region 2 with (first | ((with_reducible refine gate_dst (N := 1) rfl ?_); (try (refine gate_guard (by rfl) ?_; dsimp only)); refine box_event ?hg (N := 1) ?hd (cs := #[.int .u8 a0_0, .string a0_1, .int .i64 a0_2, .string a0_3, .int .u8 a0_4, .slice A0_5 l0_5.length c0_5]) (t := 43) ?hr ?_; (case hd => rfl); (case hg => rfl); (case hr => first | (go_simp; done) | (go_simp; rfl)); intro gb126 hg w4 hbox hb; have n0_ := Aside0.mk (below_step (by repeat (first | (with_reducible first | exact HB.out | apply below_alloc | apply pw_below_drewN | apply below_drew1) | exact HB.out)) hb); have n1_ := Aside0.mk (hbox); have n2_ := Aside0.mk ((by rw [hg]; exact (below_size (by repeat (first | (with_reducible first | exact HB.out | apply below_alloc | apply pw_below_drewN | apply below_drew1) | exact HB.out))) : w.heap.size ≤ gb126)); have n3_ := Aside0.mk ((by rw [hg]; exact (below_size (by repeat (first | (with_reducible first | exact HB.out | apply below_alloc | apply pw_below_drewN | apply below_drew1) | exact HB.out))) : w.heap.size ≤ gb126)); clear HB; have HB := n0_; have BK126 := n1_; have GW126 := n2_; have GE126 := n3_; clear n0_ n1_ n2_ n3_; clear hb hbox hg; have hcz5_0 : w4.cell? ⟨gb126, 0, none⟩ = some (.int .u8 a0_0) := (blk_cell BK126.out 0).trans rfl; have hcz5_1 : w4.cell? ⟨gb126, 1, none⟩ = some (.string a0_1) := (blk_cell BK126.out 1).trans rfl; have hcz5_2 : w4.cell? ⟨gb126, 2, none⟩ = some (.int .i64 a0_2) := (blk_cell BK126.out 2).trans rfl; have hcz5_3 : w4.cell? ⟨gb126, 3, none⟩ = some (.string a0_3) := (blk_cell BK126.out 3).trans rfl; have hcz5_4 : w4.cell? ⟨gb126, 4, none⟩ = some (.int .u8 a0_4) := (blk_cell BK126.out 4).trans rfl; have hcz5_5 : w4.cell? ⟨gb126, 5, none⟩ = some (.slice A0_5 l0_5.length c0_5) := (blk_cell BK126.out 5).trans rfl; have hfz5_0 := blk_frozen BK126.out 0; have hfz5_1 := blk_frozen BK126.out 1; have hfz5_2 := blk_frozen BK126.out 2; have hfz5_3 := blk_frozen BK126.out 3; have hfz5_4 := blk_frozen BK126.out 4; have hfz5_5 := blk_frozen BK126.out 5) | ((with_reducible refine gate_callee (f := 34) rfl ?_); refine goesL_ (some 10) rfl rfl Tryd.func34 (by kernel_rfl) rfl #[.string a0_1] rfl (by (try simp only [List.map_toArray, List.map_cons, List.map_nil]); first | done | rfl | (simp only [List.length_drop, List.length_take]; rfl)) ?_; (with_reducible refine (code_Find.calls k a0_1 t127 t128 t129 t130 t131 _ A2.out).mono ?_); rintro e w6 ⟨rfl, hb⟩; refine ⟨_, rfl, ?_⟩; have n0_ := Aside0.mk (blk_below (g := gb126) (o := .cells #[.int .u8 a0_0, .string a0_1, .int .i64 a0_2, .string a0_3, .int .u8 a0_4, .slice A0_5 l0_5.length c0_5] 43 (0, 0)) (by (with_reducible repeat (first | refine blk_drewN ?_ _ | refine blk_drew ?_ | refine blk_alloc ?_ _)); exact BK126.out) hb); have n1_ := Aside0.mk (below_step (by repeat (first | (with_reducible first | exact HB.out | apply below_alloc | apply pw_below_drewN | apply below_drew1 | refine below_set ?_ GE126.out) | exact HB.out)) hb); clear BK126; clear HB; have BK126 := n0_; have HB := n1_; clear n0_ n1_; (try clear hb); (try clear hb2); (try clear hk); (try clear hi)) | ((with_reducible refine gate_dst (N := 3) rfl ?_); (try (refine gate_guard (by rfl) ?_; dsimp only)); refine box_event ?hg (N := 3) ?hd (cs := #[.string (⟨#[]⟩ : ByteArray), .int .u8 0, .int .i64 0, .int .i64 0]) (t := 72) ?hr ?_; (case hd => rfl); (case hg => rfl); (case hr => first | (go_simp; done) | (go_simp; rfl)); intro gb132 hg w7 hbox hb; have n0_ := Aside0.mk (blk_below (g := gb126) (o := .cells #[.int .u8 a0_0, .string a0_1, .int .i64 a0_2, .string a0_3, .int .u8 a0_4, .slice A0_5 l0_5.length c0_5] 43 (0, 0)) (by (with_reducible repeat (first | refine blk_drewN ?_ _ | refine blk_drew ?_ | refine blk_alloc ?_ _)); exact BK126.out) hb); have n1_ := Aside0.mk (below_step (by repeat (first | (with_reducible first | exact HB.out | apply below_alloc | apply pw_below_drewN | apply below_drew1 | refine below_set ?_ GE126.out) | exact HB.out)) hb); have n2_ := Aside0.mk (hbox); have n3_ := Aside0.mk ((by rw [hg]; exact (below_size (by repeat (first | (with_reducible first | exact HB.out | apply below_alloc | apply pw_below_drewN | apply below_drew1 | refine below_set ?_ GE126.out) | exact HB.out))) : w.heap.size ≤ gb132)); have n4_ := Aside0.mk ((by rw [hg]; exact (below_size (by repeat (first | (with_reducible first | exact HB.out | apply below_alloc | apply pw_below_drewN | apply below_drew1 | refine below_set ?_ GE126.out) | exact HB.out))) : w.heap.size ≤ gb132)); have n5_ := Aside0.mk ((by rw [hg]; exact Nat.ne_of_lt (blk_lt (g := gb126) (o := .cells #[.int .u8 a0_0, .string a0_1, .int .i64 a0_2, .string a0_3, .int .u8 a0_4, .slice A0_5 l0_5.length c0_5] 43 (0, 0)) (by (with_reducible repeat (first | refine blk_drewN ?_ _ | refine blk_drew ?_ | refine blk_alloc ?_ _)); exact BK126.out)) : gb126 ≠ gb132)); have n6_ := Aside0.mk ((by rw [hg]; exact Nat.ne_of_gt (blk_lt (g := gb126) (o := .cells #[.int .u8 a0_0, .string a0_1, .int .i64 a0_2, .string a0_3, .int .u8 a0_4, .slice A0_5 l0_5.length c0_5] 43 (0, 0)) (by (with_reducible repeat (first | refine blk_drewN ?_ _ | refine blk_drew ?_ | refine blk_alloc ?_ _)); exact BK126.out)) : gb132 ≠ gb126)); clear BK126; clear HB; have BK126 := n0_; have HB := n1_; have BK132 := n2_; have GW132 := n3_; have GE132 := n4_; have NB126_132 := n5_; have NB132_126 := n6_; clear n0_ n1_ n2_ n3_ n4_ n5_ n6_; clear hb hbox hg; have hnb8 := NB132_126.out; have hnc8 := NB126_132.out; have hcz9_0 : w7.cell? ⟨gb132, 0, none⟩ = some (.string (⟨#[]⟩ : ByteArray)) := (blk_cell BK132.out 0).trans rfl; have hcz9_1 : w7.cell? ⟨gb132, 1, none⟩ = some (.int .u8 0) := (blk_cell BK132.out 1).trans rfl; have hcz9_2 : w7.cell? ⟨gb132, 2, none⟩ = some (.int .i64 0) := (blk_cell BK132.out 2).trans rfl; have hcz9_3 : w7.cell? ⟨gb132, 3, none⟩ = some (.int .i64 0) := (blk_cell BK132.out 3).trans rfl; have hfz9_0 := blk_frozen BK132.out 0; have hfz9_1 := blk_frozen BK132.out 1; have hfz9_2 := blk_frozen BK132.out 2; have hfz9_3 := blk_frozen BK132.out 3))
 (try simp only [Act.put, List.setIfInBounds_toArray, List.set_cons_zero, List.set_cons_succ])
 go_cut [20] (fun v20 wc => ∃ (kq : Nat) (x20_2 : Bool), v20 = .bool x20_2 ∧ Aside0 (source_instruction.j0 kq x20_2 a0_0 a0_1 a0_2 a0_3 a0_4 l0_5 t127 t128 t129 t130 = some r) ∧ Aside0 (kq ≤ k) ∧ Aside0 (wc.heap[gb126]? = some (.cells #[.int .u8 a0_0, .string a0_1, .int .i64 a0_2, .string a0_3, .int .u8 a0_4, (.slice A0_5 l0_5.length c0_5)] 43 (0, 0))) ∧ Aside0 (wc.heap[gb132]? = some (.cells #[.string t127, .int .u8 t128, .int .i64 t129, .int .i64 t130] 72 (0, 0))) ∧ Aside0 (Below w.heap.size w wc))
 case first =>
  have H := HC3.out
  clear HC3
  by_cases c10 : t131 = true
  ·subst c10
   have H1 : (source_instruction.j0 k (decide ((l0_5.length : Int) > 0)) a0_0 a0_1 a0_2 a0_3 a0_4 l0_5 t127 t128 t129 t130) = some r := by rw [if_pos rfl] at H; exact H
   clear H
   have H := H1
   clear H1
   have H' := Aside0.mk H
   clear H
   have hnb11 := NB126_132.out
   have hnc11 := NB132_126.out
   have hcz12_0 : w7.cell? ⟨gb126, 0, none⟩ = some (.int .u8 a0_0) := (blk_cell BK126.out 0).trans rfl
   have hcz12_1 : w7.cell? ⟨gb126, 1, none⟩ = some (.string a0_1) := (blk_cell BK126.out 1).trans rfl
   have hcz12_2 : w7.cell? ⟨gb126, 2, none⟩ = some (.int .i64 a0_2) := (blk_cell BK126.out 2).trans rfl
   have hcz12_3 : w7.cell? ⟨gb126, 3, none⟩ = some (.string a0_3) := (blk_cell BK126.out 3).trans rfl
   have hcz12_4 : w7.cell? ⟨gb126, 4, none⟩ = some (.int .u8 a0_4) := (blk_cell BK126.out 4).trans rfl
   have hcz12_5 : w7.cell? ⟨gb126, 5, none⟩ = some (.slice A0_5 l0_5.length c0_5) := (blk_cell BK126.out 5).trans rfl
   have hfz12_0 := blk_frozen BK126.out 0
   have hfz12_1 := blk_frozen BK126.out 1
   have hfz12_2 := blk_frozen BK126.out 2
   have hfz12_3 := blk_frozen BK126.out 3
   have hfz12_4 := blk_frozen BK126.out 4
   have hfz12_5 := blk_frozen BK126.out 5
   go_wp2
   go_meet
   case rel => exact ⟨_, (decide ((l0_5.length : Int) > 0)), (by first | rfl | (simp; done) | (simp [*]; done)), H', ⟨by first | omega | exact Nat.le_refl _⟩, ⟨by (with_reducible repeat (first | refine blk_drewN ?_ _ | refine blk_drew ?_ | refine blk_alloc ?_ _)); refine blk_far ?_ NB126_132.out _; (with_reducible repeat (first | refine blk_drewN ?_ _ | refine blk_drew ?_ | refine blk_alloc ?_ _)); refine blk_far ?_ NB126_132.out _; (with_reducible repeat (first | refine blk_drewN ?_ _ | refine blk_drew ?_ | refine blk_alloc ?_ _)); refine blk_far ?_ NB126_132.out _; (with_reducible repeat (first | refine blk_drewN ?_ _ | refine blk_drew ?_ | refine blk_alloc ?_ _)); refine blk_far ?_ NB126_132.out _; (with_reducible repeat (first | refine blk_drewN ?_ _ | refine blk_drew ?_ | refine blk_alloc ?_ _)); exact BK126.out⟩, ⟨by (with_reducible repeat (first | refine blk_drewN ?_ _ | refine blk_drew ?_ | refine blk_alloc ?_ _)); refine blk_put (cs := #[.string t127, .int .u8 t128, .int .i64 t129, .int .i64 0]) ?_ 3 _ rfl; (with_reducible repeat (first | refine blk_drewN ?_ _ | refine blk_drew ?_ | refine blk_alloc ?_ _)); refine blk_put (cs := #[.string t127, .int .u8 t128, .int .i64 0, .int .i64 0]) ?_ 2 _ rfl; (with_reducible repeat (first | refine blk_drewN ?_ _ | refine blk_drew ?_ | refine blk_alloc ?_ _)); refine blk_put (cs := #[.string t127, .int .u8 0, .int .i64 0, .int .i64 0]) ?_ 1 _ rfl; (with_reducible repeat (first | refine blk_drewN ?_ _ | refine blk_drew ?_ | refine blk_alloc ?_ _)); refine blk_put (cs := #[.string (⟨#[]⟩ : ByteArray), .int .u8 0, .int .i64 0, .int .i64 0]) ?_ 0 _ rfl; (with_reducible repeat (first | refine blk_drewN ?_ _ | refine blk_drew ?_ | refine blk_alloc ?_ _)); exact BK132.out⟩, ⟨by repeat (first | (with_reducible first | exact HB.out | apply below_alloc | apply pw_below_drewN | apply below_drew1 | refine below_set ?_ GE126.out | refine below_set ?_ GE132.out) | exact HB.out)⟩⟩
  ·replace c10 := Bool.eq_false_iff.mpr c10
   subst c10
   have H1 : (source_instruction.j0 k true a0_0 a0_1 a0_2 a0_3 a0_4 l0_5 t127 t128 t129 t130) = some r := by rw [if_neg (show ¬ (false = true) by decide)] at H; exact H
   clear H
   have H := H1
   clear H1
   have H' := Aside0.mk H
   clear H
   go_wp2
   go_meet
   case rel => exact ⟨_, (true), (by first | rfl | (simp; done) | (simp [*]; done)), H', ⟨by first | omega | exact Nat.le_refl _⟩, ⟨by (with_reducible repeat (first | refine blk_drewN ?_ _ | refine blk_drew ?_ | refine blk_alloc ?_ _)); refine blk_far ?_ NB126_132.out _; (with_reducible repeat (first | refine blk_drewN ?_ _ | refine blk_drew ?_ | refine blk_alloc ?_ _)); refine blk_far ?_ NB126_132.out _; (with_reducible repeat (first | refine blk_drewN ?_ _ | refine blk_drew ?_ | refine blk_alloc ?_ _)); refine blk_far ?_ NB126_132.out _; (with_reducible repeat (first | refine blk_drewN ?_ _ | refine blk_drew ?_ | refine blk_alloc ?_ _)); refine blk_far ?_ NB126_132.out _; (with_reducible repeat (first | refine blk_drewN ?_ _ | refine blk_drew ?_ | refine blk_alloc ?_ _)); exact BK126.out⟩, ⟨by (with_reducible repeat (first | refine blk_drewN ?_ _ | refine blk_drew ?_ | refine blk_alloc ?_ _)); refine blk_put (cs := #[.string t127, .int .u8 t128, .int .i64 t129, .int .i64 0]) ?_ 3 _ rfl; (with_reducible repeat (first | refine blk_drewN ?_ _ | refine blk_drew ?_ | refine blk_alloc ?_ _)); refine blk_put (cs := #[.string t127, .int .u8 t128, .int .i64 0, .int .i64 0]) ?_ 2 _ rfl; (with_reducible repeat (first | refine blk_drewN ?_ _ | refine blk_drew ?_ | refine blk_alloc ?_ _)); refine blk_put (cs := #[.string t127, .int .u8 0, .int .i64 0, .int .i64 0]) ?_ 1 _ rfl; (with_reducible repeat (first | refine blk_drewN ?_ _ | refine blk_drew ?_ | refine blk_alloc ?_ _)); refine blk_put (cs := #[.string (⟨#[]⟩ : ByteArray), .int .u8 0, .int .i64 0, .int .i64 0]) ?_ 0 _ rfl; (with_reducible repeat (first | refine blk_drewN ?_ _ | refine blk_drew ?_ | refine blk_alloc ?_ _)); exact BK132.out⟩, ⟨by repeat (first | (with_reducible first | exact HB.out | apply below_alloc | apply pw_below_drewN | apply below_drew1 | refine below_set ?_ GE126.out | refine below_set ?_ GE132.out) | exact HB.out)⟩⟩
 case rest =>
  clear HC3
  try clear c1
  try clear p2
  try clear c3
  try clear c8
  try clear c10
  try clear c11
  try clear hcz12_0
  try clear hcz12_1
  try clear hcz12_2
  try clear hcz12_3
  try clear hcz12_4
  try clear hcz12_5
  try clear hcz5_0
  try clear hcz5_1
  try clear hcz5_2
  try clear hcz5_3
  try clear hcz5_4
  try clear hcz5_5
  try clear hcz9_0
  try clear hcz9_1
  try clear hcz9_2
  try clear hcz9_3
  try clear hfz12_0
  try clear hfz12_1
  try clear hfz12_2
  try clear hfz12_3
  try clear hfz12_4
  try clear hfz12_5
  try clear hfz5_0
  try clear hfz5_1
  try clear hfz5_2
  try clear hfz5_3
  try clear hfz5_4
  try clear hfz5_5
  try clear hfz9_0
  try clear hfz9_1
  try clear hfz9_2
  try clear hfz9_3
  obtain ⟨kq, x20_2, rfl, HA, HJ2, BK126, BK132, HB⟩ := hcut
  cases kq with
  | zero => exact absurd HA.out (by simp [source_instruction.j0])
  | succ kj2 =>
   have H := HA.out
   clear HA
   simp only [source_instruction.j0] at H
   by_cases c13 : x20_2 = true
   ·subst c13
    have H1 : (some false) = some r := by rw [if_pos rfl] at H; exact H
    clear H
    have H := H1
    clear H1
    obtain rfl := Option.some.inj H
    go_wp2
    go_ret
    exact ⟨by first | rfl | (simp [errW_none, errW_some] <;> rfl) | (simp [*, errW_none, errW_some] <;> rfl), by repeat (first | (with_reducible first | exact HB.out | apply below_alloc | apply pw_below_drewN | apply below_drew1 | refine below_set ?_ GE126.out | refine below_set ?_ GE132.out) | exact HB.out)⟩
   ·replace c13 := Bool.eq_false_iff.mpr c13
    subst c13
    have H1 : (if a0_4 = 0 then ((code_Encode.f kj2 a0_1 a0_2).bind fun bt133 => (if bt133.2 = 0 then (some (a0_3.toList == ([] : List UInt8))) else (some false))) else (if a0_2 = 0 then ((source_name.f a0_3).bind fun t137 => (source_instruction.j1 kj2 (!t137) a0_0 a0_1 a0_2 a0_3 a0_4 l0_5 t127 t128 t129 t130)) else (source_instruction.j1 kj2 true a0_0 a0_1 a0_2 a0_3 a0_4 l0_5 t127 t128 t129 t130))) = some r := by rw [if_neg (show ¬ (false = true) by decide)] at H; exact H
    clear H
    have H := H1
    clear H1
    by_cases c14 : a0_4 = 0
    ·rw [if_pos c14] at H
     have c14b0 : (a0_4 == 0) = true := beq_iff_eq.mpr c14
     have c14b1 : (a0_4 != 0) = false := bne_eq_false_iff_eq.mpr c14
     clear c14
     replace H := Option.bind_eq_some_iff.mp H
     obtain ⟨⟨t133, t136⟩, A150, H⟩ := H
     replace H : (if t136 = 0 then (some (a0_3.toList == ([] : List UInt8))) else (some false)) = some r := H
     have A15 := Aside0.mk A150
     clear A150
     by_cases c16 : t136 = 0
     ·rw [if_pos c16] at H
      have c16b0 : (t136 == 0) = true := beq_iff_eq.mpr c16
      have c16b1 : (t136 != 0) = false := bne_eq_false_iff_eq.mpr c16
      clear c16
      obtain rfl := Option.some.inj H
      have hnb17 := NB126_132.out
      have hnc17 := NB132_126.out
      have hcz18_0 : wc.cell? ⟨gb126, 0, none⟩ = some (.int .u8 a0_0) := (blk_cell BK126.out 0).trans rfl
      have hcz18_1 : wc.cell? ⟨gb126, 1, none⟩ = some (.string a0_1) := (blk_cell BK126.out 1).trans rfl
      have hcz18_2 : wc.cell? ⟨gb126, 2, none⟩ = some (.int .i64 a0_2) := (blk_cell BK126.out 2).trans rfl
      have hcz18_3 : wc.cell? ⟨gb126, 3, none⟩ = some (.string a0_3) := (blk_cell BK126.out 3).trans rfl
      have hcz18_4 : wc.cell? ⟨gb126, 4, none⟩ = some (.int .u8 a0_4) := (blk_cell BK126.out 4).trans rfl
      have hcz18_5 : wc.cell? ⟨gb126, 5, none⟩ = some (.slice A0_5 l0_5.length c0_5) := (blk_cell BK126.out 5).trans rfl
      have hfz18_0 := blk_frozen BK126.out 0
      have hfz18_1 := blk_frozen BK126.out 1
      have hfz18_2 := blk_frozen BK126.out 2
      have hfz18_3 := blk_frozen BK126.out 3
      have hfz18_4 := blk_frozen BK126.out 4
      have hfz18_5 := blk_frozen BK126.out 5
      go_wp2_with (first | ((with_reducible refine gate_callee (f := 56) rfl ?_); refine goesL_ (some 30) rfl rfl Tryd.func56 (by kernel_rfl) rfl #[.agg #[.string a0_1, .int .i64 a0_2]] rfl (by (try simp only [List.map_toArray, List.map_cons, List.map_nil]); first | done | rfl | (simp only [List.length_drop, List.length_take]; rfl)) ?_; (with_reducible refine (code_Encode.calls kj2 a0_1 a0_2 t133 t136 _ A15.out).mono ?_); rintro e w19 ⟨v134, rfl, ho0, hb⟩; refine ⟨_, rfl, ?_⟩; have n0_ := Aside0.mk (Kd.R_lower ho0 (below_size (by repeat (first | (with_reducible first | exact HB.out | apply below_alloc | apply pw_below_drewN | apply below_drew1 | refine below_set ?_ GE126.out | refine below_set ?_ GE132.out) | exact HB.out)))); have n1_ := Aside0.mk (blk_below (g := gb126) (o := .cells #[.int .u8 a0_0, .string a0_1, .int .i64 a0_2, .string a0_3, .int .u8 a0_4, .slice A0_5 l0_5.length c0_5] 43 (0, 0)) (by (with_reducible repeat (first | refine blk_drewN ?_ _ | refine blk_drew ?_ | refine blk_alloc ?_ _)); exact BK126.out) hb); have n2_ := Aside0.mk (blk_below (g := gb132) (o := .cells #[.string t127, .int .u8 t128, .int .i64 t129, .int .i64 t130] 72 (0, 0)) (by (with_reducible repeat (first | refine blk_drewN ?_ _ | refine blk_drew ?_ | refine blk_alloc ?_ _)); exact BK132.out) hb); have n3_ := Aside0.mk (below_step (by repeat (first | (with_reducible first | exact HB.out | apply below_alloc | apply pw_below_drewN | apply below_drew1 | refine below_set ?_ GE126.out | refine below_set ?_ GE132.out) | exact HB.out)) hb); clear BK126; clear BK132; clear HB; have HO135 := n0_; have BK126 := n1_; have BK132 := n2_; have HB := n3_; clear n0_ n1_ n2_ n3_; (try clear hb); (try clear hb2); (try clear hk); (try clear hi); (try clear ho0); have hcz20_0 : w19.cell? ⟨gb126, 0, none⟩ = some (.int .u8 a0_0) := (blk_cell BK126.out 0).trans rfl; have hcz20_1 : w19.cell? ⟨gb126, 1, none⟩ = some (.string a0_1) := (blk_cell BK126.out 1).trans rfl; have hcz20_2 : w19.cell? ⟨gb126, 2, none⟩ = some (.int .i64 a0_2) := (blk_cell BK126.out 2).trans rfl; have hcz20_3 : w19.cell? ⟨gb126, 3, none⟩ = some (.string a0_3) := (blk_cell BK126.out 3).trans rfl; have hcz20_4 : w19.cell? ⟨gb126, 4, none⟩ = some (.int .u8 a0_4) := (blk_cell BK126.out 4).trans rfl; have hcz20_5 : w19.cell? ⟨gb126, 5, none⟩ = some (.slice A0_5 l0_5.length c0_5) := (blk_cell BK126.out 5).trans rfl; have hfz20_0 := blk_frozen BK126.out 0; have hfz20_1 := blk_frozen BK126.out 1; have hfz20_2 := blk_frozen BK126.out 2; have hfz20_3 := blk_frozen BK126.out 3; have hfz20_4 := blk_frozen BK126.out 4; have hfz20_5 := blk_frozen BK126.out 5))
      go_ret
      exact ⟨by first | rfl | (simp [errW_none, errW_some] <;> rfl) | (simp [*, errW_none, errW_some] <;> rfl), by repeat (first | (with_reducible first | exact HB.out | apply below_alloc | apply pw_below_drewN | apply below_drew1 | refine below_set ?_ GE126.out | refine below_set ?_ GE132.out) | exact HB.out)⟩
     ·rw [if_neg c16] at H
      have c16b0 : (t136 == 0) = false := beq_eq_false_iff_ne.mpr c16
      have c16b1 : (t136 != 0) = true := bne_iff_ne.mpr c16
      obtain rfl := Option.some.inj H
      have hnb21 := NB126_132.out
      have hnc21 := NB132_126.out
      have hcz22_0 : wc.cell? ⟨gb126, 0, none⟩ = some (.int .u8 a0_0) := (blk_cell BK126.out 0).trans rfl
      have hcz22_1 : wc.cell? ⟨gb126, 1, none⟩ = some (.string a0_1) := (blk_cell BK126.out 1).trans rfl
      have hcz22_2 : wc.cell? ⟨gb126, 2, none⟩ = some (.int .i64 a0_2) := (blk_cell BK126.out 2).trans rfl
      have hcz22_3 : wc.cell? ⟨gb126, 3, none⟩ = some (.string a0_3) := (blk_cell BK126.out 3).trans rfl
      have hcz22_4 : wc.cell? ⟨gb126, 4, none⟩ = some (.int .u8 a0_4) := (blk_cell BK126.out 4).trans rfl
      have hcz22_5 : wc.cell? ⟨gb126, 5, none⟩ = some (.slice A0_5 l0_5.length c0_5) := (blk_cell BK126.out 5).trans rfl
      have hfz22_0 := blk_frozen BK126.out 0
      have hfz22_1 := blk_frozen BK126.out 1
      have hfz22_2 := blk_frozen BK126.out 2
      have hfz22_3 := blk_frozen BK126.out 3
      have hfz22_4 := blk_frozen BK126.out 4
      have hfz22_5 := blk_frozen BK126.out 5
      go_wp2_with (first | ((with_reducible refine gate_callee (f := 56) rfl ?_); refine goesL_ (some 30) rfl rfl Tryd.func56 (by kernel_rfl) rfl #[.agg #[.string a0_1, .int .i64 a0_2]] rfl (by (try simp only [List.map_toArray, List.map_cons, List.map_nil]); first | done | rfl | (simp only [List.length_drop, List.length_take]; rfl)) ?_; (with_reducible refine (code_Encode.calls kj2 a0_1 a0_2 t133 t136 _ A15.out).mono ?_); rintro e w23 ⟨v134, rfl, ho0, hb⟩; refine ⟨_, rfl, ?_⟩; have n0_ := Aside0.mk (Kd.R_lower ho0 (below_size (by repeat (first | (with_reducible first | exact HB.out | apply below_alloc | apply pw_below_drewN | apply below_drew1 | refine below_set ?_ GE126.out | refine below_set ?_ GE132.out) | exact HB.out)))); have n1_ := Aside0.mk (blk_below (g := gb126) (o := .cells #[.int .u8 a0_0, .string a0_1, .int .i64 a0_2, .string a0_3, .int .u8 a0_4, .slice A0_5 l0_5.length c0_5] 43 (0, 0)) (by (with_reducible repeat (first | refine blk_drewN ?_ _ | refine blk_drew ?_ | refine blk_alloc ?_ _)); exact BK126.out) hb); have n2_ := Aside0.mk (blk_below (g := gb132) (o := .cells #[.string t127, .int .u8 t128, .int .i64 t129, .int .i64 t130] 72 (0, 0)) (by (with_reducible repeat (first | refine blk_drewN ?_ _ | refine blk_drew ?_ | refine blk_alloc ?_ _)); exact BK132.out) hb); have n3_ := Aside0.mk (below_step (by repeat (first | (with_reducible first | exact HB.out | apply below_alloc | apply pw_below_drewN | apply below_drew1 | refine below_set ?_ GE126.out | refine below_set ?_ GE132.out) | exact HB.out)) hb); clear BK126; clear BK132; clear HB; have HO135 := n0_; have BK126 := n1_; have BK132 := n2_; have HB := n3_; clear n0_ n1_ n2_ n3_; (try clear hb); (try clear hb2); (try clear hk); (try clear hi); (try clear ho0)))
      go_ret
      exact ⟨by first | rfl | (simp [errW_none, errW_some] <;> rfl) | (simp [*, errW_none, errW_some] <;> rfl), by repeat (first | (with_reducible first | exact HB.out | apply below_alloc | apply pw_below_drewN | apply below_drew1 | refine below_set ?_ GE126.out | refine below_set ?_ GE132.out) | exact HB.out)⟩
    ·rw [if_neg c14] at H
     have c14b0 : (a0_4 == 0) = false := beq_eq_false_iff_ne.mpr c14
     have c14b1 : (a0_4 != 0) = true := bne_iff_ne.mpr c14
     have HC24 := Aside0.mk H
     clear H
     have hnb25 := NB126_132.out
     have hnc25 := NB132_126.out
     have hcz26_0 : wc.cell? ⟨gb126, 0, none⟩ = some (.int .u8 a0_0) := (blk_cell BK126.out 0).trans rfl
     have hcz26_1 : wc.cell? ⟨gb126, 1, none⟩ = some (.string a0_1) := (blk_cell BK126.out 1).trans rfl
     have hcz26_2 : wc.cell? ⟨gb126, 2, none⟩ = some (.int .i64 a0_2) := (blk_cell BK126.out 2).trans rfl
     have hcz26_3 : wc.cell? ⟨gb126, 3, none⟩ = some (.string a0_3) := (blk_cell BK126.out 3).trans rfl
     have hcz26_4 : wc.cell? ⟨gb126, 4, none⟩ = some (.int .u8 a0_4) := (blk_cell BK126.out 4).trans rfl
     have hcz26_5 : wc.cell? ⟨gb126, 5, none⟩ = some (.slice A0_5 l0_5.length c0_5) := (blk_cell BK126.out 5).trans rfl
     have hfz26_0 := blk_frozen BK126.out 0
     have hfz26_1 := blk_frozen BK126.out 1
     have hfz26_2 := blk_frozen BK126.out 2
     have hfz26_3 := blk_frozen BK126.out 3
     have hfz26_4 := blk_frozen BK126.out 4
     have hfz26_5 := blk_frozen BK126.out 5
     go_upto_region 7 with (fail)
     go_cut [48] (fun v48 wc => ∃ (kq : Nat) (x48_23 : Bool), v48 = .bool x48_23 ∧ Aside0 (source_instruction.j1 kq x48_23 a0_0 a0_1 a0_2 a0_3 a0_4 l0_5 t127 t128 t129 t130 = some r) ∧ Aside0 (kq ≤ kj2) ∧ Aside0 (wc.heap[gb126]? = some (.cells #[.int .u8 a0_0, .string a0_1, .int .i64 a0_2, .string a0_3, .int .u8 a0_4, (.slice A0_5 l0_5.length c0_5)] 43 (0, 0))) ∧ Aside0 (wc.heap[gb132]? = some (.cells #[.string t127, .int .u8 t128, .int .i64 t129, .int .i64 t130] 72 (0, 0))) ∧ Aside0 (Below w.heap.size w wc))
     case first =>
      have H := HC24.out
      clear HC24
      by_cases c27 : a0_2 = 0
      ·rw [if_pos c27] at H
       have c27b0 : (a0_2 == 0) = true := beq_iff_eq.mpr c27
       have c27b1 : (a0_2 != 0) = false := bne_eq_false_iff_eq.mpr c27
       clear c27
       (first | rw [c27b0] | (simp only [i64_w, i32_w]; rw [c27b0]) | skip)
       replace H := Option.bind_eq_some_iff.mp H
       obtain ⟨t137, A280, H⟩ := H
       replace H : (source_instruction.j1 kj2 (!t137) a0_0 a0_1 a0_2 a0_3 a0_4 l0_5 t127 t128 t129 t130) = some r := H
       have A28 := Aside0.mk A280
       clear A280
       have H' := Aside0.mk H
       clear H
       have hnb29 := NB126_132.out
       have hnc29 := NB132_126.out
       have hcz30_0 : wc.cell? ⟨gb126, 0, none⟩ = some (.int .u8 a0_0) := (blk_cell BK126.out 0).trans rfl
       have hcz30_1 : wc.cell? ⟨gb126, 1, none⟩ = some (.string a0_1) := (blk_cell BK126.out 1).trans rfl
       have hcz30_2 : wc.cell? ⟨gb126, 2, none⟩ = some (.int .i64 a0_2) := (blk_cell BK126.out 2).trans rfl
       have hcz30_3 : wc.cell? ⟨gb126, 3, none⟩ = some (.string a0_3) := (blk_cell BK126.out 3).trans rfl
       have hcz30_4 : wc.cell? ⟨gb126, 4, none⟩ = some (.int .u8 a0_4) := (blk_cell BK126.out 4).trans rfl
       have hcz30_5 : wc.cell? ⟨gb126, 5, none⟩ = some (.slice A0_5 l0_5.length c0_5) := (blk_cell BK126.out 5).trans rfl
       have hfz30_0 := blk_frozen BK126.out 0
       have hfz30_1 := blk_frozen BK126.out 1
       have hfz30_2 := blk_frozen BK126.out 2
       have hfz30_3 := blk_frozen BK126.out 3
       have hfz30_4 := blk_frozen BK126.out 4
       have hfz30_5 := blk_frozen BK126.out 5
       go_wp2_with (first | (go_at_call 37; (with_reducible refine (source_name.calls a0_3 t137 _ A28.out).mono ?_); rintro e w31 ⟨rfl, hb⟩; have n0_ := Aside0.mk (blk_below (g := gb126) (o := .cells #[.int .u8 a0_0, .string a0_1, .int .i64 a0_2, .string a0_3, .int .u8 a0_4, .slice A0_5 l0_5.length c0_5] 43 (0, 0)) (by (with_reducible repeat (first | refine blk_drewN ?_ _ | refine blk_drew ?_ | refine blk_alloc ?_ _)); exact BK126.out) hb); have n1_ := Aside0.mk (blk_below (g := gb132) (o := .cells #[.string t127, .int .u8 t128, .int .i64 t129, .int .i64 t130] 72 (0, 0)) (by (with_reducible repeat (first | refine blk_drewN ?_ _ | refine blk_drew ?_ | refine blk_alloc ?_ _)); exact BK132.out) hb); have n2_ := Aside0.mk (below_step (by repeat (first | (with_reducible first | exact HB.out | apply below_alloc | apply pw_below_drewN | apply below_drew1 | refine below_set ?_ GE126.out | refine below_set ?_ GE132.out) | exact HB.out)) hb); clear BK126; clear BK132; clear HB; have BK126 := n0_; have BK132 := n1_; have HB := n2_; clear n0_ n1_ n2_; (try clear hb); (try clear hb2); (try clear hk); (try clear hi)))
       go_meet
       case rel => exact ⟨_, (!t137), (by first | rfl | (simp; done) | (simp [*]; done)), H', ⟨by have := HJ2.out; first | omega | exact Nat.le_refl _⟩, ⟨by (with_reducible repeat (first | refine blk_drewN ?_ _ | refine blk_drew ?_ | refine blk_alloc ?_ _)); exact BK126.out⟩, ⟨by (with_reducible repeat (first | refine blk_drewN ?_ _ | refine blk_drew ?_ | refine blk_alloc ?_ _)); exact BK132.out⟩, ⟨by repeat (first | (with_reducible first | exact HB.out | apply below_alloc | apply pw_below_drewN | apply below_drew1 | refine below_set ?_ GE126.out | refine below_set ?_ GE132.out) | exact HB.out)⟩⟩
      ·rw [if_neg c27] at H
       have c27b0 : (a0_2 == 0) = false := beq_eq_false_iff_ne.mpr c27
       have c27b1 : (a0_2 != 0) = true := bne_iff_ne.mpr c27
       (first | rw [c27b0] | (simp only [i64_w, i32_w]; rw [c27b0]) | skip)
       have H' := Aside0.mk H
       clear H
       have hnb32 := NB126_132.out
       have hnc32 := NB132_126.out
       have hcz33_0 : wc.cell? ⟨gb126, 0, none⟩ = some (.int .u8 a0_0) := (blk_cell BK126.out 0).trans rfl
       have hcz33_1 : wc.cell? ⟨gb126, 1, none⟩ = some (.string a0_1) := (blk_cell BK126.out 1).trans rfl
       have hcz33_2 : wc.cell? ⟨gb126, 2, none⟩ = some (.int .i64 a0_2) := (blk_cell BK126.out 2).trans rfl
       have hcz33_3 : wc.cell? ⟨gb126, 3, none⟩ = some (.string a0_3) := (blk_cell BK126.out 3).trans rfl
       have hcz33_4 : wc.cell? ⟨gb126, 4, none⟩ = some (.int .u8 a0_4) := (blk_cell BK126.out 4).trans rfl
       have hcz33_5 : wc.cell? ⟨gb126, 5, none⟩ = some (.slice A0_5 l0_5.length c0_5) := (blk_cell BK126.out 5).trans rfl
       have hfz33_0 := blk_frozen BK126.out 0
       have hfz33_1 := blk_frozen BK126.out 1
       have hfz33_2 := blk_frozen BK126.out 2
       have hfz33_3 := blk_frozen BK126.out 3
       have hfz33_4 := blk_frozen BK126.out 4
       have hfz33_5 := blk_frozen BK126.out 5
       go_wp2
       go_meet
       case rel => exact ⟨_, (true), (by first | rfl | (simp; done) | (simp [*]; done)), H', ⟨by have := HJ2.out; first | omega | exact Nat.le_refl _⟩, ⟨by (with_reducible repeat (first | refine blk_drewN ?_ _ | refine blk_drew ?_ | refine blk_alloc ?_ _)); exact BK126.out⟩, ⟨by (with_reducible repeat (first | refine blk_drewN ?_ _ | refine blk_drew ?_ | refine blk_alloc ?_ _)); exact BK132.out⟩, ⟨by repeat (first | (with_reducible first | exact HB.out | apply below_alloc | apply pw_below_drewN | apply below_drew1 | refine below_set ?_ GE126.out | refine below_set ?_ GE132.out) | exact HB.out)⟩⟩
     case rest =>
      clear HC24
      try clear c1
      try clear c2
      try clear p2
      try clear c3
      try clear c5
      try clear c8
      try clear c10
      try clear c11
      try clear c13
      try clear c14
      try clear c14b0
      try clear c14b1
      try clear c16
      try clear c16b0
      try clear c16b1
      try clear c17
      try clear c21
      try clear c25
      try clear c27
      try clear c27b0
      try clear c27b1
      try clear c29
      try clear c32
      try clear hcz12_0
      try clear hcz12_1
      try clear hcz12_2
      try clear hcz12_3
      try clear hcz12_4
      try clear hcz12_5
      try clear hcz18_0
      try clear hcz18_1
      try clear hcz18_2
      try clear hcz18_3
      try clear hcz18_4
      try clear hcz18_5
      try clear hcz20_0
      try clear hcz20_1
      try clear hcz20_2
      try clear hcz20_3
      try clear hcz20_4
      try clear hcz20_5
      try clear hcz22_0
      try clear hcz22_1
      try clear hcz22_2
      try clear hcz22_3
      try clear hcz22_4
      try clear hcz22_5
      try clear hcz26_0
      try clear hcz26_1
      try clear hcz26_2
      try clear hcz26_3
      try clear hcz26_4
      try clear hcz26_5
      try clear hcz30_0
      try clear hcz30_1
      try clear hcz30_2
      try clear hcz30_3
      try clear hcz30_4
      try clear hcz30_5
      try clear hcz33_0
      try clear hcz33_1
      try clear hcz33_2
      try clear hcz33_3
      try clear hcz33_4
      try clear hcz33_5
      try clear hcz5_0
      try clear hcz5_1
      try clear hcz5_2
      try clear hcz5_3
      try clear hcz5_4
      try clear hcz5_5
      try clear hcz9_0
      try clear hcz9_1
      try clear hcz9_2
      try clear hcz9_3
      try clear hfz12_0
      try clear hfz12_1
      try clear hfz12_2
      try clear hfz12_3
      try clear hfz12_4
      try clear hfz12_5
      try clear hfz18_0
      try clear hfz18_1
      try clear hfz18_2
      try clear hfz18_3
      try clear hfz18_4
      try clear hfz18_5
      try clear hfz20_0
      try clear hfz20_1
      try clear hfz20_2
      try clear hfz20_3
      try clear hfz20_4
      try clear hfz20_5
      try clear hfz22_0
      try clear hfz22_1
      try clear hfz22_2
      try clear hfz22_3
      try clear hfz22_4
      try clear hfz22_5
      try clear hfz26_0
      try clear hfz26_1
      try clear hfz26_2
      try clear hfz26_3
      try clear hfz26_4
      try clear hfz26_5
      try clear hfz30_0
      try clear hfz30_1
      try clear hfz30_2
      try clear hfz30_3
      try clear hfz30_4
      try clear hfz30_5
      try clear hfz33_0
      try clear hfz33_1
      try clear hfz33_2
      try clear hfz33_3
      try clear hfz33_4
      try clear hfz33_5
      try clear hfz5_0
      try clear hfz5_1
      try clear hfz5_2
      try clear hfz5_3
      try clear hfz5_4
      try clear hfz5_5
      try clear hfz9_0
      try clear hfz9_1
      try clear hfz9_2
      try clear hfz9_3
      try clear p2
      obtain ⟨kq, x48_23, rfl, HA, HJ23, BK126, BK132, HB⟩ := hcut
      cases kq with
      | zero => exact absurd HA.out (by simp [source_instruction.j1])
      | succ kj23 =>
       have H := HA.out
       clear HA
       simp only [source_instruction.j1] at H
       by_cases c34 : x48_23 = true
       ·subst c34
        have H1 : (some false) = some r := by rw [if_pos rfl] at H; exact H
        clear H
        have H := H1
        clear H1
        obtain rfl := Option.some.inj H
        go_wp2
        go_ret
        exact ⟨by first | rfl | (simp [errW_none, errW_some] <;> rfl) | (simp [*, errW_none, errW_some] <;> rfl), by repeat (first | (with_reducible first | exact HB.out | apply below_alloc | apply pw_below_drewN | apply below_drew1 | refine below_set ?_ GE126.out | refine below_set ?_ GE132.out) | exact HB.out)⟩
       ·replace c34 := Bool.eq_false_iff.mpr c34
        subst c34
        have H1 : (if t128 = 4 then (if a0_4 = 2 then (some true) else (some (a0_4 == 3))) else (if t128 = 5 then (some (a0_4 == 1)) else (if t128 = 6 then (some (a0_4 == 1)) else (some false)))) = some r := by rw [if_neg (show ¬ (false = true) by decide)] at H; exact H
        clear H
        have H := H1
        clear H1
        by_cases c35 : t128 = 4
        ·rw [if_pos c35] at H
         have c35b0 : (t128 == 4) = true := beq_iff_eq.mpr c35
         have c35b1 : (t128 != 4) = false := bne_eq_false_iff_eq.mpr c35
         clear c35
         by_cases c36 : a0_4 = 2
         ·rw [if_pos c36] at H
          have c36b0 : (a0_4 == 2) = true := beq_iff_eq.mpr c36
          have c36b1 : (a0_4 != 2) = false := bne_eq_false_iff_eq.mpr c36
          clear c36
          obtain rfl := Option.some.inj H
          have hnb37 := NB132_126.out
          have hnc37 := NB126_132.out
          have hcz38_0 : wc.cell? ⟨gb132, 0, none⟩ = some (.string t127) := (blk_cell BK132.out 0).trans rfl
          have hcz38_1 : wc.cell? ⟨gb132, 1, none⟩ = some (.int .u8 t128) := (blk_cell BK132.out 1).trans rfl
          have hcz38_2 : wc.cell? ⟨gb132, 2, none⟩ = some (.int .i64 t129) := (blk_cell BK132.out 2).trans rfl
          have hcz38_3 : wc.cell? ⟨gb132, 3, none⟩ = some (.int .i64 t130) := (blk_cell BK132.out 3).trans rfl
          have hfz38_0 := blk_frozen BK132.out 0
          have hfz38_1 := blk_frozen BK132.out 1
          have hfz38_2 := blk_frozen BK132.out 2
          have hfz38_3 := blk_frozen BK132.out 3
          have hcz39_0 : wc.cell? ⟨gb126, 0, none⟩ = some (.int .u8 a0_0) := (blk_cell BK126.out 0).trans rfl
          have hcz39_1 : wc.cell? ⟨gb126, 1, none⟩ = some (.string a0_1) := (blk_cell BK126.out 1).trans rfl
          have hcz39_2 : wc.cell? ⟨gb126, 2, none⟩ = some (.int .i64 a0_2) := (blk_cell BK126.out 2).trans rfl
          have hcz39_3 : wc.cell? ⟨gb126, 3, none⟩ = some (.string a0_3) := (blk_cell BK126.out 3).trans rfl
          have hcz39_4 : wc.cell? ⟨gb126, 4, none⟩ = some (.int .u8 a0_4) := (blk_cell BK126.out 4).trans rfl
          have hcz39_5 : wc.cell? ⟨gb126, 5, none⟩ = some (.slice A0_5 l0_5.length c0_5) := (blk_cell BK126.out 5).trans rfl
          have hfz39_0 := blk_frozen BK126.out 0
          have hfz39_1 := blk_frozen BK126.out 1
          have hfz39_2 := blk_frozen BK126.out 2
          have hfz39_3 := blk_frozen BK126.out 3
          have hfz39_4 := blk_frozen BK126.out 4
          have hfz39_5 := blk_frozen BK126.out 5
          go_wp2
          go_ret
          exact ⟨by first | rfl | (simp [errW_none, errW_some] <;> rfl) | (simp [*, errW_none, errW_some] <;> rfl), by repeat (first | (with_reducible first | exact HB.out | apply below_alloc | apply pw_below_drewN | apply below_drew1 | refine below_set ?_ GE126.out | refine below_set ?_ GE132.out) | exact HB.out)⟩
         ·rw [if_neg c36] at H
          have c36b0 : (a0_4 == 2) = false := beq_eq_false_iff_ne.mpr c36
          have c36b1 : (a0_4 != 2) = true := bne_iff_ne.mpr c36
          obtain rfl := Option.some.inj H
          have hnb40 := NB132_126.out
          have hnc40 := NB126_132.out
          have hcz41_0 : wc.cell? ⟨gb132, 0, none⟩ = some (.string t127) := (blk_cell BK132.out 0).trans rfl
          have hcz41_1 : wc.cell? ⟨gb132, 1, none⟩ = some (.int .u8 t128) := (blk_cell BK132.out 1).trans rfl
          have hcz41_2 : wc.cell? ⟨gb132, 2, none⟩ = some (.int .i64 t129) := (blk_cell BK132.out 2).trans rfl
          have hcz41_3 : wc.cell? ⟨gb132, 3, none⟩ = some (.int .i64 t130) := (blk_cell BK132.out 3).trans rfl
          have hfz41_0 := blk_frozen BK132.out 0
          have hfz41_1 := blk_frozen BK132.out 1
          have hfz41_2 := blk_frozen BK132.out 2
          have hfz41_3 := blk_frozen BK132.out 3
          have hcz42_0 : wc.cell? ⟨gb126, 0, none⟩ = some (.int .u8 a0_0) := (blk_cell BK126.out 0).trans rfl
          have hcz42_1 : wc.cell? ⟨gb126, 1, none⟩ = some (.string a0_1) := (blk_cell BK126.out 1).trans rfl
          have hcz42_2 : wc.cell? ⟨gb126, 2, none⟩ = some (.int .i64 a0_2) := (blk_cell BK126.out 2).trans rfl
          have hcz42_3 : wc.cell? ⟨gb126, 3, none⟩ = some (.string a0_3) := (blk_cell BK126.out 3).trans rfl
          have hcz42_4 : wc.cell? ⟨gb126, 4, none⟩ = some (.int .u8 a0_4) := (blk_cell BK126.out 4).trans rfl
          have hcz42_5 : wc.cell? ⟨gb126, 5, none⟩ = some (.slice A0_5 l0_5.length c0_5) := (blk_cell BK126.out 5).trans rfl
          have hfz42_0 := blk_frozen BK126.out 0
          have hfz42_1 := blk_frozen BK126.out 1
          have hfz42_2 := blk_frozen BK126.out 2
          have hfz42_3 := blk_frozen BK126.out 3
          have hfz42_4 := blk_frozen BK126.out 4
          have hfz42_5 := blk_frozen BK126.out 5
          go_wp2
          go_ret
          exact ⟨by first | rfl | (simp [errW_none, errW_some] <;> rfl) | (simp [*, errW_none, errW_some] <;> rfl), by repeat (first | (with_reducible first | exact HB.out | apply below_alloc | apply pw_below_drewN | apply below_drew1 | refine below_set ?_ GE126.out | refine below_set ?_ GE132.out) | exact HB.out)⟩
        ·rw [if_neg c35] at H
         have c35b0 : (t128 == 4) = false := beq_eq_false_iff_ne.mpr c35
         have c35b1 : (t128 != 4) = true := bne_iff_ne.mpr c35
         by_cases c43 : t128 = 5
         ·rw [if_pos c43] at H
          have c43b0 : (t128 == 5) = true := beq_iff_eq.mpr c43
          have c43b1 : (t128 != 5) = false := bne_eq_false_iff_eq.mpr c43
          clear c43
          obtain rfl := Option.some.inj H
          have hnb44 := NB132_126.out
          have hnc44 := NB126_132.out
          have hcz45_0 : wc.cell? ⟨gb132, 0, none⟩ = some (.string t127) := (blk_cell BK132.out 0).trans rfl
          have hcz45_1 : wc.cell? ⟨gb132, 1, none⟩ = some (.int .u8 t128) := (blk_cell BK132.out 1).trans rfl
          have hcz45_2 : wc.cell? ⟨gb132, 2, none⟩ = some (.int .i64 t129) := (blk_cell BK132.out 2).trans rfl
          have hcz45_3 : wc.cell? ⟨gb132, 3, none⟩ = some (.int .i64 t130) := (blk_cell BK132.out 3).trans rfl
          have hfz45_0 := blk_frozen BK132.out 0
          have hfz45_1 := blk_frozen BK132.out 1
          have hfz45_2 := blk_frozen BK132.out 2
          have hfz45_3 := blk_frozen BK132.out 3
          have hcz46_0 : wc.cell? ⟨gb126, 0, none⟩ = some (.int .u8 a0_0) := (blk_cell BK126.out 0).trans rfl
          have hcz46_1 : wc.cell? ⟨gb126, 1, none⟩ = some (.string a0_1) := (blk_cell BK126.out 1).trans rfl
          have hcz46_2 : wc.cell? ⟨gb126, 2, none⟩ = some (.int .i64 a0_2) := (blk_cell BK126.out 2).trans rfl
          have hcz46_3 : wc.cell? ⟨gb126, 3, none⟩ = some (.string a0_3) := (blk_cell BK126.out 3).trans rfl
          have hcz46_4 : wc.cell? ⟨gb126, 4, none⟩ = some (.int .u8 a0_4) := (blk_cell BK126.out 4).trans rfl
          have hcz46_5 : wc.cell? ⟨gb126, 5, none⟩ = some (.slice A0_5 l0_5.length c0_5) := (blk_cell BK126.out 5).trans rfl
          have hfz46_0 := blk_frozen BK126.out 0
          have hfz46_1 := blk_frozen BK126.out 1
          have hfz46_2 := blk_frozen BK126.out 2
          have hfz46_3 := blk_frozen BK126.out 3
          have hfz46_4 := blk_frozen BK126.out 4
          have hfz46_5 := blk_frozen BK126.out 5
          go_wp2
          go_ret
          exact ⟨by first | rfl | (simp [errW_none, errW_some] <;> rfl) | (simp [*, errW_none, errW_some] <;> rfl), by repeat (first | (with_reducible first | exact HB.out | apply below_alloc | apply pw_below_drewN | apply below_drew1 | refine below_set ?_ GE126.out | refine below_set ?_ GE132.out) | exact HB.out)⟩
         ·rw [if_neg c43] at H
          have c43b0 : (t128 == 5) = false := beq_eq_false_iff_ne.mpr c43
          have c43b1 : (t128 != 5) = true := bne_iff_ne.mpr c43
          by_cases c47 : t128 = 6
          ·rw [if_pos c47] at H
           have c47b0 : (t128 == 6) = true := beq_iff_eq.mpr c47
           have c47b1 : (t128 != 6) = false := bne_eq_false_iff_eq.mpr c47
           clear c47
           obtain rfl := Option.some.inj H
           have hnb48 := NB132_126.out
           have hnc48 := NB126_132.out
           have hcz49_0 : wc.cell? ⟨gb132, 0, none⟩ = some (.string t127) := (blk_cell BK132.out 0).trans rfl
           have hcz49_1 : wc.cell? ⟨gb132, 1, none⟩ = some (.int .u8 t128) := (blk_cell BK132.out 1).trans rfl
           have hcz49_2 : wc.cell? ⟨gb132, 2, none⟩ = some (.int .i64 t129) := (blk_cell BK132.out 2).trans rfl
           have hcz49_3 : wc.cell? ⟨gb132, 3, none⟩ = some (.int .i64 t130) := (blk_cell BK132.out 3).trans rfl
           have hfz49_0 := blk_frozen BK132.out 0
           have hfz49_1 := blk_frozen BK132.out 1
           have hfz49_2 := blk_frozen BK132.out 2
           have hfz49_3 := blk_frozen BK132.out 3
           have hcz50_0 : wc.cell? ⟨gb126, 0, none⟩ = some (.int .u8 a0_0) := (blk_cell BK126.out 0).trans rfl
           have hcz50_1 : wc.cell? ⟨gb126, 1, none⟩ = some (.string a0_1) := (blk_cell BK126.out 1).trans rfl
           have hcz50_2 : wc.cell? ⟨gb126, 2, none⟩ = some (.int .i64 a0_2) := (blk_cell BK126.out 2).trans rfl
           have hcz50_3 : wc.cell? ⟨gb126, 3, none⟩ = some (.string a0_3) := (blk_cell BK126.out 3).trans rfl
           have hcz50_4 : wc.cell? ⟨gb126, 4, none⟩ = some (.int .u8 a0_4) := (blk_cell BK126.out 4).trans rfl
           have hcz50_5 : wc.cell? ⟨gb126, 5, none⟩ = some (.slice A0_5 l0_5.length c0_5) := (blk_cell BK126.out 5).trans rfl
           have hfz50_0 := blk_frozen BK126.out 0
           have hfz50_1 := blk_frozen BK126.out 1
           have hfz50_2 := blk_frozen BK126.out 2
           have hfz50_3 := blk_frozen BK126.out 3
           have hfz50_4 := blk_frozen BK126.out 4
           have hfz50_5 := blk_frozen BK126.out 5
           go_wp2
           go_ret
           exact ⟨by first | rfl | (simp [errW_none, errW_some] <;> rfl) | (simp [*, errW_none, errW_some] <;> rfl), by repeat (first | (with_reducible first | exact HB.out | apply below_alloc | apply pw_below_drewN | apply below_drew1 | refine below_set ?_ GE126.out | refine below_set ?_ GE132.out) | exact HB.out)⟩
          ·rw [if_neg c47] at H
           have c47b0 : (t128 == 6) = false := beq_eq_false_iff_ne.mpr c47
           have c47b1 : (t128 != 6) = true := bne_iff_ne.mpr c47
           obtain rfl := Option.some.inj H
           have hnb51 := NB132_126.out
           have hnc51 := NB126_132.out
           have hcz52_0 : wc.cell? ⟨gb132, 0, none⟩ = some (.string t127) := (blk_cell BK132.out 0).trans rfl
           have hcz52_1 : wc.cell? ⟨gb132, 1, none⟩ = some (.int .u8 t128) := (blk_cell BK132.out 1).trans rfl
           have hcz52_2 : wc.cell? ⟨gb132, 2, none⟩ = some (.int .i64 t129) := (blk_cell BK132.out 2).trans rfl
           have hcz52_3 : wc.cell? ⟨gb132, 3, none⟩ = some (.int .i64 t130) := (blk_cell BK132.out 3).trans rfl
           have hfz52_0 := blk_frozen BK132.out 0
           have hfz52_1 := blk_frozen BK132.out 1
           have hfz52_2 := blk_frozen BK132.out 2
           have hfz52_3 := blk_frozen BK132.out 3
           go_wp2
           go_ret
           exact ⟨by first | rfl | (simp [errW_none, errW_some] <;> rfl) | (simp [*, errW_none, errW_some] <;> rfl), by repeat (first | (with_reducible first | exact HB.out | apply below_alloc | apply pw_below_drewN | apply below_drew1 | refine below_set ?_ GE126.out | refine below_set ?_ GE132.out) | exact HB.out)⟩
end Go.Proofs.YtjedbamcjgabpaaDoor.PSo
