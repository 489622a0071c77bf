/- vesperref12.Spans: written by a program of this session (gprint.py, over the kit's printer), but the second loop's round, which is by hand: a function of the seat YtdibgdiiamcmfaaDoor and their contracts. No condition but each contract's own. -/
import Derived.Test.YtdibgdiiamcmfaaDoorTapeWriteC
import Derived.Test.YtdibgdiiamcmfaaDoorTapeReadC
import Derived.Test.YtdibgdiiamcmfaaDoorPTapex0
import Derived.Test.YtdibgdiiamcmfaaDoorPTapex2
import Derived.Test.YtdibgdiiamcmfaaDoorPTapex7
import Derived.Test.YtdibgdiiamcmfaaDoorPTapex9
import Derived.Test.YtdibgdiiamcmfaaDoorTapeElder
namespace Go.Proofs.YtdibgdiiamcmfaaDoor.PTape
open Go.RowKit Go.Proofs.YtdibgdiiamcmfaaDoorW.PrintWords Go.Proofs.YtdibgdiiamcmfaaDoorW.PrintLast Go.Proofs.YtdibgdiiamcmfaaDoorW.PrintMore
open Go.Proofs.YtdibgdiiamcmfaaDoor.Reader (GOk)
attribute [local go_sem] max2_int min2_int max_two min_two max_three min_three max_four min_four   -- for this text's walks alone
open Go.Proofs.YtdibgdiiamcmfaaDoor.App
attribute [local go_sem ↓ high] appG_eq
set_option linter.unusedVariables false
set_option linter.unusedSimpArgs false

attribute [local go_sem high] eqA44
-- NOT PRINTED: function 7 (vesperlaw12_TapeHeard)

theorem flat44 {w w' : World} {base : Nat} {ok : Nat → Prop} {x : S44} {cs : List Value} (h : k44.K w x cs) : k44.M w' base ok x cs := by
  rw [k44_open h]; exact k44_mkM w' base ok x

/-- append of some spans to spans of the call's own. -/
theorem app44 {W : World} (base : Nat) (v : Value) (xs ps : List S44) (news : List Value) (m : Nat) (hm : ps.length = m) (hnews : Reps (k44.K W) 10 ps news) (ok : Nat → Prop) (hfresh : ∀ k, W.heap.size ≤ k → ok k) (HO : k44.R 44 W base ok v xs) (hbase : base ≤ W.heap.size) (hl : xs.length + m < 5864062014805) (hm0 : 0 < m) (H : Nat) (hH : W.heap.size = H) :
    ∃ g cap w1, (appG #[39, 39] 39 #[v, .slice (some ⟨H, 0, none⟩) m m]).run Tryd.prog (W.alloc (.cells news.toArray 44)) = .ok (.slice (some ⟨g, 0, none⟩) (xs.length + m) cap) w1 ∧
      k44.R 44 w1 base ok (.slice (some ⟨g, 0, none⟩) (xs.length + m) cap) (xs ++ ps) ∧ W.grownBy w1 v.ownBlock ∧ (v.ownBlock = some g ∨ W.heap.size ≤ g) := by
  subst hH
  obtain ⟨h0, inner, hown, hr⟩ := HO
  obtain ⟨i0, hi, hzz⟩ := Option.map_eq_some_iff.1 info44
  simp only [Prod.mk.injEq] at hzz
  obtain ⟨hz0, hz1, hz2⟩ := hzz
  obtain ⟨v', w1, hrun, hown', hg, _, hat⟩ := run_append_own_at (P := Tryd.prog) (W.alloc (.cells news.toArray 44)) base 39 39 44 i0 _ 10 24 Tryd.underlying39 hi hz0 hz1 hz2 rfl (by decide) v xs.length inner (hown.alloc _) ⟨W.heap.size, 0, none⟩ m m news (by rw [hnews.1, hm])
    (by simpa using World.news_of_block (cs := news.toArray) (t := 44) (fr := (0, 0)) (heap_alloc_new W (.cells news.toArray 44))) (fun v hv => Kd.reps_one hnews (by decide) (fun _ _ h => k44.K_one h) v hv) (by simp only [maxLen]; omega) (by omega) (by simp; omega)
  have hat' : v'.ownBlock = v.ownBlock ∨ v'.ownBlock = some (W.heap.size + 1) := by simpa using hat
  have hform := hown'.2
  rcases hform with ⟨_, hn0⟩ | ⟨g, cap, cur, rfl, _⟩
  · omega
  have hg1 : W.grownBy w1 v.ownBlock := World.grownBy.trans (World.grownBy_alloc W _ _) hg
  have hblk : v.ownBlock = some g ∨ W.heap.size ≤ g := by
    rcases hat' with h | h
    · exact .inl h.symm
    · right; simp only [Value.ownBlock, Option.some.injEq] at h; omega
  refine ⟨g, cap, w1, hrun, ⟨fun k hk => ?_, inner ++ news, ?_, ?_⟩, hg1, hblk⟩
  · simp only [Value.ownBlock, Option.some.injEq] at hk
    subst hk
    rcases hblk with h | h
    · exact h0 _ h
    · exact hfresh _ h
  · rw [List.length_append, hm]; exact hown'
  · exact Kd.reps_append (hr.imp_ (fun _ _ h => flat44 (k44.K_of_M h))) (hnews.imp_ (fun _ _ h => flat44 h))

theorem two44 (W : World) (p q : S44) : Reps (k44.K W) 10 [p, q] [.int .i64 p.f0, .int .u16 p.f1, .bool p.f2, .bool p.f3, .bool p.f4, .bool p.f5, .bool p.f6, .bool p.f7, .bool p.f8, .int .u8 p.f9, .int .i64 q.f0, .int .u16 q.f1, .bool q.f2, .bool q.f3, .bool q.f4, .bool q.f5, .bool q.f6, .bool q.f7, .bool q.f8, .int .u8 q.f9] :=
  Reps.c10 (k44_mk W p) (Reps.c10 (k44_mk W q) (Reps.none _ _))

/-! ### vesperref12_Spans: function 21 -/
mutual
def vesperref12_Spans.l0 : Nat → List (S37) → Int → Int → Int → Bool → Bool → Bool → Bool → Bool → Bool → Bool → Int → Option ((List (S44)) × Int)
  | 0, _, _, _, _, _, _, _, _, _, _, _, _ => none
  | k + 1, x0, x6, x275000, x275001, x275002, x275003, x275004, x275005, x275006, x275007, x275008, x275009 => if x6 < (x0.length : Int) then (if 0 ≤ x6 then (if ((rd_T37 x0 x6).f0) < 1 then (some (([] : List (S44)), 1)) else (if ((rd_T37 x0 x6).f0) > 1048576 then (some (([] : List (S44)), 1)) else (if ((rd_T37 x0 x6).f1) < 1 then (some (([] : List (S44)), 1)) else (if ((rd_T37 x0 x6).f1) > 1048576 then (some (([] : List (S44)), 1)) else (vesperref12_Spans.l0 k x0 (wrap64 (x6 + 1)) x275000 x275001 x275002 x275003 x275004 x275005 x275006 x275007 x275008 x275009))))) else (none)) else (if (x0.length : Int) > 2048 then (some (([] : List (S44)), 2)) else (vesperref12_Spans.l1 k x0 ([] : List (S44)) 0 x275000 x275001 x275002 x275003 x275004 x275005 x275006 x275007 x275008 x275009))
def vesperref12_Spans.l1 : Nat → List (S37) → List (S44) → Int → Int → Int → Bool → Bool → Bool → Bool → Bool → Bool → Bool → Int → Option ((List (S44)) × Int)
  | 0, _, _, _, _, _, _, _, _, _, _, _, _, _ => none
  | k + 1, x0, x8, x9, x275000, x275001, x275002, x275003, x275004, x275005, x275006, x275007, x275008, x275009 => if x9 < (x0.length : Int) then (if 0 ≤ x9 then ((some (([(⟨(rd_T37 x0 x9).f0, x275001, true, x275003, x275004, x275005, x275006, x275007, x275008, x275009⟩ : S44), (⟨(rd_T37 x0 x9).f1, x275001, false, x275003, x275004, x275005, x275006, x275007, x275008, x275009⟩ : S44)] : List (S44)) : List (S44))).bind fun y281 => (if x8.length + y281.length < 5864062014805 then (vesperref12_Spans.l1 k x0 (x8 ++ y281) (wrap64 (x9 + 1)) x275000 x275001 x275002 x275003 x275004 x275005 x275006 x275007 x275008 x275009) else (none))) else (none)) else ((vesperref07_Check.f k x8).bind fun t287 => (if t287 = 0 then (some (x8, 0)) else (some (([] : List (S44)), t287))))
end
def vesperref12_Spans.f (k : Nat) (l0 : List (S37)) (a1_0 : Int) (a1_1 : Int) (a1_2 : Bool) (a1_3 : Bool) (a1_4 : Bool) (a1_5 : Bool) (a1_6 : Bool) (a1_7 : Bool) (a1_8 : Bool) (a1_9 : Int) : Option ((List (S44)) × Int) := vesperref12_Spans.l0 k l0 0 a1_0 a1_1 a1_2 a1_3 a1_4 a1_5 a1_6 a1_7 a1_8 a1_9
theorem vesperref12_Spans.mono_l : ∀ k, (∀ y0 y1 y2 y3 y4 y5 y6 y7 y8 y9 y10 y11, LeO (vesperref12_Spans.l0 k y0 y1 y2 y3 y4 y5 y6 y7 y8 y9 y10 y11) (vesperref12_Spans.l0 (k + 1) y0 y1 y2 y3 y4 y5 y6 y7 y8 y9 y10 y11)) ∧ (∀ y0 y1 y2 y3 y4 y5 y6 y7 y8 y9 y10 y11 y12, LeO (vesperref12_Spans.l1 k y0 y1 y2 y3 y4 y5 y6 y7 y8 y9 y10 y11 y12) (vesperref12_Spans.l1 (k + 1) y0 y1 y2 y3 y4 y5 y6 y7 y8 y9 y10 y11 y12))
  | 0 => ⟨fun _ _ _ _ _ _ _ _ _ _ _ _ r h => by simp [vesperref12_Spans.l0] at h, fun _ _ _ _ _ _ _ _ _ _ _ _ _ r h => by simp [vesperref12_Spans.l1] at h⟩
  | k + 1 => by
    obtain ⟨ih0, ih1⟩ := vesperref12_Spans.mono_l k
    refine ⟨?_, ?_⟩
    · intro y0 y1 y2 y3 y4 y5 y6 y7 y8 y9 y10 y11
      unfold vesperref12_Spans.l0
      repeat' first
      | (with_reducible exact ih0 _ _ _ _ _ _ _ _ _ _ _ _)
      | (with_reducible exact ih1 _ _ _ _ _ _ _ _ _ _ _ _ _)
      | (with_reducible exact vesperref07_Check.mono _ _)
      | (with_reducible exact LeO.refl _)
      | (with_reducible exact LeO.none _)
      | (with_reducible refine LeO.ite ?_ ?_)
      | (with_reducible refine LeO.bind ?_ (fun _ => ?_))
      | exact ih0 _ _ _ _ _ _ _ _ _ _ _ _
      | exact ih1 _ _ _ _ _ _ _ _ _ _ _ _ _
      | exact vesperref07_Check.mono _ _
      | exact LeO.none _
      | refine LeO.ite ?_ ?_
      | refine LeO.bind ?_ (fun _ => ?_)
    · intro y0 y1 y2 y3 y4 y5 y6 y7 y8 y9 y10 y11 y12
      unfold vesperref12_Spans.l1
      repeat' first
      | (with_reducible exact ih0 _ _ _ _ _ _ _ _ _ _ _ _)
      | (with_reducible exact ih1 _ _ _ _ _ _ _ _ _ _ _ _ _)
      | (with_reducible exact vesperref07_Check.mono _ _)
      | (with_reducible exact LeO.refl _)
      | (with_reducible exact LeO.none _)
      | (with_reducible refine LeO.ite ?_ ?_)
      | (with_reducible refine LeO.bind ?_ (fun _ => ?_))
      | exact ih0 _ _ _ _ _ _ _ _ _ _ _ _
      | exact ih1 _ _ _ _ _ _ _ _ _ _ _ _ _
      | exact vesperref07_Check.mono _ _
      | exact LeO.none _
      | refine LeO.ite ?_ ?_
      | refine LeO.bind ?_ (fun _ => ?_)
theorem vesperref12_Spans.mono : ∀ a0 a1 a2 a3 a4 a5 a6 a7 a8 a9 a10 k, LeO (vesperref12_Spans.f k a0 a1 a2 a3 a4 a5 a6 a7 a8 a9 a10) (vesperref12_Spans.f (k + 1) a0 a1 a2 a3 a4 a5 a6 a7 a8 a9 a10) := by
  intro a0 a1 a2 a3 a4 a5 a6 a7 a8 a9 a10 k
  obtain ⟨ih0, ih1⟩ := vesperref12_Spans.mono_l k
  unfold vesperref12_Spans.f
  repeat' first
      | (with_reducible exact ih0 _ _ _ _ _ _ _ _ _ _ _ _)
      | (with_reducible exact ih1 _ _ _ _ _ _ _ _ _ _ _ _ _)
      | (with_reducible exact vesperref07_Check.mono _ _)
      | (with_reducible exact LeO.refl _)
      | (with_reducible exact LeO.none _)
      | (with_reducible refine LeO.ite ?_ ?_)
      | (with_reducible refine LeO.bind ?_ (fun _ => ?_))
      | exact ih0 _ _ _ _ _ _ _ _ _ _ _ _
      | exact ih1 _ _ _ _ _ _ _ _ _ _ _ _ _
      | exact vesperref07_Check.mono _ _
      | exact LeO.none _
      | refine LeO.ite ?_ ?_
      | refine LeO.bind ?_ (fun _ => ?_)
set_option maxHeartbeats 8000000 in
set_option maxRecDepth 100000 in
theorem vesperref12_Spans.calls (k : Nat) (A0 : Option Addr) (c0 : Nat) (l0 : List (S37)) (a1_0 : Int) (a1_1 : Int) (a1_2 : Bool) (a1_3 : Bool) (a1_4 : Bool) (a1_5 : Bool) (a1_6 : Bool) (a1_7 : Bool) (a1_8 : Bool) (a1_9 : Int) (r1 : List (S44)) (r2 : Int) (w : World) (hr0 : Kd.C k37 w A0 l0.length l0) (hc0 : l0.length ≤ c0) (h : vesperref12_Spans.f k l0 a1_0 a1_1 a1_2 a1_3 a1_4 a1_5 a1_6 a1_7 a1_8 a1_9 = some (r1, r2)) :
    Calls Tryd.prog 21 #[.slice A0 l0.length c0, .agg #[.int .i64 a1_0, .int .u16 a1_1, .bool a1_2, .bool a1_3, .bool a1_4, .bool a1_5, .bool a1_6, .bool a1_7, .bool a1_8, .int .u8 a1_9]] w fun e w' => ∃ v0_ : Value, e = .returned (.tuple #[v0_, .int .i64 r2]) ∧ Kd.R k44 44 w' w.heap.size (fun _ => True) v0_ r1 ∧ Below w.heap.size w w' := by
  have hu44 := Tryd.underlying44
  have hu37 := Tryd.underlying37
  have HR0 := Aside0.mk hr0
  have HC0 := Aside0.mk hc0
  clear hr0 hc0
  have HB := Aside0.mk (Below.refl w.heap.size w)
  have H : (vesperref12_Spans.l0 k l0 0 a1_0 a1_1 a1_2 a1_3 a1_4 a1_5 a1_6 a1_7 a1_8 a1_9) = some (r1, r2) := h
  clear h
  have H' := Aside0.mk H
  clear H
  go_enter Tryd.func21, Tryd.ntmps21
  go_wp2_with (first | ((with_reducible refine gate_dst (N := 3) rfl ?_); refine box_event ?hg (N := 3) ?hd (cs := #[.int .i64 a1_0, .int .u16 a1_1, .bool a1_2, .bool a1_3, .bool a1_4, .bool a1_5, .bool a1_6, .bool a1_7, .bool a1_8, .int .u8 a1_9]) (t := 44) ?hr ?_; (case hd => rfl); (case hg => rfl); (case hr => first | (go_simp; done) | (go_simp; rfl)); intro gb274 hg w3 hbox hb; have n0_ := Aside0.mk (below_step (by repeat (first | (with_reducible first | exact HB.out | apply below_alloc | apply pw_below_drewN | apply below_drew1) | exact HB.out)) hb); have n1_ := Aside0.mk (hbox); have n2_ := Aside0.mk ((by rw [hg]; exact (below_size (by repeat (first | (with_reducible first | exact HB.out | apply below_alloc | apply pw_below_drewN | apply below_drew1) | exact HB.out))) : w.heap.size ≤ gb274)); have n3_ := Aside0.mk ((by rw [hg]; exact (below_size (by repeat (first | (with_reducible first | exact HB.out | apply below_alloc | apply pw_below_drewN | apply below_drew1) | exact HB.out))) : w.heap.size ≤ gb274)); clear HB; have HB := n0_; have BK274 := n1_; have GW274 := n2_; have GE274 := n3_; clear n0_ n1_ n2_ n3_; clear hb hbox hg))
  go_loopg [6] k (fun kq v6 w' => ∃ (x6_1 : Int), v6 = .int .i64 x6_1 ∧ Aside0 (vesperref12_Spans.l0 kq l0 x6_1 a1_0 a1_1 a1_2 a1_3 a1_4 a1_5 a1_6 a1_7 a1_8 a1_9 = some (r1, r2)) ∧ Aside0 (kq ≤ k) ∧ Aside0 (w'.heap[gb274]? = some (.cells #[.int .i64 a1_0, .int .u16 a1_1, .bool a1_2, .bool a1_3, .bool a1_4, .bool a1_5, .bool a1_6, .bool a1_7, .bool a1_8, .int .u8 a1_9] 44 (0, 0))) ∧ Aside0 (Below w.heap.size w w'))
  case atStart => exact ⟨(0), (by first | rfl | (simp; done) | (simp [*]; done)), H', ⟨Nat.le_refl _⟩, ⟨by (with_reducible repeat (first | refine blk_drewN ?_ _ | refine blk_drew ?_ | refine blk_alloc ?_ _)); exact BK274.out⟩, ⟨by repeat (first | (with_reducible first | exact HB.out | apply below_alloc | apply pw_below_drewN | apply below_drew1 | refine below_set ?_ GE274.out) | exact HB.out)⟩⟩
  case round =>
    clear H'
    try clear c2
    try clear p2
    obtain ⟨x6_1, rfl, HA, HK1, BK274, HB⟩ := hrel
    cases gk with
    | zero => exact absurd HA.out (by simp [vesperref12_Spans.l0])
    | succ k1 =>
      have H := HA.out
      clear HA
      simp only [vesperref12_Spans.l0] at H
      by_cases c4 : x6_1 < (l0.length : Int)
      · rw [if_pos c4] at H
        have c4b0 : decide (x6_1 < (l0.length : Int)) = true := decide_eq_true c4
        clear c4
        by_cases c5 : 0 ≤ x6_1
        · rw [if_pos c5] at H
          have c5b0 : decide (0 ≤ x6_1) = true := decide_eq_true c5
          clear c5
          by_cases c6 : ((rd_T37 l0 x6_1).f0) < 1
          · rw [if_pos c6] at H
            have c6b0 : decide (((rd_T37 l0 x6_1).f0) < 1) = true := decide_eq_true c6
            clear c6
            simp only [Option.some.injEq, Prod.mk.injEq] at H
            obtain ⟨rfl, rfl⟩ := H
            have p275 : 0 ≤ (x6_1 : Int) := of_decide_eq_true (by first | (with_reducible assumption) | assumption)
            have q275 : x6_1 < (l0.length : Int) := of_decide_eq_true (by first | (with_reducible assumption) | assumption)
            obtain ⟨ad275, e275, hx275_0, hx275_1⟩ := at_T37 HR0.out x6_1 p275 q275
            cases e275
            replace hx275_0 := (HB.out.cell (World.block_lt_of_cell? w _ hx275_0)).trans hx275_0
            replace hx275_1 := (HB.out.cell (World.block_lt_of_cell? w _ hx275_1)).trans hx275_1
            replace p275 := eq_true p275
            replace q275 := eq_true q275
            go_wp2_with (first | ((with_reducible refine gate_dst (N := 7) rfl ?_); refine box_event ?hg (N := 7) ?hd (cs := #[.int .i64 0, .int .i64 0]) (t := 37) ?hr ?_; (case hd => rfl); (case hg => rfl); (case hr => first | (go_simp; done) | (go_simp; rfl)); intro gb276 hg w7 hbox hb; have n0_ := Aside0.mk (blk_below (g := gb274) (o := .cells #[.int .i64 a1_0, .int .u16 a1_1, .bool a1_2, .bool a1_3, .bool a1_4, .bool a1_5, .bool a1_6, .bool a1_7, .bool a1_8, .int .u8 a1_9] 44 (0, 0)) (by (with_reducible repeat (first | refine blk_drewN ?_ _ | refine blk_drew ?_ | refine blk_alloc ?_ _)); exact BK274.out) hb); have n1_ := Aside0.mk (below_step (by repeat (first | (with_reducible first | exact HB.out | apply below_alloc | apply pw_below_drewN | apply below_drew1 | refine below_set ?_ GE274.out) | exact HB.out)) hb); have n2_ := Aside0.mk (hbox); have n3_ := Aside0.mk ((by rw [hg]; exact (below_size (by repeat (first | (with_reducible first | exact HB.out | apply below_alloc | apply pw_below_drewN | apply below_drew1 | refine below_set ?_ GE274.out) | exact HB.out))) : w.heap.size ≤ gb276)); have n4_ := Aside0.mk ((by rw [hg]; exact (below_size (by repeat (first | (with_reducible first | exact HB.out | apply below_alloc | apply pw_below_drewN | apply below_drew1 | refine below_set ?_ GE274.out) | exact HB.out))) : w.heap.size ≤ gb276)); have n5_ := Aside0.mk ((by rw [hg]; exact Nat.ne_of_lt (blk_lt (g := gb274) (o := .cells #[.int .i64 a1_0, .int .u16 a1_1, .bool a1_2, .bool a1_3, .bool a1_4, .bool a1_5, .bool a1_6, .bool a1_7, .bool a1_8, .int .u8 a1_9] 44 (0, 0)) (by (with_reducible repeat (first | refine blk_drewN ?_ _ | refine blk_drew ?_ | refine blk_alloc ?_ _)); exact BK274.out)) : gb274 ≠ gb276)); have n6_ := Aside0.mk ((by rw [hg]; exact Nat.ne_of_gt (blk_lt (g := gb274) (o := .cells #[.int .i64 a1_0, .int .u16 a1_1, .bool a1_2, .bool a1_3, .bool a1_4, .bool a1_5, .bool a1_6, .bool a1_7, .bool a1_8, .int .u8 a1_9] 44 (0, 0)) (by (with_reducible repeat (first | refine blk_drewN ?_ _ | refine blk_drew ?_ | refine blk_alloc ?_ _)); exact BK274.out)) : gb276 ≠ gb274)); clear BK274; clear HB; have BK274 := n0_; have HB := n1_; have BK276 := n2_; have GW276 := n3_; have GE276 := n4_; have NB274_276 := n5_; have NB276_274 := n6_; clear n0_ n1_ n2_ n3_ n4_ n5_ n6_; clear hb hbox hg; have hnb8 := NB276_274.out; have hnc8 := NB274_276.out; have hcz9_0 : w7.cell? ⟨gb276, 0, none⟩ = some (.int .i64 0) := (blk_cell BK276.out 0).trans rfl; have hcz9_1 : w7.cell? ⟨gb276, 1, none⟩ = some (.int .i64 0) := (blk_cell BK276.out 1).trans rfl; have hfz9_0 := blk_frozen BK276.out 0; have hfz9_1 := blk_frozen BK276.out 1))
            go_ret2
            exact ⟨_, by first | rfl | (simp [errW_none, errW_some] <;> rfl) | (simp [*, errW_none, errW_some] <;> rfl), by first | exact Kd.R_nil _ _ _ _ _ | exact Kd.N_nil _ _ _ _ _ | exact Kd.V_nil _ _ _ _ _ | exact Kd.Q_nil _ _ _ _ _ | exact Kd.S_nil _ _ _ _ _, by repeat (first | (with_reducible first | exact HB.out | apply below_alloc | apply pw_below_drewN | apply below_drew1 | refine below_set ?_ GE274.out | refine below_set ?_ GE276.out) | exact HB.out)⟩
          · rw [if_neg c6] at H
            have c6b0 : decide (((rd_T37 l0 x6_1).f0) < 1) = false := decide_eq_false c6
            clear c6
            by_cases c10 : ((rd_T37 l0 x6_1).f0) > 1048576
            · rw [if_pos c10] at H
              have c10b0 : decide (1048576 < ((rd_T37 l0 x6_1).f0)) = true := decide_eq_true c10
              clear c10
              simp only [Option.some.injEq, Prod.mk.injEq] at H
              obtain ⟨rfl, rfl⟩ := H
              have p275 : 0 ≤ (x6_1 : Int) := of_decide_eq_true (by first | (with_reducible assumption) | assumption)
              have q275 : x6_1 < (l0.length : Int) := of_decide_eq_true (by first | (with_reducible assumption) | assumption)
              obtain ⟨ad275, e275, hx275_0, hx275_1⟩ := at_T37 HR0.out x6_1 p275 q275
              cases e275
              replace hx275_0 := (HB.out.cell (World.block_lt_of_cell? w _ hx275_0)).trans hx275_0
              replace hx275_1 := (HB.out.cell (World.block_lt_of_cell? w _ hx275_1)).trans hx275_1
              replace p275 := eq_true p275
              replace q275 := eq_true q275
              go_wp2_with (first | ((with_reducible refine gate_dst (N := 7) rfl ?_); refine box_event ?hg (N := 7) ?hd (cs := #[.int .i64 0, .int .i64 0]) (t := 37) ?hr ?_; (case hd => rfl); (case hg => rfl); (case hr => first | (go_simp; done) | (go_simp; rfl)); intro gb276 hg w11 hbox hb; have n0_ := Aside0.mk (blk_below (g := gb274) (o := .cells #[.int .i64 a1_0, .int .u16 a1_1, .bool a1_2, .bool a1_3, .bool a1_4, .bool a1_5, .bool a1_6, .bool a1_7, .bool a1_8, .int .u8 a1_9] 44 (0, 0)) (by (with_reducible repeat (first | refine blk_drewN ?_ _ | refine blk_drew ?_ | refine blk_alloc ?_ _)); exact BK274.out) hb); have n1_ := Aside0.mk (below_step (by repeat (first | (with_reducible first | exact HB.out | apply below_alloc | apply pw_below_drewN | apply below_drew1 | refine below_set ?_ GE274.out) | exact HB.out)) hb); have n2_ := Aside0.mk (hbox); have n3_ := Aside0.mk ((by rw [hg]; exact (below_size (by repeat (first | (with_reducible first | exact HB.out | apply below_alloc | apply pw_below_drewN | apply below_drew1 | refine below_set ?_ GE274.out) | exact HB.out))) : w.heap.size ≤ gb276)); have n4_ := Aside0.mk ((by rw [hg]; exact (below_size (by repeat (first | (with_reducible first | exact HB.out | apply below_alloc | apply pw_below_drewN | apply below_drew1 | refine below_set ?_ GE274.out) | exact HB.out))) : w.heap.size ≤ gb276)); have n5_ := Aside0.mk ((by rw [hg]; exact Nat.ne_of_lt (blk_lt (g := gb274) (o := .cells #[.int .i64 a1_0, .int .u16 a1_1, .bool a1_2, .bool a1_3, .bool a1_4, .bool a1_5, .bool a1_6, .bool a1_7, .bool a1_8, .int .u8 a1_9] 44 (0, 0)) (by (with_reducible repeat (first | refine blk_drewN ?_ _ | refine blk_drew ?_ | refine blk_alloc ?_ _)); exact BK274.out)) : gb274 ≠ gb276)); have n6_ := Aside0.mk ((by rw [hg]; exact Nat.ne_of_gt (blk_lt (g := gb274) (o := .cells #[.int .i64 a1_0, .int .u16 a1_1, .bool a1_2, .bool a1_3, .bool a1_4, .bool a1_5, .bool a1_6, .bool a1_7, .bool a1_8, .int .u8 a1_9] 44 (0, 0)) (by (with_reducible repeat (first | refine blk_drewN ?_ _ | refine blk_drew ?_ | refine blk_alloc ?_ _)); exact BK274.out)) : gb276 ≠ gb274)); clear BK274; clear HB; have BK274 := n0_; have HB := n1_; have BK276 := n2_; have GW276 := n3_; have GE276 := n4_; have NB274_276 := n5_; have NB276_274 := n6_; clear n0_ n1_ n2_ n3_ n4_ n5_ n6_; clear hb hbox hg; have hnb12 := NB276_274.out; have hnc12 := NB274_276.out; have hcz13_0 : w11.cell? ⟨gb276, 0, none⟩ = some (.int .i64 0) := (blk_cell BK276.out 0).trans rfl; have hcz13_1 : w11.cell? ⟨gb276, 1, none⟩ = some (.int .i64 0) := (blk_cell BK276.out 1).trans rfl; have hfz13_0 := blk_frozen BK276.out 0; have hfz13_1 := blk_frozen BK276.out 1))
              go_ret2
              exact ⟨_, by first | rfl | (simp [errW_none, errW_some] <;> rfl) | (simp [*, errW_none, errW_some] <;> rfl), by first | exact Kd.R_nil _ _ _ _ _ | exact Kd.N_nil _ _ _ _ _ | exact Kd.V_nil _ _ _ _ _ | exact Kd.Q_nil _ _ _ _ _ | exact Kd.S_nil _ _ _ _ _, by repeat (first | (with_reducible first | exact HB.out | apply below_alloc | apply pw_below_drewN | apply below_drew1 | refine below_set ?_ GE274.out | refine below_set ?_ GE276.out) | exact HB.out)⟩
            · rw [if_neg c10] at H
              have c10b0 : decide (1048576 < ((rd_T37 l0 x6_1).f0)) = false := decide_eq_false c10
              clear c10
              by_cases c14 : ((rd_T37 l0 x6_1).f1) < 1
              · rw [if_pos c14] at H
                have c14b0 : decide (((rd_T37 l0 x6_1).f1) < 1) = true := decide_eq_true c14
                clear c14
                simp only [Option.some.injEq, Prod.mk.injEq] at H
                obtain ⟨rfl, rfl⟩ := H
                have p275 : 0 ≤ (x6_1 : Int) := of_decide_eq_true (by first | (with_reducible assumption) | assumption)
                have q275 : x6_1 < (l0.length : Int) := of_decide_eq_true (by first | (with_reducible assumption) | assumption)
                obtain ⟨ad275, e275, hx275_0, hx275_1⟩ := at_T37 HR0.out x6_1 p275 q275
                cases e275
                replace hx275_0 := (HB.out.cell (World.block_lt_of_cell? w _ hx275_0)).trans hx275_0
                replace hx275_1 := (HB.out.cell (World.block_lt_of_cell? w _ hx275_1)).trans hx275_1
                replace p275 := eq_true p275
                replace q275 := eq_true q275
                go_wp2_with (first | ((with_reducible refine gate_dst (N := 7) rfl ?_); refine box_event ?hg (N := 7) ?hd (cs := #[.int .i64 0, .int .i64 0]) (t := 37) ?hr ?_; (case hd => rfl); (case hg => rfl); (case hr => first | (go_simp; done) | (go_simp; rfl)); intro gb276 hg w15 hbox hb; have n0_ := Aside0.mk (blk_below (g := gb274) (o := .cells #[.int .i64 a1_0, .int .u16 a1_1, .bool a1_2, .bool a1_3, .bool a1_4, .bool a1_5, .bool a1_6, .bool a1_7, .bool a1_8, .int .u8 a1_9] 44 (0, 0)) (by (with_reducible repeat (first | refine blk_drewN ?_ _ | refine blk_drew ?_ | refine blk_alloc ?_ _)); exact BK274.out) hb); have n1_ := Aside0.mk (below_step (by repeat (first | (with_reducible first | exact HB.out | apply below_alloc | apply pw_below_drewN | apply below_drew1 | refine below_set ?_ GE274.out) | exact HB.out)) hb); have n2_ := Aside0.mk (hbox); have n3_ := Aside0.mk ((by rw [hg]; exact (below_size (by repeat (first | (with_reducible first | exact HB.out | apply below_alloc | apply pw_below_drewN | apply below_drew1 | refine below_set ?_ GE274.out) | exact HB.out))) : w.heap.size ≤ gb276)); have n4_ := Aside0.mk ((by rw [hg]; exact (below_size (by repeat (first | (with_reducible first | exact HB.out | apply below_alloc | apply pw_below_drewN | apply below_drew1 | refine below_set ?_ GE274.out) | exact HB.out))) : w.heap.size ≤ gb276)); have n5_ := Aside0.mk ((by rw [hg]; exact Nat.ne_of_lt (blk_lt (g := gb274) (o := .cells #[.int .i64 a1_0, .int .u16 a1_1, .bool a1_2, .bool a1_3, .bool a1_4, .bool a1_5, .bool a1_6, .bool a1_7, .bool a1_8, .int .u8 a1_9] 44 (0, 0)) (by (with_reducible repeat (first | refine blk_drewN ?_ _ | refine blk_drew ?_ | refine blk_alloc ?_ _)); exact BK274.out)) : gb274 ≠ gb276)); have n6_ := Aside0.mk ((by rw [hg]; exact Nat.ne_of_gt (blk_lt (g := gb274) (o := .cells #[.int .i64 a1_0, .int .u16 a1_1, .bool a1_2, .bool a1_3, .bool a1_4, .bool a1_5, .bool a1_6, .bool a1_7, .bool a1_8, .int .u8 a1_9] 44 (0, 0)) (by (with_reducible repeat (first | refine blk_drewN ?_ _ | refine blk_drew ?_ | refine blk_alloc ?_ _)); exact BK274.out)) : gb276 ≠ gb274)); clear BK274; clear HB; have BK274 := n0_; have HB := n1_; have BK276 := n2_; have GW276 := n3_; have GE276 := n4_; have NB274_276 := n5_; have NB276_274 := n6_; clear n0_ n1_ n2_ n3_ n4_ n5_ n6_; clear hb hbox hg; have hnb16 := NB276_274.out; have hnc16 := NB274_276.out; have hcz17_0 : w15.cell? ⟨gb276, 0, none⟩ = some (.int .i64 0) := (blk_cell BK276.out 0).trans rfl; have hcz17_1 : w15.cell? ⟨gb276, 1, none⟩ = some (.int .i64 0) := (blk_cell BK276.out 1).trans rfl; have hfz17_0 := blk_frozen BK276.out 0; have hfz17_1 := blk_frozen BK276.out 1))
                go_ret2
                exact ⟨_, by first | rfl | (simp [errW_none, errW_some] <;> rfl) | (simp [*, errW_none, errW_some] <;> rfl), by first | exact Kd.R_nil _ _ _ _ _ | exact Kd.N_nil _ _ _ _ _ | exact Kd.V_nil _ _ _ _ _ | exact Kd.Q_nil _ _ _ _ _ | exact Kd.S_nil _ _ _ _ _, by repeat (first | (with_reducible first | exact HB.out | apply below_alloc | apply pw_below_drewN | apply below_drew1 | refine below_set ?_ GE274.out | refine below_set ?_ GE276.out) | exact HB.out)⟩
              · rw [if_neg c14] at H
                have c14b0 : decide (((rd_T37 l0 x6_1).f1) < 1) = false := decide_eq_false c14
                clear c14
                by_cases c18 : ((rd_T37 l0 x6_1).f1) > 1048576
                · rw [if_pos c18] at H
                  have c18b0 : decide (1048576 < ((rd_T37 l0 x6_1).f1)) = true := decide_eq_true c18
                  clear c18
                  simp only [Option.some.injEq, Prod.mk.injEq] at H
                  obtain ⟨rfl, rfl⟩ := H
                  have p275 : 0 ≤ (x6_1 : Int) := of_decide_eq_true (by first | (with_reducible assumption) | assumption)
                  have q275 : x6_1 < (l0.length : Int) := of_decide_eq_true (by first | (with_reducible assumption) | assumption)
                  obtain ⟨ad275, e275, hx275_0, hx275_1⟩ := at_T37 HR0.out x6_1 p275 q275
                  cases e275
                  replace hx275_0 := (HB.out.cell (World.block_lt_of_cell? w _ hx275_0)).trans hx275_0
                  replace hx275_1 := (HB.out.cell (World.block_lt_of_cell? w _ hx275_1)).trans hx275_1
                  replace p275 := eq_true p275
                  replace q275 := eq_true q275
                  go_wp2_with (first | ((with_reducible refine gate_dst (N := 7) rfl ?_); refine box_event ?hg (N := 7) ?hd (cs := #[.int .i64 0, .int .i64 0]) (t := 37) ?hr ?_; (case hd => rfl); (case hg => rfl); (case hr => first | (go_simp; done) | (go_simp; rfl)); intro gb276 hg w19 hbox hb; have n0_ := Aside0.mk (blk_below (g := gb274) (o := .cells #[.int .i64 a1_0, .int .u16 a1_1, .bool a1_2, .bool a1_3, .bool a1_4, .bool a1_5, .bool a1_6, .bool a1_7, .bool a1_8, .int .u8 a1_9] 44 (0, 0)) (by (with_reducible repeat (first | refine blk_drewN ?_ _ | refine blk_drew ?_ | refine blk_alloc ?_ _)); exact BK274.out) hb); have n1_ := Aside0.mk (below_step (by repeat (first | (with_reducible first | exact HB.out | apply below_alloc | apply pw_below_drewN | apply below_drew1 | refine below_set ?_ GE274.out) | exact HB.out)) hb); have n2_ := Aside0.mk (hbox); have n3_ := Aside0.mk ((by rw [hg]; exact (below_size (by repeat (first | (with_reducible first | exact HB.out | apply below_alloc | apply pw_below_drewN | apply below_drew1 | refine below_set ?_ GE274.out) | exact HB.out))) : w.heap.size ≤ gb276)); have n4_ := Aside0.mk ((by rw [hg]; exact (below_size (by repeat (first | (with_reducible first | exact HB.out | apply below_alloc | apply pw_below_drewN | apply below_drew1 | refine below_set ?_ GE274.out) | exact HB.out))) : w.heap.size ≤ gb276)); have n5_ := Aside0.mk ((by rw [hg]; exact Nat.ne_of_lt (blk_lt (g := gb274) (o := .cells #[.int .i64 a1_0, .int .u16 a1_1, .bool a1_2, .bool a1_3, .bool a1_4, .bool a1_5, .bool a1_6, .bool a1_7, .bool a1_8, .int .u8 a1_9] 44 (0, 0)) (by (with_reducible repeat (first | refine blk_drewN ?_ _ | refine blk_drew ?_ | refine blk_alloc ?_ _)); exact BK274.out)) : gb274 ≠ gb276)); have n6_ := Aside0.mk ((by rw [hg]; exact Nat.ne_of_gt (blk_lt (g := gb274) (o := .cells #[.int .i64 a1_0, .int .u16 a1_1, .bool a1_2, .bool a1_3, .bool a1_4, .bool a1_5, .bool a1_6, .bool a1_7, .bool a1_8, .int .u8 a1_9] 44 (0, 0)) (by (with_reducible repeat (first | refine blk_drewN ?_ _ | refine blk_drew ?_ | refine blk_alloc ?_ _)); exact BK274.out)) : gb276 ≠ gb274)); clear BK274; clear HB; have BK274 := n0_; have HB := n1_; have BK276 := n2_; have GW276 := n3_; have GE276 := n4_; have NB274_276 := n5_; have NB276_274 := n6_; clear n0_ n1_ n2_ n3_ n4_ n5_ n6_; clear hb hbox hg; have hnb20 := NB276_274.out; have hnc20 := NB274_276.out; have hcz21_0 : w19.cell? ⟨gb276, 0, none⟩ = some (.int .i64 0) := (blk_cell BK276.out 0).trans rfl; have hcz21_1 : w19.cell? ⟨gb276, 1, none⟩ = some (.int .i64 0) := (blk_cell BK276.out 1).trans rfl; have hfz21_0 := blk_frozen BK276.out 0; have hfz21_1 := blk_frozen BK276.out 1))
                  go_ret2
                  exact ⟨_, by first | rfl | (simp [errW_none, errW_some] <;> rfl) | (simp [*, errW_none, errW_some] <;> rfl), by first | exact Kd.R_nil _ _ _ _ _ | exact Kd.N_nil _ _ _ _ _ | exact Kd.V_nil _ _ _ _ _ | exact Kd.Q_nil _ _ _ _ _ | exact Kd.S_nil _ _ _ _ _, by repeat (first | (with_reducible first | exact HB.out | apply below_alloc | apply pw_below_drewN | apply below_drew1 | refine below_set ?_ GE274.out | refine below_set ?_ GE276.out) | exact HB.out)⟩
                · rw [if_neg c18] at H
                  have c18b0 : decide (1048576 < ((rd_T37 l0 x6_1).f1)) = false := decide_eq_false c18
                  clear c18
                  have H' := Aside0.mk H
                  clear H
                  have p275 : 0 ≤ (x6_1 : Int) := of_decide_eq_true (by first | (with_reducible assumption) | assumption)
                  have q275 : x6_1 < (l0.length : Int) := of_decide_eq_true (by first | (with_reducible assumption) | assumption)
                  obtain ⟨ad275, e275, hx275_0, hx275_1⟩ := at_T37 HR0.out x6_1 p275 q275
                  cases e275
                  replace hx275_0 := (HB.out.cell (World.block_lt_of_cell? w _ hx275_0)).trans hx275_0
                  replace hx275_1 := (HB.out.cell (World.block_lt_of_cell? w _ hx275_1)).trans hx275_1
                  replace p275 := eq_true p275
                  replace q275 := eq_true q275
                  go_wp2_with (first | ((with_reducible refine gate_dst (N := 7) rfl ?_); refine box_event ?hg (N := 7) ?hd (cs := #[.int .i64 0, .int .i64 0]) (t := 37) ?hr ?_; (case hd => rfl); (case hg => rfl); (case hr => first | (go_simp; done) | (go_simp; rfl)); intro gb276 hg w22 hbox hb; have n0_ := Aside0.mk (blk_below (g := gb274) (o := .cells #[.int .i64 a1_0, .int .u16 a1_1, .bool a1_2, .bool a1_3, .bool a1_4, .bool a1_5, .bool a1_6, .bool a1_7, .bool a1_8, .int .u8 a1_9] 44 (0, 0)) (by (with_reducible repeat (first | refine blk_drewN ?_ _ | refine blk_drew ?_ | refine blk_alloc ?_ _)); exact BK274.out) hb); have n1_ := Aside0.mk (below_step (by repeat (first | (with_reducible first | exact HB.out | apply below_alloc | apply pw_below_drewN | apply below_drew1 | refine below_set ?_ GE274.out) | exact HB.out)) hb); have n2_ := Aside0.mk (hbox); have n3_ := Aside0.mk ((by rw [hg]; exact (below_size (by repeat (first | (with_reducible first | exact HB.out | apply below_alloc | apply pw_below_drewN | apply below_drew1 | refine below_set ?_ GE274.out) | exact HB.out))) : w.heap.size ≤ gb276)); have n4_ := Aside0.mk ((by rw [hg]; exact (below_size (by repeat (first | (with_reducible first | exact HB.out | apply below_alloc | apply pw_below_drewN | apply below_drew1 | refine below_set ?_ GE274.out) | exact HB.out))) : w.heap.size ≤ gb276)); have n5_ := Aside0.mk ((by rw [hg]; exact Nat.ne_of_lt (blk_lt (g := gb274) (o := .cells #[.int .i64 a1_0, .int .u16 a1_1, .bool a1_2, .bool a1_3, .bool a1_4, .bool a1_5, .bool a1_6, .bool a1_7, .bool a1_8, .int .u8 a1_9] 44 (0, 0)) (by (with_reducible repeat (first | refine blk_drewN ?_ _ | refine blk_drew ?_ | refine blk_alloc ?_ _)); exact BK274.out)) : gb274 ≠ gb276)); have n6_ := Aside0.mk ((by rw [hg]; exact Nat.ne_of_gt (blk_lt (g := gb274) (o := .cells #[.int .i64 a1_0, .int .u16 a1_1, .bool a1_2, .bool a1_3, .bool a1_4, .bool a1_5, .bool a1_6, .bool a1_7, .bool a1_8, .int .u8 a1_9] 44 (0, 0)) (by (with_reducible repeat (first | refine blk_drewN ?_ _ | refine blk_drew ?_ | refine blk_alloc ?_ _)); exact BK274.out)) : gb276 ≠ gb274)); clear BK274; clear HB; have BK274 := n0_; have HB := n1_; have BK276 := n2_; have GW276 := n3_; have GE276 := n4_; have NB274_276 := n5_; have NB276_274 := n6_; clear n0_ n1_ n2_ n3_ n4_ n5_ n6_; clear hb hbox hg; have hnb23 := NB276_274.out; have hnc23 := NB274_276.out; have hcz24_0 : w22.cell? ⟨gb276, 0, none⟩ = some (.int .i64 0) := (blk_cell BK276.out 0).trans rfl; have hcz24_1 : w22.cell? ⟨gb276, 1, none⟩ = some (.int .i64 0) := (blk_cell BK276.out 1).trans rfl; have hfz24_0 := blk_frozen BK276.out 0; have hfz24_1 := blk_frozen BK276.out 1))
                  go_roundg k1
                  case measure => have := HK1.out; omega
                  case rel => exact ⟨(wrap64 (x6_1 + 1)), (by first | rfl | (simp; done) | (simp [*]; done)), H', ⟨by have := HK1.out; omega⟩, ⟨by (with_reducible repeat (first | refine blk_drewN ?_ _ | refine blk_drew ?_ | refine blk_alloc ?_ _)); refine blk_far ?_ NB274_276.out _; (with_reducible repeat (first | refine blk_drewN ?_ _ | refine blk_drew ?_ | refine blk_alloc ?_ _)); refine blk_far ?_ NB274_276.out _; (with_reducible repeat (first | refine blk_drewN ?_ _ | refine blk_drew ?_ | refine blk_alloc ?_ _)); exact BK274.out⟩, ⟨by repeat (first | (with_reducible first | exact HB.out | apply below_alloc | apply pw_below_drewN | apply below_drew1 | refine below_set ?_ GE274.out | refine below_set ?_ GE276.out) | exact HB.out)⟩⟩
        · rw [if_neg c5] at H
          exact absurd H (by simp)
      · rw [if_neg c4] at H
        have c4b0 : decide (x6_1 < (l0.length : Int)) = false := decide_eq_false c4
        clear c4
        by_cases c25 : (l0.length : Int) > 2048
        · rw [if_pos c25] at H
          have c25b0 : decide (2048 < (l0.length : Int)) = true := decide_eq_true c25
          have c25b1 : decide (2048 < l0.length) = true := decide_eq_true (by omega)
          clear c25
          simp only [Option.some.injEq, Prod.mk.injEq] at H
          obtain ⟨rfl, rfl⟩ := H
          go_wp2
          go_ret2
          exact ⟨_, by first | rfl | (simp [errW_none, errW_some] <;> rfl) | (simp [*, errW_none, errW_some] <;> rfl), by first | exact Kd.R_nil _ _ _ _ _ | exact Kd.N_nil _ _ _ _ _ | exact Kd.V_nil _ _ _ _ _ | exact Kd.Q_nil _ _ _ _ _ | exact Kd.S_nil _ _ _ _ _, by repeat (first | (with_reducible first | exact HB.out | apply below_alloc | apply pw_below_drewN | apply below_drew1 | refine below_set ?_ GE274.out) | exact HB.out)⟩
        · rw [if_neg c25] at H
          have c25b0 : decide (2048 < (l0.length : Int)) = false := decide_eq_false c25
          have c25b1 : decide (2048 < l0.length) = false := decide_eq_false (by omega)
          clear c25
          have H' := Aside0.mk H
          clear H
          go_wp2
          go_loopg [8, 9] k1 (fun kq v8 v9 w' => ∃ (x8_2 : List (S44)) (x9_2 : Int), v9 = .int .i64 x9_2 ∧ Aside0 (vesperref12_Spans.l1 kq l0 x8_2 x9_2 a1_0 a1_1 a1_2 a1_3 a1_4 a1_5 a1_6 a1_7 a1_8 a1_9 = some (r1, r2)) ∧ Aside0 (kq ≤ k1) ∧ Aside0 (Kd.R k44 44 w' w.heap.size (fun k_ => k_ ≠ gb274) v8 x8_2) ∧ Aside0 (w'.heap[gb274]? = some (.cells #[.int .i64 a1_0, .int .u16 a1_1, .bool a1_2, .bool a1_3, .bool a1_4, .bool a1_5, .bool a1_6, .bool a1_7, .bool a1_8, .int .u8 a1_9] 44 (0, 0))) ∧ Aside0 (Below w.heap.size w w'))
          case atStart => exact ⟨(([] : List (S44))), (0), (by first | rfl | (simp; done) | (simp [*]; done)), H', ⟨Nat.le_refl _⟩, ⟨by first | exact Kd.R_nil _ _ _ _ _ | exact Kd.N_nil _ _ _ _ _ | exact Kd.V_nil _ _ _ _ _ | exact Kd.Q_nil _ _ _ _ _ | exact Kd.S_nil _ _ _ _ _⟩, ⟨by (with_reducible repeat (first | refine blk_drewN ?_ _ | refine blk_drew ?_ | refine blk_alloc ?_ _)); exact BK274.out⟩, ⟨by repeat (first | (with_reducible first | exact HB.out | apply below_alloc | apply pw_below_drewN | apply below_drew1 | refine below_set ?_ GE274.out) | exact HB.out)⟩⟩
          case round =>
            clear H'
            try clear c1
            try clear c2
            try clear p2
            try clear q2
            try clear hx2
            try clear c4
            try clear c4b0
            try clear c5
            try clear c5b0
            try clear c6
            try clear c6b0
            try clear p6
            try clear c8
            try clear c10
            try clear c10b0
            try clear c12
            try clear c14
            try clear c14b0
            try clear c16
            try clear c18
            try clear c18b0
            try clear c20
            try clear c21
            try clear c23
            try clear c25
            try clear c25b0
            try clear c25b1
            try clear hcz13_0
            try clear hcz13_1
            try clear hcz17_0
            try clear hcz17_1
            try clear hcz21_0
            try clear hcz21_1
            try clear hcz24_0
            try clear hcz24_1
            try clear hcz9_0
            try clear hcz9_1
            try clear hfz13_0
            try clear hfz13_1
            try clear hfz17_0
            try clear hfz17_1
            try clear hfz21_0
            try clear hfz21_1
            try clear hfz24_0
            try clear hfz24_1
            try clear hfz9_0
            try clear hfz9_1
            try clear hx275_0
            try clear hx275_1
            try clear p2
            try clear p275
            try clear q275
            obtain ⟨x8_2, x9_2, rfl, HA, HK2, HO_8, BK274, HB⟩ := hrel
            cases gk with
            | zero => exact absurd HA.out (by simp [vesperref12_Spans.l1])
            | succ k2 =>
              have H := HA.out
              clear HA
              simp only [vesperref12_Spans.l1] at H
              by_cases c26 : x9_2 < (l0.length : Int)
              · rw [if_pos c26] at H
                have c26b0 : decide (x9_2 < (l0.length : Int)) = true := decide_eq_true c26
                clear c26
                by_cases c27 : 0 ≤ x9_2
                · rw [if_pos c27] at H
                  have c27b0 : decide (0 ≤ x9_2) = true := decide_eq_true c27
                  clear c27
                  obtain ⟨y281, hy281⟩ : ∃ y_ : List (S44), y_ = (([(⟨(rd_T37 l0 x9_2).f0, a1_1, true, a1_3, a1_4, a1_5, a1_6, a1_7, a1_8, a1_9⟩ : S44), (⟨(rd_T37 l0 x9_2).f1, a1_1, false, a1_3, a1_4, a1_5, a1_6, a1_7, a1_8, a1_9⟩ : S44)] : List (S44))) := ⟨_, rfl⟩
                  replace H : (if x8_2.length + y281.length < 5864062014805 then (vesperref12_Spans.l1 k2 l0 (x8_2 ++ y281) (wrap64 (x9_2 + 1)) a1_0 a1_1 a1_2 a1_3 a1_4 a1_5 a1_6 a1_7 a1_8 a1_9) else (none)) = some (r1, r2) := by first | (rw [hy281]; with_reducible exact H) | (have H2_ := (Option.bind_some _ _).symm.trans H; rw [hy281]; with_reducible exact H2_) | (have H2_ := (Option.bind_some _ _).symm.trans H; with_reducible exact H2_) | with_reducible exact H | (rw [hy281]; exact H) | exact H
                  have Ny281 := Aside0.mk hy281
                  clear hy281
                  by_cases c28 : x8_2.length + y281.length < 5864062014805
                  · rw [if_pos c28] at H
                    have LMc28 := Aside0.mk c28
                    clear c28
                    obtain ⟨y284, hy284⟩ : ∃ y_ : List (S44), y_ = (x8_2 ++ y281) := ⟨_, rfl⟩
                    replace H : (vesperref12_Spans.l1 k2 l0 y284 (wrap64 (x9_2 + 1)) a1_0 a1_1 a1_2 a1_3 a1_4 a1_5 a1_6 a1_7 a1_8 a1_9) = some (r1, r2) := by first | (rw [hy284]; with_reducible exact H) | (have H2_ := (Option.bind_some _ _).symm.trans H; rw [hy284]; with_reducible exact H2_) | (have H2_ := (Option.bind_some _ _).symm.trans H; with_reducible exact H2_) | with_reducible exact H | (rw [hy284]; exact H) | exact H
                    have Ny284 := Aside0.mk hy284
                    clear hy284
                    have H' := Aside0.mk H
                    clear H
                    have hcz29_0 : wr.cell? ⟨gb274, 0, none⟩ = some (.int .i64 a1_0) := (blk_cell BK274.out 0).trans rfl
                    have hcz29_1 : wr.cell? ⟨gb274, 1, none⟩ = some (.int .u16 a1_1) := (blk_cell BK274.out 1).trans rfl
                    have hcz29_2 : wr.cell? ⟨gb274, 2, none⟩ = some (.bool a1_2) := (blk_cell BK274.out 2).trans rfl
                    have hcz29_3 : wr.cell? ⟨gb274, 3, none⟩ = some (.bool a1_3) := (blk_cell BK274.out 3).trans rfl
                    have hcz29_4 : wr.cell? ⟨gb274, 4, none⟩ = some (.bool a1_4) := (blk_cell BK274.out 4).trans rfl
                    have hcz29_5 : wr.cell? ⟨gb274, 5, none⟩ = some (.bool a1_5) := (blk_cell BK274.out 5).trans rfl
                    have hcz29_6 : wr.cell? ⟨gb274, 6, none⟩ = some (.bool a1_6) := (blk_cell BK274.out 6).trans rfl
                    have hcz29_7 : wr.cell? ⟨gb274, 7, none⟩ = some (.bool a1_7) := (blk_cell BK274.out 7).trans rfl
                    have hcz29_8 : wr.cell? ⟨gb274, 8, none⟩ = some (.bool a1_8) := (blk_cell BK274.out 8).trans rfl
                    have hcz29_9 : wr.cell? ⟨gb274, 9, none⟩ = some (.int .u8 a1_9) := (blk_cell BK274.out 9).trans rfl
                    have hfz29_0 := blk_frozen BK274.out 0
                    have hfz29_1 := blk_frozen BK274.out 1
                    have hfz29_2 := blk_frozen BK274.out 2
                    have hfz29_3 := blk_frozen BK274.out 3
                    have hfz29_4 := blk_frozen BK274.out 4
                    have hfz29_5 := blk_frozen BK274.out 5
                    have hfz29_6 := blk_frozen BK274.out 6
                    have hfz29_7 := blk_frozen BK274.out 7
                    have hfz29_8 := blk_frozen BK274.out 8
                    have hfz29_9 := blk_frozen BK274.out 9
                    have ht : decide ((0 : Int) ≤ x9_2) = true := c27b0
                    have p29 : 0 ≤ (x9_2 : Int) := of_decide_eq_true c27b0
                    have q29 : x9_2 < (l0.length : Int) := of_decide_eq_true c26b0
                    obtain ⟨ad29, e29, hx29_0, hx29_1⟩ := at_T37 HR0.out x9_2 p29 q29
                    cases e29
                    replace hx29_0 := (HB.out.cell (World.block_lt_of_cell? w _ hx29_0)).trans hx29_0
                    replace hx29_1 := (HB.out.cell (World.block_lt_of_cell? w _ hx29_1)).trans hx29_1
                    replace p29 := eq_true p29
                    replace q29 := eq_true q29
                    have n29_0 := World.new_ne _ _ hx29_0
                    have n29_1 := World.new_ne _ _ hx29_1
                    have n29_2 := World.new_ne _ _ hcz29_0
                    have b29_0 := World.block_lt_of_cell? _ _ hx29_0
                    have b29_1 := World.block_lt_of_cell? _ _ hx29_1
                    have b29_2 := World.block_lt_of_cell? _ _ hcz29_0
                    obtain ⟨gq, cq, wq, hrun, hRq, hGq, hatq⟩ := app44 (W := (wr.alloc (.cells #[.int .i64 (rd_T37 l0 x9_2).f0, .int .u16 a1_1, .bool true, .bool a1_3, .bool a1_4, .bool a1_5, .bool a1_6, .bool a1_7, .bool a1_8, .int .u8 a1_9] 44)).alloc (.cells #[.int .i64 (rd_T37 l0 x9_2).f1, .int .u16 a1_1, .bool false, .bool a1_3, .bool a1_4, .bool a1_5, .bool a1_6, .bool a1_7, .bool a1_8, .int .u8 a1_9] 44)) w.heap.size u8 x8_2 [(⟨(rd_T37 l0 x9_2).f0, a1_1, true, a1_3, a1_4, a1_5, a1_6, a1_7, a1_8, a1_9⟩ : S44), (⟨(rd_T37 l0 x9_2).f1, a1_1, false, a1_3, a1_4, a1_5, a1_6, a1_7, a1_8, a1_9⟩ : S44)] _ 2 rfl (two44 _ _ _) (fun k_ => k_ ≠ gb274) (fun k hk => by simp at hk; have := b29_2; simp only at this; omega) (Kd.R_alloc (Kd.R_alloc HO_8.out _) _) (by have := HB.out.size; simp; omega) (by have := LMc28.out; rw [Ny281.out] at this; exact this) (by decide) (wr.heap.size + 1 + 1) (by simp)
                    simp only at hrun
                    have HRQ := Aside0.mk hRq
                    have hbq : gb274 < wr.heap.size := b29_2
                    have BKQ := Aside0.mk (show wq.heap[gb274]? = some (.cells #[.int .i64 a1_0, .int .u16 a1_1, .bool a1_2, .bool a1_3, .bool a1_4, .bool a1_5, .bool a1_6, .bool a1_7, .bool a1_8, .int .u8 a1_9] 44 (0, 0)) by
                      rw [hGq.block gb274 (by simp; omega) (fun e => HO_8.out.1 gb274 e.symm rfl)]
                      exact blk_alloc (blk_alloc BK274.out _) _)
                    have HBQ := Aside0.mk ((below_alloc (below_alloc HB.out _) _).grown hGq (by have := HB.out.size; simp; omega) (Kd.R_base HO_8.out))
                    clear hRq hGq hatq hbq
                    go_wp2
                    go_roundg k2
                    case measure => have := HK1.out; have := HK2.out; omega
                    case rel => exact ⟨y284, wrap64 (x9_2 + 1), by first | rfl | (simp; done) | (simp [*]; done), H', ⟨by have := HK1.out; have := HK2.out; omega⟩, ⟨by rw [Ny284.out, Ny281.out]; exact HRQ.out⟩, BKQ, HBQ⟩
                  · rw [if_neg c28] at H
                    exact absurd H (by simp)
                · rw [if_neg c27] at H
                  exact absurd H (by simp)
              · rw [if_neg c26] at H
                have c26b0 : decide (x9_2 < (l0.length : Int)) = false := decide_eq_false c26
                clear c26
                replace H := Option.bind_eq_some_iff.mp H
                obtain ⟨t287, A430, H⟩ := H
                replace H : (if t287 = 0 then (some (x8_2, 0)) else (some (([] : List (S44)), t287))) = some (r1, r2) := H
                have A43 := Aside0.mk A430
                clear A430
                by_cases c44 : t287 = 0
                · rw [if_pos c44] at H
                  have c44b0 : (t287 == 0) = true := beq_iff_eq.mpr c44
                  have c44b1 : (t287 != 0) = false := bne_eq_false_iff_eq.mpr c44
                  clear c44
                  simp only [Option.some.injEq, Prod.mk.injEq] at H
                  obtain ⟨rfl, rfl⟩ := H
                  obtain ⟨Ao45, co45, eo45⟩ := Kd.R_slice HO_8.out
                  subst eo45
                  go_wp2_with (first | ((with_reducible refine gate_callee (f := 31) rfl ?_); refine goesL_ (some 72) rfl rfl Tryd.func31 (by kernel_rfl) rfl #[.slice Ao45 x8_2.length co45] rfl (by (try simp only [List.map_toArray, List.map_cons, List.map_nil]); first | done | rfl | (simp only [List.length_drop, List.length_take]; rfl)) ?_; (with_reducible refine (vesperref07_Check.calls k2 _ _ x8_2 t287 _ ?side1 ?side2 A43.out).mono ?_); (case side1 => repeat (first | exact (Kd.R_reads' HO_8.out).2.2 | (with_reducible refine Kd.C_alloc ?_ _) | (with_reducible refine Kd.C_drewN ?_ _) | (with_reducible refine Kd.C_drew ?_))); (case side2 => exact (Kd.R_reads' HO_8.out).2.1); rintro e w' ⟨rfl, ⟨nd, rfl⟩⟩; refine ⟨_, rfl, ?_⟩))
                  go_ret2
                  exact ⟨_, by first | rfl | (simp [errW_none, errW_some] <;> rfl) | (simp [*, errW_none, errW_some] <;> rfl), by (with_reducible repeat (first | apply Kd.R_alloc | apply Kd.R_drewN | apply Kd.R_drew)); exact Kd.R_mono HO_8.out (fun _ hk => trivial), by repeat (first | (with_reducible first | exact HB.out | apply below_alloc | apply pw_below_drewN | apply below_drew1 | refine below_set ?_ GE274.out) | exact HB.out)⟩
                · rw [if_neg c44] at H
                  have c44b0 : (t287 == 0) = false := beq_eq_false_iff_ne.mpr c44
                  have c44b1 : (t287 != 0) = true := bne_iff_ne.mpr c44
                  simp only [Option.some.injEq, Prod.mk.injEq] at H
                  obtain ⟨rfl, rfl⟩ := H
                  obtain ⟨Ao46, co46, eo46⟩ := Kd.R_slice HO_8.out
                  subst eo46
                  go_wp2_with (first | ((with_reducible refine gate_callee (f := 31) rfl ?_); refine goesL_ (some 72) rfl rfl Tryd.func31 (by kernel_rfl) rfl #[.slice Ao46 x8_2.length co46] rfl (by (try simp only [List.map_toArray, List.map_cons, List.map_nil]); first | done | rfl | (simp only [List.length_drop, List.length_take]; rfl)) ?_; (with_reducible refine (vesperref07_Check.calls k2 _ _ x8_2 t287 _ ?side1 ?side2 A43.out).mono ?_); (case side1 => repeat (first | exact (Kd.R_reads' HO_8.out).2.2 | (with_reducible refine Kd.C_alloc ?_ _) | (with_reducible refine Kd.C_drewN ?_ _) | (with_reducible refine Kd.C_drew ?_))); (case side2 => exact (Kd.R_reads' HO_8.out).2.1); rintro e w' ⟨rfl, ⟨nd, rfl⟩⟩; refine ⟨_, rfl, ?_⟩))
                  go_ret2
                  exact ⟨_, by first | rfl | (simp [errW_none, errW_some] <;> rfl) | (simp [*, errW_none, errW_some] <;> rfl), by first | exact Kd.R_nil _ _ _ _ _ | exact Kd.N_nil _ _ _ _ _ | exact Kd.V_nil _ _ _ _ _ | exact Kd.Q_nil _ _ _ _ _ | exact Kd.S_nil _ _ _ _ _, by repeat (first | (with_reducible first | exact HB.out | apply below_alloc | apply pw_below_drewN | apply below_drew1 | refine below_set ?_ GE274.out) | exact HB.out)⟩

end Go.Proofs.YtdibgdiiamcmfaaDoor.PTape
