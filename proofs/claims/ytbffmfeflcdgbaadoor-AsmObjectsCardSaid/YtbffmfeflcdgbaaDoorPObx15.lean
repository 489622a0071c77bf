/- Written by a program of this session (gprint.py, over the kit's printer): functions of the seat YtbffmfeflcdgbaaDoor and their contracts. No condition but each contract's own. -/
import Derived.Test.YtbffmfeflcdgbaaDoorPObx0
namespace Go.Proofs.YtbffmfeflcdgbaaDoor.POb
open Go.RowKit Go.Proofs.YtbffmfeflcdgbaaDoorW.PrintWords Go.Proofs.YtbffmfeflcdgbaaDoorW.PrintLast Go.Proofs.YtbffmfeflcdgbaaDoorW.PrintMore
attribute [local go_sem] max2_int min2_int max_two min_two max_three min_three max_four min_four   -- for this text's walks alone
set_option linter.unusedVariables false
set_option linter.unusedSimpArgs false

/-! ### vesperref14_Find: function 10 -/
def vesperref14_Find.l0 : Nat → ByteArray → Int → List (S42) → List (S52) → List (S47) → Option (Int × Bool)
 | 0, _, _, _, _, _ => none
 | k + 1, x1, x6, x286000, x286001, x286002 => if x6 < (x286002.length : Int) then (if 0 ≤ x6 then (if ((rd_T47 x286002 x6).f0).toList = x1.toList then (some ((rd_T47 x286002 x6).f1, true)) else (vesperref14_Find.l0 k x1 (wrap64 (x6 + 1)) x286000 x286001 x286002)) else (none)) else (some (0, false))
def vesperref14_Find.f (k : Nat) (l0_0 : List (S42)) (l0_1 : List (S52)) (l0_2 : List (S47)) (a1 : ByteArray) : Option (Int × Bool) := vesperref14_Find.l0 k a1 0 l0_0 l0_1 l0_2
theorem vesperref14_Find.mono_l : ∀ k, (∀ y0 y1 y2 y3 y4, LeO (vesperref14_Find.l0 k y0 y1 y2 y3 y4) (vesperref14_Find.l0 (k + 1) y0 y1 y2 y3 y4))
 | 0 => fun _ _ _ _ _ r h => by simp [vesperref14_Find.l0] at h
 | k + 1 => by
  have ih0 := vesperref14_Find.mono_l k
  intro y0 y1 y2 y3 y4
  unfold vesperref14_Find.l0
  repeat' first
  | (with_reducible exact ih0 _ _ _ _ _)
  | (with_reducible exact LeO.refl _)
  | (with_reducible exact LeO.none _)
  | (with_reducible refine LeO.ite ?_ ?_)
  | (with_reducible refine LeO.bind ?_ (fun _ => ?_))
  | exact ih0 _ _ _ _ _
  | exact LeO.none _
  | refine LeO.ite ?_ ?_
  | refine LeO.bind ?_ (fun _ => ?_)
theorem vesperref14_Find.mono : ∀ a0 a1 a2 a3 k, LeO (vesperref14_Find.f k a0 a1 a2 a3) (vesperref14_Find.f (k + 1) a0 a1 a2 a3) := by
 intro a0 a1 a2 a3 k
 have ih0 := vesperref14_Find.mono_l k
 unfold vesperref14_Find.f
 repeat' first
  | (with_reducible exact ih0 _ _ _ _ _)
  | (with_reducible exact LeO.refl _)
  | (with_reducible exact LeO.none _)
  | (with_reducible refine LeO.ite ?_ ?_)
  | (with_reducible refine LeO.bind ?_ (fun _ => ?_))
  | exact ih0 _ _ _ _ _
  | exact LeO.none _
  | refine LeO.ite ?_ ?_
  | refine LeO.bind ?_ (fun _ => ?_)
set_option maxHeartbeats 8000000 in
set_option maxRecDepth 100000 in
theorem vesperref14_Find.calls (k : Nat) (A0_0 : Option Addr) (c0_0 : Nat) (l0_0 : List (S42)) (A0_1 : Option Addr) (c0_1 : Nat) (l0_1 : List (S52)) (A0_2 : Option Addr) (c0_2 : Nat) (l0_2 : List (S47)) (a1 : ByteArray) (r1 : Int) (r2 : Bool) (w : World) (hr0_0 : Kd.C k42 w A0_0 l0_0.length l0_0) (hc0_0 : l0_0.length ≤ c0_0) (hr0_1 : Kd.C k52 w A0_1 l0_1.length l0_1) (hc0_1 : l0_1.length ≤ c0_1) (hr0_2 : Kd.C k47 w A0_2 l0_2.length l0_2) (hc0_2 : l0_2.length ≤ c0_2) (h : vesperref14_Find.f k l0_0 l0_1 l0_2 a1 = some (r1, r2)) :
 Calls Tryd.prog 10 #[.agg #[.slice A0_0 l0_0.length c0_0, .slice A0_1 l0_1.length c0_1, .slice A0_2 l0_2.length c0_2], .string a1] w fun e w' => e = .returned (.tuple #[.int .i64 r1, .bool r2]) ∧ Below w.heap.size w w' := by
 have hu26 := Tryd.underlying26
 have HR0_0 := Aside0.mk hr0_0
 have HC0_0 := Aside0.mk hc0_0
 clear hr0_0 hc0_0
 have HR0_1 := Aside0.mk hr0_1
 have HC0_1 := Aside0.mk hc0_1
 clear hr0_1 hc0_1
 have HR0_2 := Aside0.mk hr0_2
 have HC0_2 := Aside0.mk hc0_2
 clear hr0_2 hc0_2
 have HB := Aside0.mk (Below.refl w.heap.size w)
 have H : (vesperref14_Find.l0 k a1 0 l0_0 l0_1 l0_2) = some (r1, r2) := h
 clear h
 have H' := Aside0.mk H
 clear H
 go_enter Tryd.func10, Tryd.ntmps10
 go_wp2_with (first | ((with_reducible refine gate_dst (N := 2) rfl ?_); refine box_event ?hg (N := 2) ?hd (cs := #[.slice A0_0 l0_0.length c0_0, .slice A0_1 l0_1.length c0_1, .slice A0_2 l0_2.length c0_2]) (t := 26) ?hr ?_; (case hd => rfl); (case hg => rfl); (case hr => first | (go_simp; done) | (go_simp; rfl)); intro gb285 hg w3 hbox hb; have n0_ := Aside0.mk (below_step bw hb); have n1_ := Aside0.mk (hbox); have n2_ := Aside0.mk (bz hg : w.heap.size ≤ gb285); have n3_ := Aside0.mk (bz hg : w.heap.size ≤ gb285); clear HB; have HB := n0_; have BK285 := n1_; have GW285 := n2_; have GE285 := n3_; clear n0_ n1_ n2_ n3_; clear hb hbox hg))
 go_loopg [6] k (fun kq v6 w' => ∃ (x6_1 : Int), v6 = .int .i64 x6_1 ∧ Aside0 (vesperref14_Find.l0 kq a1 x6_1 l0_0 l0_1 l0_2 = some (r1, r2)) ∧ Aside0 (kq ≤ k) ∧ Aside0 (w'.heap[gb285]? = some (.cells #[(.slice A0_0 l0_0.length c0_0), (.slice A0_1 l0_1.length c0_1), (.slice A0_2 l0_2.length c0_2)] 26 (0, 0))) ∧ Aside0 (Below w.heap.size w w'))
 case atStart => exact ⟨(0), rs, H', ⟨Nat.le_refl _⟩, ⟨by (with_reducible repeat (first | refine blk_drewN ?_ _ | refine blk_drew ?_ | refine blk_alloc ?_ _)); exact BK285.out⟩, ⟨bw⟩⟩
 case round =>
  clear H'
  obtain ⟨x6_1, rfl, HA, HK1, BK285, HB⟩ := hrel
  cases gk with
  | zero => exact absurd HA.out (by simp [vesperref14_Find.l0])
  | succ k1 =>
   have H := HA.out
   clear HA
   simp only [vesperref14_Find.l0] at H
   by_cases c4 : x6_1 < (l0_2.length : Int)
   ·rw [if_pos c4] at H
    have c4b0 : decide (x6_1 < (l0_2.length : Int)) = true := decide_eq_true c4
    clear c4
    by_cases c5 : 0 ≤ x6_1
    ·rw [if_pos c5] at H
     have c5b0 : decide (0 ≤ x6_1) = true := decide_eq_true c5
     clear c5
     by_cases c6 : ((rd_T47 l0_2 x6_1).f0).toList = a1.toList
     ·rw [if_pos c6] at H
      have c6b0 : (((rd_T47 l0_2 x6_1).f0).toList == a1.toList) = true := beq_iff_eq.mpr c6
      have c6b1 : (((rd_T47 l0_2 x6_1).f0).toList != a1.toList) = false := bne_eq_false_iff_eq.mpr c6
      clear c6
      simp only [Option.some.injEq, Prod.mk.injEq] at H
      obtain ⟨rfl, rfl⟩ := H
      have hcz7_0 : wr.cell? ⟨gb285, 0, none⟩ = some (.slice A0_0 l0_0.length c0_0) := (blk_cell BK285.out 0).trans rfl
      have hcz7_1 : wr.cell? ⟨gb285, 1, none⟩ = some (.slice A0_1 l0_1.length c0_1) := (blk_cell BK285.out 1).trans rfl
      have hcz7_2 : wr.cell? ⟨gb285, 2, none⟩ = some (.slice A0_2 l0_2.length c0_2) := (blk_cell BK285.out 2).trans rfl
      have hfz7_0 := blk_frozen BK285.out 0
      have hfz7_1 := blk_frozen BK285.out 1
      have hfz7_2 := blk_frozen BK285.out 2
      have p286 : 0 ≤ (x6_1 : Int) := oda
      have q286 : x6_1 < (l0_2.length : Int) := oda
      obtain ⟨ad286, e286, hx286_0, hx286_1⟩ := at_T47 HR0_2.out x6_1 p286 q286
      cases e286
      replace hx286_0 := up_ HB hx286_0
      replace hx286_1 := up_ HB hx286_1
      replace p286 := eq_true p286
      replace q286 := eq_true q286
      have p287 : 0 ≤ (x6_1 : Int) := oda
      have q287 : x6_1 < (l0_2.length : Int) := oda
      obtain ⟨ad287, e287, hx287_0, hx287_1⟩ := at_T47 HR0_2.out x6_1 p287 q287
      obtain rfl : ad286 = ad287 := (by injection e287)
      replace hx287_0 := up_ HB hx287_0
      replace hx287_1 := up_ HB hx287_1
      replace p287 := eq_true p287
      replace q287 := eq_true q287
      go_wp2
      go_ret2
      exact ⟨ew, bw⟩
     rw [if_neg c6] at H
     have c6b0 : (((rd_T47 l0_2 x6_1).f0).toList == a1.toList) = false := beq_eq_false_iff_ne.mpr c6
     have c6b1 : (((rd_T47 l0_2 x6_1).f0).toList != a1.toList) = true := bne_iff_ne.mpr c6
     have H' := Aside0.mk H
     clear H
     have hcz8_0 : wr.cell? ⟨gb285, 0, none⟩ = some (.slice A0_0 l0_0.length c0_0) := (blk_cell BK285.out 0).trans rfl
     have hcz8_1 : wr.cell? ⟨gb285, 1, none⟩ = some (.slice A0_1 l0_1.length c0_1) := (blk_cell BK285.out 1).trans rfl
     have hcz8_2 : wr.cell? ⟨gb285, 2, none⟩ = some (.slice A0_2 l0_2.length c0_2) := (blk_cell BK285.out 2).trans rfl
     have hfz8_0 := blk_frozen BK285.out 0
     have hfz8_1 := blk_frozen BK285.out 1
     have hfz8_2 := blk_frozen BK285.out 2
     have p286 : 0 ≤ (x6_1 : Int) := oda
     have q286 : x6_1 < (l0_2.length : Int) := oda
     obtain ⟨ad286, e286, hx286_0, hx286_1⟩ := at_T47 HR0_2.out x6_1 p286 q286
     cases e286
     replace hx286_0 := up_ HB hx286_0
     replace hx286_1 := up_ HB hx286_1
     replace p286 := eq_true p286
     replace q286 := eq_true q286
     go_wp2
     go_roundg k1
     case measure => have := HK1.out; omega
     case rel => exact ⟨(wrap64 (x6_1 + 1)), rs, H', ⟨by have := HK1.out; omega⟩, ⟨by (with_reducible repeat (first | refine blk_drewN ?_ _ | refine blk_drew ?_ | refine blk_alloc ?_ _)); exact BK285.out⟩, ⟨bw⟩⟩
    rw [if_neg c5] at H
    exact absurd H (by simp)
   rw [if_neg c4] at H
   have c4b0 : decide (x6_1 < (l0_2.length : Int)) = false := decide_eq_false c4
   clear c4
   simp only [Option.some.injEq, Prod.mk.injEq] at H
   obtain ⟨rfl, rfl⟩ := H
   have hcz9_0 : wr.cell? ⟨gb285, 0, none⟩ = some (.slice A0_0 l0_0.length c0_0) := (blk_cell BK285.out 0).trans rfl
   have hcz9_1 : wr.cell? ⟨gb285, 1, none⟩ = some (.slice A0_1 l0_1.length c0_1) := (blk_cell BK285.out 1).trans rfl
   have hcz9_2 : wr.cell? ⟨gb285, 2, none⟩ = some (.slice A0_2 l0_2.length c0_2) := (blk_cell BK285.out 2).trans rfl
   have hfz9_0 := blk_frozen BK285.out 0
   have hfz9_1 := blk_frozen BK285.out 1
   have hfz9_2 := blk_frozen BK285.out 2
   go_wp2
   go_ret2
   exact ⟨ew, bw⟩

/-! ### vesperlaw14_same: function 12 -/
def vesperlaw14_same.l0 : Nat → List Int → List Int → Int → Option (Bool)
 | 0, _, _, _ => none
 | k + 1, x0, x1, x5 => if x5 < (x0.length : Int) then (if 0 ≤ x5 then (if x5 < (x1.length : Int) then (if (rd x0 x5) = (rd x1 x5) then (vesperlaw14_same.l0 k x0 x1 (wrap64 (x5 + 1))) else (some false)) else (none)) else (none)) else (some true)
def vesperlaw14_same.f (k : Nat) (l0 : List Int) (l1 : List Int) : Option (Bool) := if (l0.length : Int) = (l1.length : Int) then (vesperlaw14_same.l0 k l0 l1 0) else (some false)
theorem vesperlaw14_same.mono_l : ∀ k, (∀ y0 y1 y2, LeO (vesperlaw14_same.l0 k y0 y1 y2) (vesperlaw14_same.l0 (k + 1) y0 y1 y2))
 | 0 => fun _ _ _ r h => by simp [vesperlaw14_same.l0] at h
 | k + 1 => by
  have ih0 := vesperlaw14_same.mono_l k
  intro y0 y1 y2
  unfold vesperlaw14_same.l0
  repeat' first
  | (with_reducible exact ih0 _ _ _)
  | (with_reducible exact LeO.refl _)
  | (with_reducible exact LeO.none _)
  | (with_reducible refine LeO.ite ?_ ?_)
  | (with_reducible refine LeO.bind ?_ (fun _ => ?_))
  | exact ih0 _ _ _
  | exact LeO.none _
  | refine LeO.ite ?_ ?_
  | refine LeO.bind ?_ (fun _ => ?_)
theorem vesperlaw14_same.mono : ∀ a0 a1 k, LeO (vesperlaw14_same.f k a0 a1) (vesperlaw14_same.f (k + 1) a0 a1) := by
 intro a0 a1 k
 have ih0 := vesperlaw14_same.mono_l k
 unfold vesperlaw14_same.f
 repeat' first
  | (with_reducible exact ih0 _ _ _)
  | (with_reducible exact LeO.refl _)
  | (with_reducible exact LeO.none _)
  | (with_reducible refine LeO.ite ?_ ?_)
  | (with_reducible refine LeO.bind ?_ (fun _ => ?_))
  | exact ih0 _ _ _
  | exact LeO.none _
  | refine LeO.ite ?_ ?_
  | refine LeO.bind ?_ (fun _ => ?_)
set_option maxHeartbeats 8000000 in
set_option maxRecDepth 100000 in
theorem vesperlaw14_same.calls (k : Nat) (A0 : Option Addr) (c0 : Nat) (l0 : List Int) (A1 : Option Addr) (c1 : Nat) (l1 : List Int) (r : Bool) (w : World) (hr0 : Kd.C (Kd.int .u8) w A0 l0.length l0) (hc0 : l0.length ≤ c0) (hr1 : Kd.C (Kd.int .u8) w A1 l1.length l1) (hc1 : l1.length ≤ c1) (h : vesperlaw14_same.f k l0 l1 = some r) :
 Calls Tryd.prog 12 #[.slice A0 l0.length c0, .slice A1 l1.length c1] w fun e w' => e = .returned (.bool r) ∧ Drawn0 w w' := by
 have HR0 := Aside0.mk hr0
 have HC0 := Aside0.mk hc0
 clear hr0 hc0
 have HR1 := Aside0.mk hr1
 have HC1 := Aside0.mk hc1
 clear hr1 hc1
 have H : (if (l0.length : Int) = (l1.length : Int) then (vesperlaw14_same.l0 k l0 l1 0) else (some false)) = some r := h
 clear h
 by_cases c3 : (l0.length : Int) = (l1.length : Int)
 ·rw [if_pos c3] at H
  have c3b0 : ((l0.length : Int) == (l1.length : Int)) = true := beq_iff_eq.mpr c3
  have c3b1 : ((l0.length : Int) != (l1.length : Int)) = false := bne_eq_false_iff_eq.mpr c3
  have c3b2 : (l0.length == l1.length) = true := by first | simpa using c3 | (simp at c3 ⊢; omega)
  clear c3
  have H' := Aside0.mk H
  clear H
  go_enter Tryd.func12, Tryd.ntmps12
  go_wp2
  repeat (go_quiet (fail); try go_wp2)
  go_loopg [5] k (fun kq v5 w' => ∃ (x5_1 : Int), v5 = .int .i64 x5_1 ∧ Aside0 (vesperlaw14_same.l0 kq l0 l1 x5_1 = some r) ∧ Aside0 (kq ≤ k) ∧ Drawn0 w w')
  case atStart => exact ⟨(0), rs, H', ⟨Nat.le_refl _⟩, by repeat (first | exact Drawn0.refl _ | apply Drawn0.step)⟩
  case round =>
   clear H'
   clear c3b0 c3b1 c3b2
   obtain ⟨x5_1, rfl, HA, HK1, ⟨m1, rfl⟩⟩ := hrel
   cases gk with
   | zero => exact absurd HA.out (by simp [vesperlaw14_same.l0])
   | succ k1 =>
    have H := HA.out
    clear HA
    simp only [vesperlaw14_same.l0] at H
    by_cases c4 : x5_1 < (l0.length : Int)
    ·rw [if_pos c4] at H
     have c4b0 : decide (x5_1 < (l0.length : Int)) = true := decide_eq_true c4
     clear c4
     by_cases c5 : 0 ≤ x5_1
     ·rw [if_pos c5] at H
      have c5b0 : decide (0 ≤ x5_1) = true := decide_eq_true c5
      clear c5
      by_cases c6 : x5_1 < (l1.length : Int)
      ·rw [if_pos c6] at H
       have c6b0 : decide (x5_1 < (l1.length : Int)) = true := decide_eq_true c6
       clear c6
       by_cases c7 : (rd l0 x5_1) = (rd l1 x5_1)
       ·rw [if_pos c7] at H
        have c7b0 : ((rd l0 x5_1) == (rd l1 x5_1)) = true := beq_iff_eq.mpr c7
        have c7b1 : ((rd l0 x5_1) != (rd l1 x5_1)) = false := bne_eq_false_iff_eq.mpr c7
        clear c7
        have H' := Aside0.mk H
        clear H
        have p288 : 0 ≤ (x5_1 : Int) := oda
        have q288 : x5_1 < (l0.length : Int) := oda
        obtain ⟨ad288, e288, hx288_0⟩ := Kd.at_int HR0.out x5_1 p288 q288
        cases e288
        replace p288 := eq_true p288
        replace q288 := eq_true q288
        have p289 : 0 ≤ (x5_1 : Int) := oda
        have q289 : x5_1 < (l1.length : Int) := oda
        obtain ⟨ad289, e289, hx289_0⟩ := Kd.at_int HR1.out x5_1 p289 q289
        cases e289
        replace p289 := eq_true p289
        replace q289 := eq_true q289
        go_wp2
        repeat (go_quiet (fail); try go_wp2)
        go_roundg k1
        case measure => have := HK1.out; omega
        case rel => exact ⟨(wrap64 (x5_1 + 1)), rs, H', ⟨by have := HK1.out; omega⟩, by repeat (first | exact Drawn0.refl _ | apply Drawn0.step)⟩
       rw [if_neg c7] at H
       have c7b0 : ((rd l0 x5_1) == (rd l1 x5_1)) = false := beq_eq_false_iff_ne.mpr c7
       have c7b1 : ((rd l0 x5_1) != (rd l1 x5_1)) = true := bne_iff_ne.mpr c7
       obtain rfl := Option.some.inj H
       have p288 : 0 ≤ (x5_1 : Int) := oda
       have q288 : x5_1 < (l0.length : Int) := oda
       obtain ⟨ad288, e288, hx288_0⟩ := Kd.at_int HR0.out x5_1 p288 q288
       cases e288
       replace p288 := eq_true p288
       replace q288 := eq_true q288
       have p289 : 0 ≤ (x5_1 : Int) := oda
       have q289 : x5_1 < (l1.length : Int) := oda
       obtain ⟨ad289, e289, hx289_0⟩ := Kd.at_int HR1.out x5_1 p289 q289
       cases e289
       replace p289 := eq_true p289
       replace q289 := eq_true q289
       go_wp2
       repeat (go_quiet (fail); try go_wp2)
       go_ret
       exact ⟨by first | rfl | (simp; done) | (simp [*]; done), by repeat (first | exact Drawn0.refl _ | apply Drawn0.step)⟩
      rw [if_neg c6] at H
      exact absurd H (by simp)
     rw [if_neg c5] at H
     exact absurd H (by simp)
    rw [if_neg c4] at H
    have c4b0 : decide (x5_1 < (l0.length : Int)) = false := decide_eq_false c4
    clear c4
    obtain rfl := Option.some.inj H
    go_wp2
    repeat (go_quiet (fail); try go_wp2)
    go_ret
    exact ⟨by first | rfl | (simp; done) | (simp [*]; done), by repeat (first | exact Drawn0.refl _ | apply Drawn0.step)⟩
 rw [if_neg c3] at H
 have c3b0 : ((l0.length : Int) == (l1.length : Int)) = false := beq_eq_false_iff_ne.mpr c3
 have c3b1 : ((l0.length : Int) != (l1.length : Int)) = true := bne_iff_ne.mpr c3
 have c3b2 : (l0.length == l1.length) = false := by first | simpa using c3 | (simp at c3 ⊢; omega)
 obtain rfl := Option.some.inj H
 go_enter Tryd.func12, Tryd.ntmps12
 go_wp2
 repeat (go_quiet (fail); try go_wp2)
 go_ret
 exact ⟨by first | rfl | (simp; done) | (simp [*]; done), by repeat (first | exact Drawn0.refl _ | apply Drawn0.step)⟩

end Go.Proofs.YtbffmfeflcdgbaaDoor.POb
