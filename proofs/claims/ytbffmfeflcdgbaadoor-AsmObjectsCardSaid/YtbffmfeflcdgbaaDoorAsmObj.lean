/- vesperlaw14.object: an object in memory of its own, with marked room behind each block's bytes. -/
import Derived.Test.YtbffmfeflcdgbaaDoorAsmReg5
set_option linter.unusedVariables false
set_option linter.unusedSimpArgs false
namespace Go.Proofs.YtbffmfeflcdgbaaDoor.Obj
open Go Go.RowKit
open Go.Proofs.YtbffmfeflcdgbaaDoorW.PrintWords Go.Proofs.YtbffmfeflcdgbaaDoor.POb Go.Proofs.YtbffmfeflcdgbaaDoor.LentL Go.Proofs.YtbffmfeflcdgbaaDoor.Room

set_option maxRecDepth 100000 in
set_option maxHeartbeats 40000000 in
theorem object_calls (A0 : Option Addr) (c0 : Nat) (l0 : List S42) (A1 : Option Addr) (c1 : Nat) (l1 : List S52) (A2 : Option Addr) (c2 : Nat) (l2 : List S47) (w : World)
 (hr0 : Kd.C k42 w A0 l0.length l0) (hc0 : l0.length ≤ c0) (hr1 : Kd.C k52 w A1 l1.length l1) (hc1 : l1.length ≤ c1) (hr2 : Kd.C k47 w A2 l2.length l2) (hc2 : l2.length ≤ c2) (hlb : ∀ x ∈ l0, x.f1.length ≤ 100000000000) (hl0 : l0.length ≤ 100000000000) (hl1 : l1.length ≤ 100000000000) (hl2 : l2.length ≤ 100000000000) :
 Calls Tryd.prog 5 #[.agg #[.slice A0 l0.length c0, .slice A1 l1.length c1, .slice A2 l2.length c2]] w fun e w' => ∃ (A0' : Option Addr) (c0' : Nat) (A1' : Option Addr) (c1' : Nat) (A2' : Option Addr) (c2' : Nat), e = .returned (.agg #[.slice A0' l0.length c0', .slice A1' l1.length c1', .slice A2' l2.length c2']) ∧ k42r.C w' A0' l0.length l0 ∧ l0.length ≤ c0' ∧ Kd.C k52 w' A1' l1.length l1 ∧ l1.length ≤ c1' ∧ Kd.C k47 w' A2' l2.length l2 ∧ l2.length ≤ c2' ∧ Below w.heap.size w w' := by
 have hm9 := makeE 22 42 z42v 2 32 Tryd.underlying22 info42 (by omega) l0.length (by omega)
 have hm14 := makeE 23 52 z52v 3 24 Tryd.underlying23 info52 (by omega) l1.length (by omega)
 have hm22 := makeE 24 47 z47v 2 24 Tryd.underlying24 info47 (by omega) l2.length (by omega)
 obtain ⟨row14, hrun14, hR14⟩ := app_made k52 (fun h => by rw [k52_open h]; exact k52_mkM _ _ _ _) 23 52 z52v 24 Tryd.underlying23 info52 (by decide) rfl c1 hr1 (l1.length + 2) (by omega) (by simp only [maxLen]; omega)
 obtain ⟨row22, hrun22, hR22⟩ := app_made k47 (fun h => by rw [k47_open h]; exact k47_mkM _ _ _ _) 24 47 z47v 24 Tryd.underlying24 info47 (by decide) rfl c2 hr2 (l2.length + 2) (by omega) (by simp only [maxLen]; omega)
 have HRUN14 := Lib.hid hrun14
 have HRUN22 := Lib.hid hrun22
 have HR14 := Lib.hid hR14
 have HR22 := Lib.hid hR22
 have HLB := Aside0.mk hlb
 clear hlb
 have HR0 := Aside0.mk hr0
 have HR1 := Aside0.mk hr1
 have HR2 := Aside0.mk hr2
 clear hrun14 hrun22 hR14 hR22 hr0 hr1 hr2
 generalize hO9 : madeCells z42v.cells ((l0.length + 2) * 2) = M9 at hm9
 generalize hO14 : madeCells z52v.cells ((l1.length + 2) * 3) = M14 at hm14
 generalize hO22 : madeCells z47v.cells ((l2.length + 2) * 2) = M22 at hm22
 have hM9 : M9.size = (l0.length + 2) * 2 := by rw [← hO9, size_madeCells]
 have HM9 := Aside0.mk hM9
 clear hM9
 have HM14 := Aside0.mk (show madeCells z52v.cells ((l1.length + 2) * k52.sz) = M14 from hO14)
 have HM22 := Aside0.mk (show madeCells z47v.cells ((l2.length + 2) * k47.sz) = M22 from hO22)
 clear hO9 hO14 hO22
 have hu26 := Tryd.underlying26
 have HB := Aside0.mk (Below.refl w.heap.size w)
 have HW := Aside0.mk (Below.refl w.heap.size w)
 go_enter Tryd.func5, Tryd.ntmps5
 go_upto_region 1 with fail
 generalize hW : (w.alloc (Obj.cells #[Value.slice A0 l0.length c0, Value.slice A1 l1.length c1, Value.slice A2 l2.length c2] 26)).alloc (Obj.cells #[Value.slice none 0 0, Value.slice none 0 0, Value.slice none 0 0] 26) = W
 have hbx : W.heap[w.heap.size]? = some (.cells #[Value.slice A0 l0.length c0, Value.slice A1 l1.length c1, Value.slice A2 l2.length c2] 26 (0, 0)) := by rw [← hW]; exact heap_old' (heap_alloc_new w _)
 have hrx : W.heap[w.heap.size + 1]? = some (.cells #[.slice none 0 0, .slice none 0 0, .slice none 0 0] 26 (0, 0)) := by rw [← hW]; have := heap_alloc_new (w.alloc (Obj.cells #[Value.slice A0 l0.length c0, Value.slice A1 l1.length c1, Value.slice A2 l2.length c2] 26)) (Obj.cells #[Value.slice none 0 0, Value.slice none 0 0, Value.slice none 0 0] 26); simpa using this
 have hsz : W.heap.size = w.heap.size + 2 := by rw [← hW]; simp
 have hBW : Below w.heap.size w W := by rw [← hW]; exact below_alloc (below_alloc HB.out _) _
 generalize hgr : w.heap.size + 1 = gr at hrx ⊢
 generalize hgb : w.heap.size = gb at hbx hgr hsz hBW ⊢
 have q0 : W.cell? ⟨gb, 0, none⟩ = some (.slice A0 l0.length c0) := (blk_cell hbx 0).trans rfl
 have q1 : W.cell? ⟨gb, 1, none⟩ = some (.slice A1 l1.length c1) := (blk_cell hbx 1).trans rfl
 have q2 : W.cell? ⟨gb, 2, none⟩ = some (.slice A2 l2.length c2) := (blk_cell hbx 2).trans rfl
 have HBX := Aside0.mk hbx
 have HRX := Aside0.mk hrx
 have HSZ := Aside0.mk hsz
 have HBW := Aside0.mk (show Below w.heap.size w W by rw [hgb]; exact hBW)
 have HGB := Aside0.mk hgb
 have HGR := Aside0.mk hgr
 clear hbx hrx hsz hBW hgb hgr hW HB
 have w9 : IntKind.i64.wrap ((l0.length : Int) + 2) = (l0.length : Int) + 2 := (by rw [IntKind.wrap_i64]; omega)
 have w14 : IntKind.i64.wrap ((l1.length : Int) + 2) = (l1.length : Int) + 2 := (by rw [IntKind.wrap_i64]; omega)
 have w22 : IntKind.i64.wrap ((l2.length : Int) + 2) = (l2.length : Int) + 2 := (by rw [IntKind.wrap_i64]; omega)
 have hwb : w.heap.size ≤ gb := by rw [HGB.out]; exact Nat.le_refl _
 have HWB := Aside0.mk hwb
 clear hwb
 clear q0 q1 q2
 go_cut [3] from 5 to 26 (fun v3 wc => ∃ g14 g22 g3 gB cap, v3 = .pointer (some ⟨g3, 0, none⟩) ∧ Aside0 (St w wc 0 l0 (.slice (some ⟨g14, 0, none⟩) l1.length (l1.length + 2)) (.slice (some ⟨g22, 0, none⟩) l2.length (l2.length + 2)) row14 row22 #[Value.slice A0 l0.length c0, Value.slice A1 l1.length c1, Value.slice A2 l2.length c2] gb gr g3 g14 g22 gB cap))
 case first =>
  rename_i J0 K0 hJ hK
  refine region1 w l0.length l1.length l2.length A0 A1 A2 c0 c1 c2 M9 M14 M22 row14 row22 gb gr w9 w14 w22 hm9 hm14 hm22 ?_ ?_ ?_ ?_
  ·intro W' g hb hh; exact HRUN14.out W' g hb (by rw [HM14.out]; exact hh)
  ·intro W' g hb hh; exact HRUN22.out W' g hb (by rw [HM22.out]; exact hh)
  ·refine ⟨_, _, _, _, _, _, _, _, _, _, _, _, _, _, _, _, _, _, _, _, _, _, _, 0, 0, 0, 0, rfl, ?_⟩
   exact {
    f0 := fun h => by cases h
    f1 := fun h => by cases h
    f2 := fun h => by cases h
    f3 := fun h => by cases h
    f4 := fun h => by cases h
    f5 := fun h => by cases h
    f6 := fun h => by cases h
    f7 := fun h => by cases h
    f8 := fun h => by cases h
    f9 := fun h => by cases h
    f10 := fun h => by cases h
    f11 := fun h => by cases h
    f12 := fun h => by cases h
    f13 := fun h => by cases h
    f14 := fun h => by cases h
    f15 := fun h => by cases h
    f16 := fun h => by cases h
    f17 := fun h => by cases h
    f18 := fun h => by cases h
    f19 := fun h => by cases h
    f20 := fun h => by cases h
    f21 := fun h => by cases h
    f22 := fun h => by cases h
    f23 := fun h => by cases h
    hb := HBX.out
    hr := HRX.out
    c12 := fun h => by cases h
    c20 := fun h => by cases h
    c21 := fun h => by cases h
    c23 := fun h => by cases h
    lo := by have := HGR.out; have := HGB.out; omega
    ge := by have := HGR.out; have := HSZ.out; omega
    below := HBW.out
    base := HWB.out
    up := ⟨(fun h => by cases h), (fun h => by cases h), (fun h => by cases h)⟩ }
  rintro L a wx hL ⟨x3, x5, x6, x7, x8, x9, x10, x11, x12, x13, x14, x15, x16, x17, x18, x19, x20, x21, x22, x23, x24, x25, x26, g9, g14, g22, g3, rfl, H⟩
  have hS : St w wx 0 l0 (.slice (some ⟨g14, 0, none⟩) l1.length (l1.length + 2)) (.slice (some ⟨g22, 0, none⟩) l2.length (l2.length + 2)) row14 row22 #[Value.slice A0 l0.length c0, Value.slice A1 l1.length c1, Value.slice A2 l2.length c2] gb gr g3 g14 g22 g9 (l0.length + 2) := {
   R := ⟨fun _ _ => trivial, [], ⟨by simp, .inr ⟨g9, l0.length + 2, M9, rfl, H.up.1 (hL 4 (by decide)), (H.f4 (hL 4 (by decide))).2, Nat.zero_le _, by simp only [maxLen]; omega, HM9.out, by simp⟩⟩, Reps.none _ _⟩
   h3 := H.f23 (hL 23 (by decide))
   hb := H.hb
   hr := H.hr
   h14 := (H.f12 (hL 12 (by decide))).2
   h22 := (H.f20 (hL 20 (by decide))).2
   nb := (H.f22 (hL 22 (by decide))).2.1
   nr := (H.f22 (hL 22 (by decide))).2.2.1
   base := HWB.out
   ge3 := (H.f22 (hL 22 (by decide))).2.2.2.1
   ger := Nat.le_of_lt H.lo
   below := H.below }
  have e3 := (H.f22 (hL 22 (by decide))).1
  subst e3
  have HS := Aside0.mk hS
  clear hS H hL
  show Exit.then _ _ .normal _ _
  simp only [Exit.then]
  exact hK _ _ (show Met J0 _ _ from hJ _ _ ⟨_, _, _, _, _, _, _, _, _, _, _, _, _, _, _, _, _, _, _, _, _, _, _, ⟨g14, g22, g3, g9, _, rfl, HS⟩, rfl⟩)
 case rest =>
  obtain ⟨g14, g22, g3, gB0, cap0, rfl, HS⟩ := hcut
  have HL1 := Aside0.mk (HR14.out)
  go_wp2
  go_loopw [4] (fun i wr => ∃ k : Nat, k ≤ l0.length ∧ i = .int .i64 k ∧ ∃ gB cap, Aside0 (St w wr k l0 (.slice (some ⟨g14, 0, none⟩) l1.length (l1.length + 2)) (.slice (some ⟨g22, 0, none⟩) l2.length (l2.length + 2)) row14 row22 #[Value.slice A0 l0.length c0, Value.slice A1 l1.length c1, Value.slice A2 l2.length c2] gb gr g3 g14 g22 gB cap)) (fun i _ => l0.length - (RowKit.intOf i).toNat)
  case atStart => exact ⟨0, Nat.zero_le _, rfl, gB0, cap0, HS⟩
  case round =>
   clear HS
   obtain ⟨k, hk, rfl, gB, cap, HS⟩ := hrel
   have qb0 : wr.cell? ⟨gb, 0, none⟩ = some (.slice A0 l0.length c0) := (blk_cell HS.out.hb 0).trans rfl
   by_cases hlt : k < l0.length
   ·have i0 : (k : Int) < (l0.length : Int) := by omega
    have i1 : (0 : Int) ≤ (k : Int) := by omega
    obtain ⟨ad, A1', c1', e, hx0, hx1, hcc, hCC⟩ := at_T42 HR0.out (k : Int) i1 i0
    subst e
    rw [Int.toNat_natCast] at hx0 hx1
    have ho0 := hx0
    have ho1 := hx1
    replace hx0 := (HS.out.below.cell (World.block_lt_of_cell? w _ hx0)).trans hx0
    replace hx1 := (HS.out.below.cell (World.block_lt_of_cell? w _ hx1)).trans hx1
    have HE := Aside0.mk hCC
    have HC := Aside0.mk hcc
    have HBD := Aside0.mk HS.out.below
    have hlt63 : (rd_T42 l0 k).f1.length ≤ 100000000000 := HLB.out _ (by unfold rd_T42; rw [Int.toNat_natCast, List.getD_eq_getElem?_getD, List.getElem?_eq_getElem hlt, Option.getD_some]; exact List.getElem_mem hlt)
    have z3 : wr.cell? ⟨g3, 0, none⟩ = some (.slice (some ⟨gB, 0, none⟩) k cap) := (blk_cell HS.out.h3 0).trans rfl
    clear hCC hcc
    have HO0 := Aside0.mk ho0
    have HO1 := Aside0.mk ho1
    clear ho0 ho1
    go_wp2
    refine Obj5.region5 w wr k l0 _ _ row14 row22 c0 _ _ gb gr g3 g14 g22 gB cap ad A1' c1' _ _ _ _ _ _ _ _ _ _ _ _ _ _ _ _ _ _ _ _ _ _ _ _ _ _ _ _ _ _ _ _ _ _ _ _ _ _ _ _ _ _ _ _ _ _ _ _ _ hlt hl0 HS.out HE.out HC.out hlt63 HO0.out HO1.out ?_ rfl
    intro x34 x35 x36 x37 x38 x39 x40 x41 x42 x43 x44 x45 x46 x47 x48 x49 x50 x51 x52 gB' cap' W2 hS2 a' ha'
    subst ha'
    have HS2 := Aside0.mk hS2
    clear hS2 qb0 z3 hx0 hx1
    simp only [Exit.then]
    go_wp2
    go_roundw
    case rel => exact ⟨k + 1, by omega, by go_num, gB', cap', HS2⟩
    case measure => simp [RowKit.intOf]; omega
   obtain rfl : k = l0.length := by omega
   have z0 : wr.cell? ⟨g3, 0, none⟩ = some (.slice (some ⟨gB, 0, none⟩) l0.length cap) := (blk_cell HS.out.h3 0).trans rfl
   have z1 : wr.cell? ⟨g3, 1, none⟩ = some (.slice (some ⟨g14, 0, none⟩) l1.length (l1.length + 2)) := (blk_cell HS.out.h3 1).trans rfl
   have z2 : wr.cell? ⟨g3, 2, none⟩ = some (.slice (some ⟨g22, 0, none⟩) l2.length (l2.length + 2)) := (blk_cell HS.out.h3 2).trans rfl
   have r0 : wr.cell? ⟨gr, 0, none⟩ = some (.slice none 0 0) := (blk_cell HS.out.hr 0).trans rfl
   have r1 : wr.cell? ⟨gr, 1, none⟩ = some (.slice none 0 0) := (blk_cell HS.out.hr 1).trans rfl
   have r2 : wr.cell? ⟨gr, 2, none⟩ = some (.slice none 0 0) := (blk_cell HS.out.hr 2).trans rfl
   have f0 := blk_frozen HS.out.hr 0
   have f1 := blk_frozen HS.out.hr 1
   have f2 := blk_frozen HS.out.hr 2
   have HL := Aside0.mk hl0
   have hw1 : w.heap.size ≤ gr := Nat.le_trans HS.out.base HS.out.ger
   have HB2 := Aside0.mk hw1
   clear hw1
   go_wp2
   refine bodyPost_ret (results_cell_row rfl _ _ gr 26 #[(.slice (some ⟨gB, 0, none⟩) l0.length cap), (.slice (some ⟨g14, 0, none⟩) l1.length (l1.length + 2)), (.slice (some ⟨g22, 0, none⟩) l2.length (l2.length + 2))] (0, 0) _ rfl (blk_put (blk_put (blk_put HS.out.hr 0 _ rfl) 1 _ rfl) 2 _ rfl) Tryd.underlying26 rfl (by kernel_rfl)) rfl ?_
   have hbl := below_set' (below_set' (below_set' HS.out.below (p := ⟨gr, 0, none⟩) (v := .slice (some ⟨gB, 0, none⟩) l0.length cap) HB2.out) (p := ⟨gr, 1, none⟩) (v := .slice (some ⟨g14, 0, none⟩) l1.length (l1.length + 2)) HB2.out) (p := ⟨gr, 2, none⟩) (v := .slice (some ⟨g22, 0, none⟩) l2.length (l2.length + 2)) HB2.out
   have hR := HS.out.R
   rw [List.take_length] at hR
   have hz := HS.out.hr
   have hb0 := blk_put hz 0 (.slice (some ⟨gB, 0, none⟩) l0.length cap) rfl
   have hb1 := blk_put hb0 1 (.slice (some ⟨g14, 0, none⟩) l1.length (l1.length + 2)) rfl
   have ht : ∀ q, q ∈ 42 :: k42r.E → q ≠ 26 := by intro q hq; have h5 : q ∈ [42, 5] := hq; rcases List.mem_cons.1 h5 with rfl | h5; exact (by decide); rw [List.mem_singleton.1 h5]; exact (by decide)
   have hR2 := Kd.R_set (Kd.R_set (Kd.R_set hR hz ht 0 (.slice (some ⟨gB, 0, none⟩) l0.length cap)) hb0 ht 1 (.slice (some ⟨g14, 0, none⟩) l1.length (l1.length + 2))) hb1 ht 2 (.slice (some ⟨g22, 0, none⟩) l2.length (l2.length + 2))
   obtain ⟨Aq, cq, eq1, hcq, hCq⟩ := Kd.R_reads hR2
   injection eq1 with ea en ec
   subst ea; subst ec
   have k14 := HR14.out _ g14 (far3 HS.out.h14 (blk_ne HS.out.h14 hz (by decide)) (a := .slice (some ⟨gB, 0, none⟩) l0.length cap) (b := .slice (some ⟨g14, 0, none⟩) l1.length (l1.length + 2)) (c := .slice (some ⟨g22, 0, none⟩) l2.length (l2.length + 2))) 0 (Nat.zero_le _)
   have k22 := HR22.out _ g22 (far3 HS.out.h22 (blk_ne HS.out.h22 hz (by decide)) (a := .slice (some ⟨gB, 0, none⟩) l0.length cap) (b := .slice (some ⟨g14, 0, none⟩) l1.length (l1.length + 2)) (c := .slice (some ⟨g22, 0, none⟩) l2.length (l2.length + 2))) 0 (Nat.zero_le _)
   exact ⟨_, _, _, _, _, _, rfl, hCq, hcq, (Kd.R_reads' k14).2.2, Nat.le_add_right _ 2, (Kd.R_reads' k22).2.2, Nat.le_add_right _ 2, hbl⟩
end Go.Proofs.YtbffmfeflcdgbaaDoor.Obj
