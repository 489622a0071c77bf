/- code.Info, walked. -/
import Derived.Test.YtjedbamcjgabpaaDoorSrcG
import Derived.Test.YtjedbamcjgabpaaDoorPSoCodes
import Derived.Deep.RegionHeld3
import Derived.Laws.Rows
import Derived.Deep.DrawnRows
set_option linter.unusedVariables false
set_option linter.unusedSimpArgs false
namespace Go.Proofs.YtjedbamcjgabpaaDoor.Src
open Go Go.RowKit
open Go.Proofs.YtjedbamcjgabpaaDoorW.PrintWords Go.Proofs.YtjedbamcjgabpaaDoor.PSo

def formV (op : Nat) : Nat := ((code_form.f 20 (op : Int)).getD 0).toNat
theorem form_all : ((List.range 256).all fun op => code_form.f 20 (op : Int) == some ((formV op : Nat) : Int) && decide (formV op < 7)) = true := by decide +kernel
theorem form_f (op : Nat) (h : op < 256) : code_form.f 20 (op : Int) = some ((formV op : Nat) : Int) ∧ formV op < 7 := by
 have := List.all_eq_true.1 form_all op (List.mem_range.2 h)
 simpa using this
def bytesV (op : Nat) : Int := lengthsT.getD (formV op) 0
def cyclesV (op : Nat) : Int := if op / 16 = 12 then 3 else 2
set_option maxRecDepth 100000 in
set_option maxHeartbeats 2000000 in
theorem info_calls (op : Nat) (hop : op < 256) (w : World) (hG : GOk w) : Calls Tryd.prog 53 #[.int .u8 (op : Int)] w fun e w' => e = .returned (.agg #[.string (nameOf op), .int .u8 (formV op : Int), .int .i64 (bytesV op), .int .i64 (cyclesV op)]) ∧ Below w.heap.size w w' := by
 obtain ⟨f1, f2⟩ := form_f op hop
 have h0 : 0 ≤ (op : Int) := by omega
 have h1 : (op : Int) < 256 := by omega
 have HF := Aside0.mk f1
 have HG := Aside0.mk hG
 have HB := Aside0.mk (below_alloc (Below.refl w.heap.size w) (.cells #[.string ⟨#[]⟩, .int .u8 0, .int .i64 0, .int .i64 0] 72))
 have HR := Aside0.mk (blk_new w (.cells #[.string ⟨#[]⟩, .int .u8 0, .int .i64 0, .int .i64 0] 72))
 have k0 : 0 ≤ (formV op : Int) := by omega
 have k1 : (formV op : Int) < 7 := by omega
 have hlen := hG.len (formV op) f2
 have HLT := Aside0.mk f2
 clear f1 hG
 go_enter Tryd.func53, Tryd.ntmps53
 go_wp2_with fail
 (with_reducible refine (code_form.calls 20 (op : Int) (formV op : Int) _ HF.out).mono ?_)
 rintro e w1 ⟨rfl, hd⟩
 have HB1 := Aside0.mk (below_step HB.out hd.below)
 have HG1 := Aside0.mk (GOk.below HG.out HB1.out)
 have HR1 := Aside0.mk (blk_below HR.out hd.below)
 have hlen1 := HG1.out.len (formV op) HLT.out
 obtain ⟨z, hz⟩ : ∃ z, lengthsT.getD (formV op) 0 = z := ⟨_, rfl⟩
 rw [hz] at hlen hlen1
 have HZ := Aside0.mk hz
 obtain ⟨F, hF⟩ : ∃ F, formV op = F := ⟨_, rfl⟩
 rw [hF] at k0 k1 hlen hlen1 ⊢
 have HFF := Aside0.mk hF
 have hlR : w.heap.size < w1.heap.size := blk_lt HR1.out
 clear hd hz hF hlen HR HB
 go_wp2_with fail
 go_region_held3 (fun w' => w'.cell? ⟨1, F, none⟩ = some (.int .i64 z)) (go_keep) (first | (go_at_call 69; (with_reducible refine (name_calls op hop _ (GOk.below HG1.out ?g1)).mono ?_); (case g1 => exact (by repeat (first | (with_reducible first | exact Below.refl _ _ | apply below_alloc | apply pw_below_drewN | apply below_drew1) | exact Below.refl _ _))); rintro e w5 ⟨rfl, rfl⟩))
 all_goals
  obtain ⟨y, hy⟩ : ∃ y, nameOf op = y := ⟨_, rfl⟩
  rw [hy]
  have HY := Aside0.mk hy
  clear hy
  go_wp2_with fail
  have hx2 := blk_new w1 (.cells #[.string y, .int .u8 (F : Int), .int .i64 z, .int .i64 2] 72)
  have hr2 := blk_alloc HR1.out (.cells #[.string y, .int .u8 (F : Int), .int .i64 z, .int .i64 2] 72)
  have hb2 := below_alloc HB1.out (.cells #[.string y, .int .u8 (F : Int), .int .i64 z, .int .i64 2] 72)
  generalize (w1.alloc (.cells #[.string y, .int .u8 (F : Int), .int .i64 z, .int .i64 2] 72)) = w2 at hx2 hr2 hb2 ⊢
  have X2 := Aside0.mk (blk_drew hx2)
  have R2 := Aside0.mk (blk_drew hr2)
  have B2 := Aside0.mk (below_drew1 hb2)
  clear hx2 hr2 hb2 hlen1 h0 h1
  obtain ⟨b, hbb⟩ : ∃ b, ((op : Int) / 16 == 12) = b := ⟨_, rfl⟩
  have L1 := Aside0.mk (show code_long.f (op : Int) = some b by unfold code_long.f; rw [hbb])
  have HBB := Aside0.mk hbb
  clear hbb
  (with_reducible refine (code_long.calls (op : Int) b _ L1.out).mono ?_)
  rintro e w3 ⟨rfl, hd3⟩
  have hx := blk_below X2.out hd3.below
  have hr := blk_below R2.out hd3.below
  have B3 := Aside0.mk (below_step B2.out hd3.below)
  clear hd3 X2 R2 B2
  cases b
  ·have HC : Aside0 (cyclesV op = 2) := ⟨by unfold cyclesV; rw [if_neg (fun e => by have h := HBB.out; have e2 : (op : Int) / 16 = 12 := (by omega); rw [e2] at h; exact absurd h (by decide))]⟩
   have q0 := (blk_cell hx 0).trans (rfl : _ = some (Value.string y))
   have q1 := (blk_cell hx 1).trans (rfl : _ = some (Value.int .u8 (F : Int)))
   have q2 := (blk_cell hx 2).trans (rfl : _ = some (Value.int .i64 z))
   have q3 := (blk_cell hx 3).trans (rfl : _ = some (Value.int .i64 2))
   have v3 := blk_frozen hx 3
   have z0 := (blk_cell hr 0).trans (rfl : _ = some (Value.string ⟨#[]⟩))
   have z1 := (blk_cell hr 1).trans (rfl : _ = some (Value.int .u8 0))
   have z2 := (blk_cell hr 2).trans (rfl : _ = some (Value.int .i64 0))
   have z3 := (blk_cell hr 3).trans (rfl : _ = some (Value.int .i64 0))
   have y0 := blk_frozen hr 0
   have y1 := blk_frozen hr 1
   have y2 := blk_frozen hr 2
   have y3 := blk_frozen hr 3
   have hne : ¬ w.heap.size = w1.heap.size := by omega
   have hne2 : ¬ w1.heap.size = w.heap.size := by omega
   have HX := Aside0.mk hx
   have HRR := Aside0.mk hr
   clear hx hr
   go_wp2
   refine bodyPost_ret (results_cell_row rfl _ _ w.heap.size 72 #[.string y, .int .u8 (F : Int), .int .i64 z, .int .i64 2] (0, 0) _ rfl (blk_put (blk_put (blk_put (blk_put HRR.out 0 _ rfl) 1 _ rfl) 2 _ rfl) 3 _ rfl) Tryd.underlying72 rfl (by kernel_rfl)) rfl ?_
   exact ⟨by rw [HY.out, HC.out, show bytesV op = z from HZ.out, HFF.out], (((B3.out.setCell (Nat.le_refl _) _).setCell (Nat.le_refl _) _).setCell (Nat.le_refl _) _).setCell (Nat.le_refl _) _⟩
  have HC : Aside0 (cyclesV op = 3) := ⟨by unfold cyclesV; rw [if_pos (by have h := beq_iff_eq.1 HBB.out; omega)]⟩
  have q0 := (blk_cell hx 0).trans (rfl : _ = some (Value.string y))
  have q1 := (blk_cell hx 1).trans (rfl : _ = some (Value.int .u8 (F : Int)))
  have q2 := (blk_cell hx 2).trans (rfl : _ = some (Value.int .i64 z))
  have q3 := (blk_cell hx 3).trans (rfl : _ = some (Value.int .i64 2))
  have v3 := blk_frozen hx 3
  have z0 := (blk_cell hr 0).trans (rfl : _ = some (Value.string ⟨#[]⟩))
  have z1 := (blk_cell hr 1).trans (rfl : _ = some (Value.int .u8 0))
  have z2 := (blk_cell hr 2).trans (rfl : _ = some (Value.int .i64 0))
  have z3 := (blk_cell hr 3).trans (rfl : _ = some (Value.int .i64 0))
  have y0 := blk_frozen hr 0
  have y1 := blk_frozen hr 1
  have y2 := blk_frozen hr 2
  have y3 := blk_frozen hr 3
  have hne : ¬ w.heap.size = w1.heap.size := by omega
  have hne2 : ¬ w1.heap.size = w.heap.size := by omega
  have HX := Aside0.mk hx
  have HRR := Aside0.mk hr
  clear hx hr
  go_wp2
  refine bodyPost_ret (results_cell_row rfl _ _ w.heap.size 72 #[.string y, .int .u8 (F : Int), .int .i64 z, .int .i64 3] (0, 0) _ rfl (blk_put (blk_put (blk_put (blk_put (blk_far HRR.out (p := ⟨w1.heap.size, 3, none⟩) hne _) 0 _ rfl) 1 _ rfl) 2 _ rfl) 3 _ rfl) Tryd.underlying72 rfl (by kernel_rfl)) rfl ?_
  exact ⟨by rw [HY.out, HC.out, show bytesV op = z from HZ.out, HFF.out], ((((B3.out.setCell (Nat.le_of_lt hlR) _).setCell (Nat.le_refl _) _).setCell (Nat.le_refl _) _).setCell (Nat.le_refl _) _).setCell (Nat.le_refl _) _⟩
end Go.Proofs.YtjedbamcjgabpaaDoor.Src
namespace Go.Proofs.YtjedbamcjgabpaaDoor.PSo
open Go Go.RowKit
open Go.Proofs.YtjedbamcjgabpaaDoorW.PrintWords
open Go.Proofs.YtjedbamcjgabpaaDoor.Src
def code_Info.f (a0 : Int) : Option (ByteArray × Int × Int × Int) := if 0 ≤ a0 then (if a0 < 256 then some (nameOf a0.toNat, (formV a0.toNat : Int), bytesV a0.toNat, cyclesV a0.toNat) else none) else none
theorem code_Info.calls (a0 : Int) (r1 : ByteArray) (r2 : Int) (r3 : Int) (r4 : Int) (w : World) (h : code_Info.f a0 = some (r1, r2, r3, r4))
 (hG : GOk w := by first | exact HG.out | exact GOk.below HG.out HB.out | exact GOk.below HG.out (by repeat (first | (with_reducible first | exact HB.out | apply below_alloc | apply pw_below_drewN | apply below_drew1 | refine below_set ?_ (Aside0.out (by assumption))) | exact HB.out))) :
 Calls Tryd.prog 53 #[.int .u8 a0] w fun e w' => e = .returned (.agg #[.string r1, .int .u8 r2, .int .i64 r3, .int .i64 r4]) ∧ Below w.heap.size w w' := by
 unfold code_Info.f at h
 by_cases h0 : 0 ≤ a0
 ·rw [if_pos h0] at h
  by_cases h1 : a0 < 256
  ·rw [if_pos h1] at h
   obtain ⟨n, rfl⟩ := Int.eq_ofNat_of_zero_le h0
   have e := Option.some.inj h
   simp only [Int.toNat_natCast, Prod.mk.injEq] at e
   obtain ⟨e1, e2, e3, e4⟩ := e
   refine (info_calls n (by omega) w hG).mono ?_
   rintro e w' ⟨he, hb⟩
   exact ⟨by rw [he, e1, e2, e3, e4], hb⟩
  rw [if_neg h1] at h; cases h
 rw [if_neg h0] at h; cases h
end Go.Proofs.YtjedbamcjgabpaaDoor.PSo
