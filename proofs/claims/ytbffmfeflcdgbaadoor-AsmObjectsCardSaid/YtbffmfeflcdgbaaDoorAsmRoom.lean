/- vesperlaw14.room: bytes in memory of their own, with marked room behind. -/
import Derived.Test.YtbffmfeflcdgbaaDoorAsmLentL
set_option linter.unusedVariables false
set_option linter.unusedSimpArgs false
namespace Go.Proofs.YtbffmfeflcdgbaaDoor.Room
open Go Go.RowKit
open Go.Proofs.YtbffmfeflcdgbaaDoorW.PrintWords Go.Proofs.YtbffmfeflcdgbaaDoor.POb Go.Proofs.YtbffmfeflcdgbaaDoor.LentL
attribute [local go_sem ↓ high] copyG_eq

abbrev kb : Kd Int := Kd.int .u8
def mk5 : List Int := List.replicate 5 90
def rm (i : Nat) : List Int := List.replicate i 90 ++ List.replicate (5 - i) 0
theorem rm_set (l : List Int) (i : Nat) (h : i < 5) : (l ++ rm i).set (l.length + i) 90 = l ++ rm (i + 1) := by
 rw [List.set_append_right _ _ (by omega), Nat.add_sub_cancel_left]
 congr 1
 have : i = 0 ∨ i = 1 ∨ i = 2 ∨ i = 3 ∨ i = 4 := by omega
 rcases this with rfl | rfl | rfl | rfl | rfl <;> rfl
theorem elem5 {w : World} {b0 g n cap : Nat} {l : List Int} (h : kb.R 5 w b0 (fun _ => True) (.slice (some ⟨g, 0, none⟩) n cap) l) (i : Nat) (hi : i < n) (p : Int) :
 (∃ u, w.cell? ⟨g, i, none⟩ = some (.int .u8 u)) ∧ w.frozen? ⟨g, i, none⟩ = false ∧
 kb.R 5 (w.setCell ⟨g, i, none⟩ (.int .u8 p)) b0 (fun _ => True) (.slice (some ⟨g, 0, none⟩) n cap) (l.set i p) ∧ w.grownBy (w.setCell ⟨g, i, none⟩ (.int .u8 p)) (some g) := by
 obtain ⟨ce, hcl, hM, hcc, hfr⟩ := Kd.R_elem h (0 : Int) (i : Int) (by omega) (by omega)
 obtain rfl : ce = [_] := hM
 have HP := Kd.R_seg h (i : Int) (by omega) (by omega) (seg := [.int .u8 p]) (j := 0) hcl hcc (show 1 ≤ 1 from by decide) (x' := p) rfl (fun _ hk => hk)
 have e0 : (i : Int).toNat * kb.sz = i := by show (i : Int).toNat * 1 = i; omega
 simp only [e0] at HP hcc hfr
 exact ⟨⟨_, hcc 0 _ rfl⟩, hfr 0, HP.1, HP.2⟩

theorem make5_eq (w : World) (n : Nat) (hn : n ≤ 1000000000000) : (Instr.makeSlice 33 (.int .i64 ((n : Int) + 5)) (.int .i64 ((n : Int) + 5))).run Tryd.prog w = .ok (.slice (some ⟨w.heap.size, 0, none⟩) (n + 5) (n + 5)) (w.alloc (.cells (madeCells (Value.int .u8 0).cells ((n + 5) * 1)) 5)) := by
 obtain ⟨i0, hi, hzz⟩ := Option.map_eq_some_iff.1 info5
 simp only [Prod.mk.injEq] at hzz
 obtain ⟨hz0, hz1, hz2⟩ := hzz
 have h := run_make (P := Tryd.prog) (w := w) 33 5 i0 _ Tryd.underlying33 hi hz0 .i64 .i64 ((n : Int) + 5) ((n : Int) + 5) (by omega) (Int.le_refl _) (by rw [hz2]; omega) (by omega)
 rw [hz1, show ((n : Int) + 5).toNat = n + 5 by omega] at h
 exact h

theorem flat5 {w w' : World} {base : Nat} {ok : Nat → Prop} {x : Int} {cs : List Value} (h : kb.K w x cs) : kb.M w' base ok x cs := h

set_option maxRecDepth 100000 in
set_option maxHeartbeats 4000000 in
theorem room_calls (A : Option Addr) (c : Nat) (l : List Int) (w : World) (hr : kb.C w A l.length l) (hc : l.length ≤ c) (hl : l.length ≤ 100000000000) :
 Calls Tryd.prog 15 #[.slice A l.length c] w fun e w' => ∃ g, w.heap.size ≤ g ∧ e = .returned (.slice (some ⟨g, 0, none⟩) l.length (l.length + 5)) ∧ kb.R 5 w' w.heap.size (fun _ => True) (.slice (some ⟨g, 0, none⟩) (l.length + 5) (l.length + 5)) (l ++ mk5) ∧ Below w.heap.size w w' := by
 obtain ⟨W2, h2, hR, hB⟩ := lent_run kb (P := Tryd.prog) flat5 33 3 5 (.int .u8 0) 1 Tryd.underlying33 info5 rfl (by decide) 0 (w := w) rfl 5 c hr (by simp only [maxLen]; omega)
 have hm := make5_eq w l.length (by omega)
 have HR := Aside0.mk hR
 have HB := Aside0.mk hB
 clear hR hB
 simp only [goInt] at h2
 rw [show kb.sz = 1 from rfl] at h2
 generalize Obj.cells (madeCells (Value.int .u8 0).cells ((l.length + 5) * 1)) 5 = O at h2 hm
 go_enter Tryd.func15, Tryd.ntmps15
 go_wp2
 go_loopw [4] (fun i wr => ∃ k : Nat, k ≤ 5 ∧ i = .int .i64 ((l.length : Int) + k) ∧ Aside0 (kb.R 5 wr w.heap.size (fun _ => True) (.slice (some ⟨w.heap.size, 0, none⟩) (l.length + 5) (l.length + 5)) (l ++ rm k) ∧ Below w.heap.size w wr)) (fun i _ => l.length + 5 - (RowKit.intOf i).toNat)
 case atStart => exact ⟨0, Nat.zero_le _, by simp, ⟨HR.out, HB.out⟩⟩
 case round =>
  obtain ⟨k, hk, rfl, HP⟩ := hrel
  by_cases hlt : k < 5
  ·obtain ⟨⟨u0, q0⟩, f0, hS, hG⟩ := elem5 HP.out.1 (l.length + k) (by omega) 90
   rw [rm_set _ _ hlt] at hS
   have HN := Aside0.mk (And.intro hS (HP.out.2.grown hG HP.out.2.size (fun k hk => by cases hk; exact Nat.le_refl _)))
   clear hS hG HP
   have i0 : (l.length : Int) + k < ((l.length + 5 : Nat) : Int) := by omega
   go_wp2
   go_roundw
   case rel => exact ⟨k + 1, by omega, by go_num, HN⟩
   case measure => simp [RowKit.intOf]; omega
  obtain rfl : k = 5 := by omega
  go_wp2
  go_ret
  exact ⟨_, Nat.le_refl _, rfl, HP.out.1, HP.out.2⟩

theorem room_cell {w : World} {g : Nat} {l : List Int} (h : kb.C w (some ⟨g, 0, none⟩) (l.length + 5) (l ++ mk5)) (k : Nat) (hk : k < 5) : w.cell? ⟨g, l.length + k, none⟩ = some (.int .u8 90) := by
 obtain ⟨ad, c, e, _, hK, hc0⟩ := Kd.C_get h (0 : Int) ((l.length + k : Nat) : Int) (by omega) (by omega)
 cases e
 have hx : (l ++ mk5).getD ((l.length + k : Nat) : Int).toNat 0 = 90 := by
  rw [Int.toNat_natCast, List.getD_eq_getElem?_getD, List.getElem?_append_right (by omega), Nat.add_sub_cancel_left]
  have : k = 0 ∨ k = 1 ∨ k = 2 ∨ k = 3 ∨ k = 4 := by omega
  rcases this with rfl | rfl | rfl | rfl | rfl <;> rfl
 rw [hx] at hK
 obtain rfl : c = [_] := hK
 have := hc0 0 _ rfl
 have e0 : ((l.length + k : Nat) : Int).toNat * kb.sz = l.length + k := by show ((l.length + k : Nat) : Int).toNat * 1 = _; omega
 rw [e0] at this
 simpa only [add_plain, Nat.zero_add, Nat.add_zero] using this

set_option maxRecDepth 100000 in
set_option maxHeartbeats 4000000 in
theorem roomy_calls (g : Nat) (l : List Int) (w : World) (hr : kb.C w (some ⟨g, 0, none⟩) (l.length + 5) (l ++ mk5)) (hl : l.length ≤ 100000000000) :
 Calls Tryd.prog 14 #[.slice (some ⟨g, 0, none⟩) l.length (l.length + 5), .int .i64 (l.length : Int)] w fun e w' => e = .returned (.bool true) ∧ Below w.heap.size w w' := by
 have hcell : ∀ k : Nat, k < 5 → Aside0 (w.cell? ⟨g, l.length + k, none⟩ = some (.int .u8 90)) := fun k hk => ⟨room_cell hr k hk⟩
 have HC := Lib.hid hcell
 clear hcell
 have HW := Aside0.mk (Below.refl w.heap.size w)
 have e0 : (0 : Int) ≤ (l.length : Int) + 5 := by omega
 have e1 : (l.length : Int) + 5 ≤ ((l.length + 5 : Nat) : Int) := by omega
 have e2 : ((l.length : Int) + 5).toNat = l.length + 5 := by omega
 go_enter Tryd.func14, Tryd.ntmps14
 go_wp2
 go_loopw [6] (fun i wr => ∃ k : Nat, k ≤ 5 ∧ i = .int .i64 ((l.length : Int) + k) ∧ wr = w) (fun i _ => l.length + 5 - (RowKit.intOf i).toNat)
 case atStart => exact ⟨0, Nat.zero_le _, by simp, rfl⟩
 case round =>
  obtain ⟨k, hk, rfl, rfl⟩ := hrel
  by_cases hlt : k < 5
  ·have q0 := (HC.out k hlt).out
   have i0 : (l.length : Int) + k < ((l.length + 5 : Nat) : Int) := by omega
   go_wp2
   go_roundw
   case rel => exact ⟨k + 1, by omega, by go_num, (by first | rfl | trivial)⟩
   case measure => simp [RowKit.intOf]; omega
  obtain rfl : k = 5 := by omega
  go_wp2
  go_ret
  exact ⟨rfl, HW.out⟩
end Go.Proofs.YtbffmfeflcdgbaaDoor.Room
