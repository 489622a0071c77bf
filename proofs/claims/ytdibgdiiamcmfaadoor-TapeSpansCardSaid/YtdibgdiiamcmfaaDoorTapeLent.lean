/- vesperlaw12.lent and vesperlaw12.back: waves lent with a mark behind them, and taken back. -/
import Derived.Test.YtdibgdiiamcmfaaDoorTapeLentL
import Derived.Test.YtdibgdiiamcmfaaDoorTapeWavesL
set_option linter.unusedVariables false
set_option linter.unusedSimpArgs false
namespace Go.Proofs.YtdibgdiiamcmfaaDoor.Lent
open Go Go.RowKit
open Go.Proofs.YtdibgdiiamcmfaaDoorW.PrintWords Go.Proofs.YtdibgdiiamcmfaaDoor.PTape Go.Proofs.YtdibgdiiamcmfaaDoor.Waves Go.Proofs.YtdibgdiiamcmfaaDoor.LentL
attribute [local go_sem ↓ high] copyG_eq

theorem flat37 {w w' : World} {base : Nat} {ok : Nat → Prop} {x : S37} {cs : List Value} (h : k37.K w x cs) : k37.M w' base ok x cs := by
  rw [k37_open h]; exact k37_mkM w' base ok x

theorem make_eq (w : World) (n : Nat) (hn : n ≤ 1000000000000) : (Instr.makeSlice 24 (.int .i64 ((n : Int) + 1)) (.int .i64 ((n : Int) + 1))).run Tryd.prog w = .ok (.slice (some ⟨w.heap.size, 0, none⟩) (n + 1) (n + 1)) (w.alloc (.cells (madeCells (Value.agg #[(.int .i64 0), (.int .i64 0)]).cells ((n + 1) * 2)) 37)) := by
  obtain ⟨i0, hi, hzz⟩ := Option.map_eq_some_iff.1 info37
  simp only [Prod.mk.injEq] at hzz
  obtain ⟨hz0, hz1, hz2⟩ := hzz
  have h := run_make (P := Tryd.prog) (w := w) 24 37 i0 _ Tryd.underlying24 hi hz0 .i64 .i64 ((n : Int) + 1) ((n : Int) + 1) (by omega) (Int.le_refl _) (by rw [hz2]; omega) (by omega)
  rw [hz1, show ((n : Int) + 1).toNat = n + 1 by omega] at h
  exact h

set_option maxRecDepth 100000 in
set_option maxHeartbeats 4000000 in
theorem lent_calls (A : Option Addr) (c : Nat) (l : List S37) (w : World) (hr : Kd.C k37 w A l.length l) (hc : l.length ≤ c) (hl : l.length ≤ 100000000000) :
    Calls Tryd.prog 14 #[.slice A l.length c] w fun e w' => ∃ g, w.heap.size ≤ g ∧ e = .returned (.slice (some ⟨g, 0, none⟩) l.length (l.length + 1)) ∧ RW w' w.heap.size (.slice (some ⟨g, 0, none⟩) (l.length + 1) (l.length + 1)) (l ++ [⟨-77, 0⟩]) ∧ Below w.heap.size w w' := by
  obtain ⟨W2, h2, hR, hB⟩ := lent_run k37 (P := Tryd.prog) flat37 24 3 37 (.agg #[(.int .i64 0), (.int .i64 0)]) 16 Tryd.underlying24 info37 rfl (by decide) ⟨0, 0⟩ (w := w) (k37_mk w ⟨0, 0⟩) 1 c hr (by simp only [maxLen]; omega)
  have hm := make_eq w l.length (by omega)
  obtain ⟨⟨u0, c0⟩, ⟨u1, c1⟩, f0, f1, hS, hG⟩ := elem37 hR l.length (by omega) ⟨-77, 0⟩
  have hset : (l ++ List.replicate 1 (⟨0, 0⟩ : S37)).set l.length ⟨-77, 0⟩ = l ++ [⟨-77, 0⟩] := by
    rw [List.set_append_right _ _ (Nat.le_refl _), Nat.sub_self]; rfl
  rw [hset] at hS
  have HS := Aside0.mk hS
  have HB := Aside0.mk (hB.grown hG hB.size (fun k hk => by cases hk; exact Nat.le_refl _))
  clear hS hB hR hG hset
  simp only [goInt] at h2
  rw [show (k37).sz = 2 from rfl] at h2
  generalize Obj.cells (madeCells (Value.agg #[(.int .i64 0), (.int .i64 0)]).cells ((l.length + 1) * 2)) 37 = O at h2 hm
  go_enter Tryd.func14, Tryd.ntmps14
  go_wp2
  go_ret
  exact ⟨_, Nat.le_refl _, rfl, HS.out, HB.out⟩

theorem grown_drewN (w : World) (n : Nat) (row : Option Nat) : w.grownBy (w.drewN n) row := ⟨rfl, rfl, rfl, Nat.le_refl _, fun _ _ _ => rfl⟩

set_option maxRecDepth 100000 in
set_option maxHeartbeats 4000000 in
theorem back_calls (A : Option Addr) (c : Nat) (l : List S37) (g b0 : Nat) (w : World) (hr : Kd.C k37 w A l.length l) (hc : l.length ≤ c) (hl : l.length ≤ 100000000000) (hx : RW w b0 (.slice (some ⟨g, 0, none⟩) (l.length + 1) (l.length + 1)) (l ++ [⟨-77, 0⟩])) :
    Calls Tryd.prog 16 #[.slice (some ⟨g, 0, none⟩) l.length (l.length + 1), .slice A l.length c] w fun e w' => e = .returned (.bool true) ∧ w.grownBy w' (some g) := by
  have hC : Kd.C k37 w (some ⟨g, 0, none⟩) l.length l := by
    have := (Kd.R_reads' (Kd.R_take hx (m := l.length) (by simp))).2.2
    simpa using this
  have c77 : w.cell? ⟨g, l.length * 2, none⟩ = some (.int .i64 (-77)) := by
    obtain ⟨ad, e, q, _⟩ := at_T37 (Kd.R_reads' hx).2.2 (l.length : Int) (by omega) (by simp; omega)
    cases e
    have hrd : rd_T37 (l ++ [(⟨-77, 0⟩ : S37)]) (l.length : Int) = ⟨-77, 0⟩ := by
      unfold rd_T37
      rw [Int.toNat_natCast, List.getD_eq_getElem?_getD, List.getElem?_append_right (Nat.le_refl _), Nat.sub_self]; rfl
    rw [hrd] at q
    simpa only [add_plain, Int.toNat_natCast, Nat.zero_add] using q
  have HX := Aside0.mk hx
  have HC := Aside0.mk hC
  have HR := Aside0.mk hr
  have HS := Aside0.mk (same_f l (by omega))
  clear hx hC hr
  have e0 : (0 : Int) ≤ (l.length : Int) + 1 := by omega
  have hstart : ∀ n : Nat, Aside0 (RW (w.drewN n) b0 (.slice (some ⟨g, 0, none⟩) (l.length + 1) (l.length + 1)) (fill ⟨-78, 0⟩ 0 (l ++ [⟨-77, 0⟩])) ∧ w.grownBy (w.drewN n) (some g)) := fun n => ⟨by rw [fill_zero]; exact Kd.R_drewN HX.out n, grown_drewN w n _⟩
  have HST := Lib.hid hstart
  clear hstart
  go_enter Tryd.func16, Tryd.ntmps16
  go_wp2_with (go_at_call 23; (with_reducible refine (vesperref12_Same.calls (l.length + 1) _ _ l A c l true _ HC.out (Nat.le_succ _) HR.out hc HS.out).mono ?_); rintro e w1 ⟨rfl, ⟨⟨n1, rfl⟩⟩⟩)
  go_loopw [7] (fun i wr => ∃ k : Nat, k ≤ l.length + 1 ∧ i = .int .i64 k ∧ Aside0 (RW wr b0 (.slice (some ⟨g, 0, none⟩) (l.length + 1) (l.length + 1)) (fill ⟨-78, 0⟩ k (l ++ [⟨-77, 0⟩])) ∧ w.grownBy wr (some g))) (fun i _ => l.length + 1 - (RowKit.intOf i).toNat)
  case atStart => exact ⟨0, Nat.zero_le _, rfl, HST.out _⟩
  case round =>
    obtain ⟨k, hk, rfl, HP⟩ := hrel
    by_cases hlt : k < l.length + 1
    · obtain ⟨⟨u0, q0⟩, ⟨u1, q1⟩, f0, f1, hS, hG⟩ := elem37 HP.out.1 k hlt ⟨-78, 0⟩
      rw [fill_set _ _ _ (by simp; omega)] at hS
      have HN := Aside0.mk (And.intro hS (HP.out.2.trans hG))
      clear hS hG HP
      have i0 : (k : Int) < ((l.length + 1 : Nat) : Int) := by omega
      go_wp2
      go_roundw
      case rel => exact ⟨k + 1, by omega, by go_num, HN⟩
      case measure => simp [RowKit.intOf]; omega
    · obtain rfl : k = l.length + 1 := by omega
      go_wp2
      go_ret
      exact ⟨rfl, HP.out.2⟩
end Go.Proofs.YtdibgdiiamcmfaaDoor.Lent
