/- vesperlaw12.waves: three rows of waves of the call's own, apart from each other, all of one list: the first is written full, two are grown, and the law's check answers true. -/
import Derived.Test.YtdibgdiiamcmfaaDoorTapeWavesL
set_option linter.unusedVariables false
set_option linter.unusedSimpArgs false
namespace Go.Proofs.YtdibgdiiamcmfaaDoor.Waves
open Go Go.RowKit
open Go.Proofs.YtdibgdiiamcmfaaDoorW.PrintWords Go.Proofs.YtdibgdiiamcmfaaDoor.PTape Go.Proofs.YtdibgdiiamcmfaaDoor.App Go.Proofs.YtdibgdiiamcmfaaDoor.Elder
attribute [local go_sem ↓ high] appG_eq

theorem start1 {p : S37} {b0 : Nat} {va vb vu : Value} {l : List S37} {w : World} (ha : RW w b0 va l) (hb : RW w b0 vb l) (hu : RW w b0 vu l) (n : Nat) : Aside0 (Ph1 p b0 va vb vu l w 0 (w.drewN n)) :=
  ⟨Nat.zero_le _, by rw [fill_zero]; exact Kd.R_drewN ha n, Kd.R_drewN hb n, Kd.R_drewN hu n, pw_below_drewN (Below.refl _ _) n⟩

set_option maxRecDepth 100000 in
set_option maxHeartbeats 4000000 in
theorem waves_calls (b0 : Nat) (va vb vu : Value) (l : List S37) (w : World) (ha : RW w b0 va l) (hb : RW w b0 vb l) (hu : RW w b0 vu l) (hab : Apart va vb) (hau : Apart va vu) (hbu : Apart vb vu)
    (hb0 : b0 ≤ w.heap.size) (hl : l.length ≤ 100000000000) :
    Calls Tryd.prog 13 #[va, vb, vu] w fun e w' => e = .returned (.bool true) ∧ Below b0 w w' := by
  obtain ⟨A, ca, rfl, hca, hA⟩ := reads ha
  obtain ⟨B, cb, rfl, hcb, hB⟩ := reads hb
  obtain ⟨U, cu, rfl, hcu, hU⟩ := reads hu
  have HA := Lib.hid ha
  have HB := Lib.hid hb
  have HU := Lib.hid hu
  have HAB := Lib.hid hab
  have HAU := Lib.hid hau
  have HBU := Lib.hid hbu
  have CA := Lib.hid hA
  have CB := Lib.hid hB
  have CU := Lib.hid hU
  have HS := Lib.hid (same_f l (by omega))
  clear hab hau hbu hA hB hU
  have H0 := Lib.hid (start1 (p := ⟨-1, 0⟩) ha hb hu)
  clear ha hb hu
  go_enter Tryd.func13, Tryd.ntmps13
  go_wp2_with (go_at_call 23; (with_reducible refine (vesperref12_Same.calls (l.length + 1) _ _ l U cu l true _ ?_ ?_ ?_ hcu HS.out).mono ?_); (first | exact CA.out | exact Kd.C_drewN CB.out _); (first | exact hca | exact hcb); (first | exact CU.out | exact Kd.C_drewN CU.out _); rintro e w1 ⟨rfl, ⟨⟨n1, rfl⟩⟩⟩)
  go_loopw [7] (fun i wr => ∃ k : Nat, k ≤ l.length ∧ i = .int .i64 k ∧ Aside0 (Ph1 ⟨-1, 0⟩ b0 (.slice A l.length ca) (.slice B l.length cb) (.slice U l.length cu) l w k wr)) (fun i _ => l.length - (RowKit.intOf i).toNat)
  case atStart => exact ⟨0, Nat.zero_le _, rfl, H0.out _⟩
  case round =>
    obtain ⟨k, hk, rfl, HP⟩ := hrel
    by_cases hlt : k < l.length
    · obtain ⟨g, cap, e, ⟨u0, c0⟩, ⟨u1, c1⟩, f0, f1, hn⟩ := HP.out.step HAB.out HAU.out hlt
      have HN := Aside0.mk hn
      clear hn HP
      cases e
      have e0 : ((k : Int) < (l.length : Int)) := by omega
      go_wp2
      go_roundw
      case rel => exact ⟨k + 1, by omega, by go_num, HN⟩
      case measure => simp [RowKit.intOf]; omega
    · obtain rfl : k = l.length := by omega
      have P2 := HP.out.ends ⟨-2, 0⟩ ⟨-3, 0⟩ HAB.out HAU.out HBU.out (Nat.le_trans hb0 HP.out.bel.size)
      have HQ := Aside0.mk P2
      clear P2 HP
      go_wp2
      go_loopw [8, 9, 10] (fun vx vy i wr => ∃ k : Nat, k ≤ 20 ∧ i = .int .i64 k ∧ Aside0 (Ph2 ⟨-2, 0⟩ ⟨-3, 0⟩ b0 B cb (.slice U l.length cu) (List.replicate l.length ⟨-1, 0⟩) l w k k vx vy wr)) (fun _ _ i _ => 20 - (RowKit.intOf i).toNat)
      case atStart => exact ⟨0, Nat.zero_le _, rfl, HQ⟩
      case round =>
        obtain ⟨k, hk, rfl, HP⟩ := hrel
        by_cases hlt : k < 20
        · obtain ⟨g1, cap1, w1, hr1, h1⟩ := HP.out.stepx (by simp; omega)
          obtain ⟨g2, cap2, w2, hr2, h2⟩ := h1.stepy (by omega)
          have HN := Aside0.mk h2
          clear h1 h2 HP HQ
          simp only [List.length_replicate] at hr1 hr2 HN
          go_wp2
          go_roundw
          case rel => exact ⟨k + 1, by omega, by go_num, HN⟩
          case measure => simp [RowKit.intOf]; omega
        · obtain rfl : k = 20 := by omega
          clear HQ
          obtain ⟨gx, cx, ex, _, _⟩ := HP.out.x.form (by simp)
          obtain ⟨gy, cy, ey, _, _⟩ := HP.out.y.form (by simp)
          simp only [List.length_append, List.length_replicate] at ex ey
          subst ex ey
          go_wp2
          go_loop [11] (fun i => ∃ k : Nat, l.length ≤ k ∧ k ≤ l.length + 20 ∧ i = .int .i64 k) (fun i => l.length + 20 - (RowKit.intOf i).toNat)
          case atStart => exact ⟨l.length, Nat.le_refl _, by omega, rfl⟩
          case round =>
            obtain ⟨k, hk0, hk1, rfl⟩ := hrel
            by_cases hlt : k < l.length + 20
            · obtain ⟨ax, ay⟩ := HP.out.at_x k (by simp) rfl hk0 hlt
              simp only [add_plain] at ax ay
              have i0 : (0 : Int) ≤ (k : Int) := by omega
              have i1 : (k : Int) < ((l.length + 20 : Nat) : Int) := by omega
              go_wp2
              go_round
              case rel => exact ⟨k + 1, by omega, by omega, by go_num⟩
              case measure => simp [RowKit.intOf]; omega
            · obtain rfl : k = l.length + 20 := by omega
              have RB := Aside0.mk HP.out.readsb
              have RU := Aside0.mk HP.out.u
              go_wp2_with (go_at_call 23; (with_reducible refine (vesperref12_Same.calls (l.length + 1) _ _ l U cu l true _ ?_ ?_ ?_ hcu HS.out).mono ?_); (exact RB.out); (exact hcb); (exact (Kd.R_reads' RU.out).2.2); rintro e w1 ⟨rfl, ⟨⟨n1, rfl⟩⟩⟩)
              go_ret
              exact ⟨rfl, pw_below_drewN HP.out.bel _⟩
end Go.Proofs.YtdibgdiiamcmfaaDoor.Waves
