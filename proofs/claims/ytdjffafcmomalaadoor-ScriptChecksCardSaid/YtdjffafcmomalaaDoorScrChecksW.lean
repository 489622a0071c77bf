/- The law vesperlaw07.ScriptChecks, walked: it answers true. -/
import Derived.Test.YtdjffafcmomalaaDoorScrM5
import Derived.Test.YtdjffafcmomalaaDoorPScrxA
import Derived.Deep.RegionWith
set_option linter.unusedVariables false
set_option linter.unusedSimpArgs false
namespace Go.Proofs.YtdjffafcmomalaaDoor.ChecksW
open Go Go.RowKit
open Go.Proofs.YtdjffafcmomalaaDoorW.PrintWords Go.Proofs.YtdjffafcmomalaaDoor.PScr Go.Proofs.YtdjffafcmomalaaDoor.Scr Go.Proofs.YtdjffafcmomalaaDoor.Lent

theorem awake_ok (k : Nat) (h : 40 ≤ k) : vesperlaw07_awake.f k = some true :=
  at_rounds vesperlaw07_awake.mono h (by decide +kernel)

theorem cells_at {w w1 : World} {ad : Addr} {n : Nat} {l : List S34} (h : Kd.C k34 w (some ad) n l) (hb : Below w.heap.size w w1) (k : Nat) (hk : k < l.length) (hn : n = l.length) :
    w1.cell? (ad.add (k * 10)) = some (.int .i64 l[k].f0) ∧ w1.cell? ⟨(ad.add (k * 10)).block, (ad.add (k * 10)).off + 1, none⟩ = some (.int .u16 l[k].f1) ∧ w1.cell? ⟨(ad.add (k * 10)).block, (ad.add (k * 10)).off + 2, none⟩ = some (.bool l[k].f2) ∧ w1.cell? ⟨(ad.add (k * 10)).block, (ad.add (k * 10)).off + 3, none⟩ = some (.bool l[k].f3) ∧ w1.cell? ⟨(ad.add (k * 10)).block, (ad.add (k * 10)).off + 4, none⟩ = some (.bool l[k].f4) ∧ w1.cell? ⟨(ad.add (k * 10)).block, (ad.add (k * 10)).off + 5, none⟩ = some (.bool l[k].f5) ∧ w1.cell? ⟨(ad.add (k * 10)).block, (ad.add (k * 10)).off + 6, none⟩ = some (.bool l[k].f6) ∧ w1.cell? ⟨(ad.add (k * 10)).block, (ad.add (k * 10)).off + 7, none⟩ = some (.bool l[k].f7) ∧ w1.cell? ⟨(ad.add (k * 10)).block, (ad.add (k * 10)).off + 8, none⟩ = some (.bool l[k].f8) ∧ w1.cell? ⟨(ad.add (k * 10)).block, (ad.add (k * 10)).off + 9, none⟩ = some (.int .u8 l[k].f9) := by
  obtain ⟨ad', e, q0, q1, q2, q3, q4, q5, q6, q7, q8, q9⟩ := at_T34 h (k : Int) (by omega) (by omega)
  cases e
  have hrd : rd_T34 l (k : Int) = l[k] := by
    unfold rd_T34
    rw [Int.toNat_natCast, List.getD_eq_getElem?_getD, List.getElem?_eq_getElem hk]; rfl
  rw [hrd] at q0 q1 q2 q3 q4 q5 q6 q7 q8 q9
  rw [Int.toNat_natCast] at q0 q1 q2 q3 q4 q5 q6 q7 q8 q9
  exact ⟨(hb.cell (World.block_lt_of_cell? w _ q0)).trans q0, (hb.cell (World.block_lt_of_cell? w _ q1)).trans q1, (hb.cell (World.block_lt_of_cell? w _ q2)).trans q2, (hb.cell (World.block_lt_of_cell? w _ q3)).trans q3, (hb.cell (World.block_lt_of_cell? w _ q4)).trans q4, (hb.cell (World.block_lt_of_cell? w _ q5)).trans q5, (hb.cell (World.block_lt_of_cell? w _ q6)).trans q6, (hb.cell (World.block_lt_of_cell? w _ q7)).trans q7, (hb.cell (World.block_lt_of_cell? w _ q8)).trans q8, (hb.cell (World.block_lt_of_cell? w _ q9)).trans q9⟩

set_option maxRecDepth 100000 in
set_option maxHeartbeats 4000000 in
theorem checks_law (A : Option Addr) (c : Nat) (l : List S34) (w : World) (hr : Kd.C k34 w A l.length l) (hc : l.length ≤ c) (hG : GOk w) :
    Calls Tryd.prog 4 #[.slice A l.length c] w fun e w' => e = .returned (.bool true) ∧ Below w.heap.size w w' := by
  have HR := Aside0.mk hr
  have HC := Aside0.mk hc
  have HG := Aside0.mk hG
  clear hr hc hG
  by_cases hbig : 2147483647 < l.length
  · go_enter Tryd.func4, Tryd.ntmps4
    go_wp2
    go_ret
    exact ⟨rfl, Below.refl _ _⟩
  · obtain ⟨⟨n, f⟩, hcy⟩ : ∃ q, cyclesR l = q := ⟨_, rfl⟩
    have h1 := cycles_f 5000 l (Nat.le_refl _)
    have h2 := check_f 5000 l (Nat.le_refl _)
    have h3 := rcycles_f 5000 l (Nat.le_refl _)
    have h4 := rcheck_f 5000 l (Nat.le_refl _)
    rw [hcy] at h1 h2 h3 h4
    have H1 := Aside0.mk h1
    have H2 := Aside0.mk h2
    have H3 := Aside0.mk h3
    have H4 := Aside0.mk h4
    have HL := Aside0.mk (show l.length ≤ 100000000000 by omega)
    clear h1 h2 h3 h4 hcy
    go_enter Tryd.func4, Tryd.ntmps4
    go_wp2_with fail
    (with_reducible refine (Lent.lent_calls A c l _ HR.out HC.out HL.out).mono ?_)
    rintro e w1 ⟨g, hg, rfl, hx1, hb1⟩
    have X1 := Aside0.mk hx1
    have B1 := Aside0.mk hb1
    have G1 := Aside0.mk hg
    have C1 := Aside0.mk (lent_C hx1)
    clear hx1 hb1 hg
    go_wp2_with fail
    (with_reducible refine (script_Check.calls 5000 (some ⟨g, 0, none⟩) (l.length + 1) l f _ C1.out (Nat.le_succ _) H2.out).mono ?_)
    rintro e w2 ⟨rfl, hb2⟩
    have X2 : Aside0 (RW w2 w.heap.size (.slice (some ⟨g, 0, none⟩) (l.length + 1) (l.length + 1)) (l ++ [markS (-77)])) := ⟨Kd.R_below X1.out hb2⟩
    have B2 := Aside0.mk (below_step B1.out hb2)
    have C2 := Aside0.mk (lent_C X2.out)
    clear hb2 X1 C1
    go_wp2_with fail
    (with_reducible refine (script_Cycles.calls 5000 (some ⟨g, 0, none⟩) (l.length + 1) l n f _ C2.out (Nat.le_succ _) H1.out).mono ?_)
    rintro e w2' ⟨rfl, hb2⟩
    have X3 : Aside0 (RW w2' w.heap.size (.slice (some ⟨g, 0, none⟩) (l.length + 1) (l.length + 1)) (l ++ [markS (-77)])) := ⟨Kd.R_below X2.out hb2⟩
    have B2' := Aside0.mk (below_step B2.out hb2)
    have R2 := Aside0.mk (Kd.C_below HR.out B2'.out)
    clear hb2 X2 C2
    go_wp2_with fail
    (with_reducible refine (Lent.back_calls A c l g w.heap.size _ R2.out HC.out HL.out X3.out).mono ?_)
    rintro e w3 ⟨rfl, hg3⟩
    have B3 := Aside0.mk (B2'.out.grown hg3 B2'.out.size (fun k hk => by cases hk; exact G1.out))
    have R3 := Aside0.mk (Kd.C_below HR.out B3.out)
    clear hg3 X3 R2
    go_wp2_with fail
    (with_reducible refine (vesperref07_Check.calls 5000 A c l f _ R3.out HC.out H4.out).mono ?_)
    rintro e w4 ⟨rfl, hd4⟩
    have B4 := Aside0.mk (below_step B3.out hd4.below)
    have R4 := Aside0.mk (Kd.C_below HR.out B4.out)
    clear hd4
    go_wp2_with fail
    (with_reducible refine (vesperref07_Cycles.calls 5000 A c l n f _ R4.out HC.out H3.out).mono ?_)
    rintro e w5 ⟨rfl, hd5⟩
    have B5 := Aside0.mk (below_step B4.out hd5.below)
    clear hd5
    go_wp2_with fail
    go_loopw [9] (fun i wr => ∃ k : Nat, k ≤ l.length ∧ i = .int .i64 k ∧ Aside0 (Below w.heap.size w wr)) (fun i _ => l.length - (RowKit.intOf i).toNat)
    case atStart => exact ⟨0, Nat.zero_le _, rfl, B5⟩
    case round =>
      obtain ⟨k, hk, rfl, HB⟩ := hrel
      have hend : ∀ W : World, Aside0 (Below w.heap.size w W) → True := fun _ _ => trivial
      clear hend
      by_cases hlt : k < l.length
      · by_cases h5 : k < 5000
        · cases A with
          | none =>
            exfalso
            obtain ⟨ad, e, _⟩ := HR.out.2.2 (by omega)
            cases e
          | some ad =>
            obtain ⟨q0, q1, q2, q3, q4, q5, q6, q7, q8, q9⟩ := cells_at HR.out HB.out k hlt rfl
            have hk0 : (k : Int) < (l.length : Int) := by omega
            have i0 : 0 ≤ (k : Int) := by omega
            obtain ⟨m, hm⟩ : ∃ m, modeR l[k] = m := ⟨_, rfl⟩
            have M1 := Aside0.mk (mode_f 0 l[k])
            have M2 := Aside0.mk (rmode_f 0 l[k])
            rw [hm] at M1 M2
            clear hm
            go_wp2_with fail
            go_region_with (first | (go_at_call 19; (with_reducible refine (script_Mode.calls 1 l[k].f0 l[k].f1 l[k].f2 l[k].f3 l[k].f4 l[k].f5 l[k].f6 l[k].f7 l[k].f8 l[k].f9 m _ M1.out).mono ?_); rintro e w6 ⟨rfl, hb⟩; have n0_ := Aside0.mk (below_step (by repeat (first | (with_reducible first | exact HB.out | apply below_alloc | apply pw_below_drewN | apply below_drew1) | exact HB.out)) hb); clear HB; have HB := n0_; clear n0_ hb q0 q1 q2 q3 q4 q5 q6 q7 q8 q9; obtain ⟨q0, q1, q2, q3, q4, q5, q6, q7, q8, q9⟩ := cells_at HR.out HB.out k hlt rfl) | (go_at_call 20; (with_reducible refine (vesperref07_Mode.calls 1 l[k].f0 l[k].f1 l[k].f2 l[k].f3 l[k].f4 l[k].f5 l[k].f6 l[k].f7 l[k].f8 l[k].f9 m _ M2.out).mono ?_); rintro e w6 ⟨rfl, hb⟩; have n0_ := Aside0.mk (below_step (by repeat (first | (with_reducible first | exact HB.out | apply below_alloc | apply pw_below_drewN | apply below_drew1) | exact HB.out)) hb); clear HB; have HB := n0_; clear n0_ hb q0 q1 q2 q3 q4 q5 q6 q7 q8 q9; obtain ⟨q0, q1, q2, q3, q4, q5, q6, q7, q8, q9⟩ := cells_at HR.out HB.out k hlt rfl))
            all_goals
              go_wp2
              go_roundw
              case rel => exact ⟨k + 1, by omega, by go_num, HB⟩
              case measure => simp [RowKit.intOf]; omega
        · have hk0 : (k : Int) < (l.length : Int) := by omega
          have hk5 : ¬ (k : Int) < 5000 := by omega
          have hkb : decide ((k : Int) < 5000) = false := decide_eq_false hk5
          go_wp2_with fail
          (with_reducible refine (vesperlaw07_awake.calls 40 true _ (awake_ok 40 (Nat.le_refl _)) (GOk.below HG.out HB.out)).mono ?_)
          rintro e w6 ⟨rfl, hb6⟩
          have B6 := Aside0.mk (below_step HB.out hb6)
          clear hb6
          go_wp2
          go_ret
          exact ⟨rfl, B6.out⟩
      · have hk0 : ¬ (k : Int) < (l.length : Int) := by omega
        go_wp2_with fail
        (with_reducible refine (vesperlaw07_awake.calls 40 true _ (awake_ok 40 (Nat.le_refl _)) (GOk.below HG.out HB.out)).mono ?_)
        rintro e w6 ⟨rfl, hb6⟩
        have B6 := Aside0.mk (below_step HB.out hb6)
        clear hb6
        go_wp2
        go_ret
        exact ⟨rfl, B6.out⟩
end Go.Proofs.YtdjffafcmomalaaDoor.ChecksW
