/- The law vesperlaw12.TapeWrites, walked: it answers true. -/
import Derived.Test.YtdibgdiiamcmfaaDoorTapeWritesP
import Derived.Test.YtdibgdiiamcmfaaDoorTapeWaves
import Derived.Test.YtdibgdiiamcmfaaDoorTapeLentL
import Derived.Deep.QuietTactic
import Derived.BigQuiet
set_option linter.unusedVariables false
set_option linter.unusedSimpArgs false
namespace Go.Proofs.YtdibgdiiamcmfaaDoor.WritesW
open Go Go.RowKit
open Go.Proofs.YtdibgdiiamcmfaaDoorW.PrintWords Go.Proofs.YtdibgdiiamcmfaaDoor.PTape Go.Proofs.YtdibgdiiamcmfaaDoor.Waves Go.Proofs.YtdibgdiiamcmfaaDoor.LentL
open Go.Proofs.YtdibgdiiamcmfaaDoor.Reader (GOk)
attribute [local go_sem ↓ high] copyG_eq

theorem awake_ok (k : Nat) (h : 30 ≤ k) : vesperlaw12_awake.f k = some true :=
  at_rounds vesperlaw12_awake.mono h (by decide +kernel)

theorem apart_old {w1 w2 : World} {b : Nat} {u v : Value} {l l' : List S37} (hu : RW w1 b u l) (hv : RW w2 w1.heap.size v l') : Apart u v := by
  intro k hk e
  have h1 := Kd.R_lt hu k hk
  have h2 := Kd.R_base hv k e.symm
  omega

theorem apart_drew {w1 w2 : World} {n b : Nat} {u v : Value} {l l' : List S37} (hu : RW w1 b u l) (hv : RW w2 (w1.drewN n).heap.size v l') : Apart u v := apart_old hu hv

theorem make_u8 (w : World) (n : Nat) (hn : n ≤ 1000000000000) : (Instr.makeSlice 23 (.int .i64 ((n : Int) + 1)) (.int .i64 ((n : Int) + 1))).run Tryd.prog w = .ok (.slice (some ⟨w.heap.size, 0, none⟩) (n + 1) (n + 1)) (w.alloc (.cells (madeCells (Value.int .u8 0).cells ((n + 1) * 1)) 5)) := by
  obtain ⟨i0, hi, hzz⟩ := Option.map_eq_some_iff.1 info5
  simp only [Prod.mk.injEq] at hzz
  obtain ⟨hz0, hz1, hz2⟩ := hzz
  have h := run_make (P := Tryd.prog) (w := w) 23 5 i0 _ Tryd.underlying23 hi hz0 .i64 .i64 ((n : Int) + 1) ((n : Int) + 1) (by omega) (Int.le_refl _) (by rw [hz2]; omega) (by omega)
  rw [hz1, show ((n : Int) + 1).toNat = n + 1 by omega] at h
  exact h

theorem take_C {w : World} {b g : Nat} {l : List Int} (h : (Kd.int .u8).R 5 w b (fun _ => True) (.slice (some ⟨g, 0, none⟩) (l.length + 1) (l.length + 1)) (l ++ [77])) : (Kd.int .u8).C w (some ⟨g, 0, none⟩) l.length l := by
  have := (Kd.R_reads' (Kd.R_take h (m := l.length) (by simp))).2.2
  simpa using this
theorem last_cell {w : World} {b g : Nat} {l : List Int} (h : (Kd.int .u8).R 5 w b (fun _ => True) (.slice (some ⟨g, 0, none⟩) (l.length + 1) (l.length + 1)) (l ++ [77])) : w.cell? ⟨g, l.length, none⟩ = some (.int .u8 77) := by
  obtain ⟨ad, e, q⟩ := Kd.at_int (Kd.R_reads' h).2.2 (l.length : Int) (by omega) (by simp; omega)
  cases e
  have hrd : rd (l ++ [(77 : Int)]) (l.length : Int) = 77 := by
    unfold rd
    rw [Int.toNat_natCast, List.getD_eq_getElem?_getD, List.getElem?_append_right (Nat.le_refl _), Nat.sub_self]; rfl
  rw [hrd] at q
  simpa only [add_plain, Int.toNat_natCast, Nat.zero_add] using q

set_option maxRecDepth 100000 in
set_option maxHeartbeats 4000000 in
theorem writes_law (A : Option Addr) (c : Nat) (l : List Int) (a : Int) (w : World) (hr : Kd.C (Kd.int .u8) w A l.length l) (hc : l.length ≤ c) (hb : ∀ n ∈ l, 0 ≤ n ∧ n < 256) (hG : GOk w) :
    Calls Tryd.prog 4 #[.slice A l.length c, .int .i64 a] w fun e w' => e = .returned (.bool true) ∧ Below w.heap.size w w' := by
  obtain ⟨⟨r, x⟩, h1, h2, h3⟩ := WritesP.write_same l hb a
  have HR := Aside0.mk hr
  have HC := Aside0.mk hc
  have HG := Aside0.mk hG
  have H1 := Aside0.mk h1
  have H2 := Aside0.mk h2
  have H3 := Aside0.mk h3
  clear hr hc hG h1 h2 h3 hb
  by_cases hbig : 2147483647 < l.length
  · go_enter Tryd.func4, Tryd.ntmps4
    go_wp2
    go_ret
    exact ⟨rfl, Below.refl _ _⟩
  · obtain ⟨W2, h2, hR, hB⟩ := lent_run (Kd.int .u8) (P := Tryd.prog) (fun h => h) 23 3 5 (.int .u8 0) 1 Tryd.underlying23 info5 rfl (by decide) 0 (w := w) rfl 1 c HR.out (by simp only [maxLen]; omega)
    have hm := make_u8 w l.length (by omega)
    have hlen : (l ++ List.replicate 1 (0 : Int)).length = l.length + 1 := by simp
    rw [← hlen] at hR
    obtain ⟨q0, f0⟩ := Kd.R_cell (0 : Int) hR (l.length : Int) (by omega) (by simp; omega)
    obtain ⟨hS, hGr⟩ := Kd.R_put hR (l.length : Int) (77 : Int)
    have hset : (l ++ List.replicate 1 (0 : Int)).set (l.length : Int).toNat 77 = l ++ [77] := by
      rw [Int.toNat_natCast, List.set_append_right _ _ (Nat.le_refl _), Nat.sub_self]; rfl
    rw [hset] at hS
    simp only [Int.toNat_natCast] at q0 f0 hS hGr
    rw [hlen] at hS
    have HS : Aside0 ((Kd.int .u8).R 5 (W2.setCell ⟨w.heap.size, l.length, none⟩ (.int .u8 77)) w.heap.size (fun _ => True) (.slice (some ⟨w.heap.size, 0, none⟩) (l.length + 1) (l.length + 1)) (l ++ [77])) := ⟨hS⟩
    have HB := Aside0.mk (hB.grown hGr hB.size (fun k hk => by cases hk; exact Nat.le_refl _))
    clear hS hB hR hGr hset hlen
    simp only [goInt] at h2
    rw [show (Kd.int .u8).sz = 1 from rfl] at h2
    generalize Obj.cells (madeCells (Value.int .u8 0).cells ((l.length + 1) * 1)) 5 = O at h2 hm
    go_enter Tryd.func4, Tryd.ntmps4
    go_wp2_with fail
    generalize W2.setCell ⟨w.heap.size, l.length, none⟩ (.int .u8 77) = W3 at HS HB ⊢
    (with_reducible refine (tape_Write.calls (some ⟨w.heap.size, 0, none⟩) (l.length + 1) l a r x _ (take_C HS.out) (Nat.le_succ _) H1.out).mono ?_)
    rintro e w1 ⟨v1, rfl, ho1, hb1⟩
    have O1 := Aside0.mk ho1
    have B1 := Aside0.mk (below_step HB.out hb1)
    have S1 := Aside0.mk (Kd.R_below HS.out hb1)
    have z1 : w.heap.size < w1.heap.size := Nat.lt_of_lt_of_le (Kd.R_lt HS.out _ rfl) hb1.size
    have R1 := Aside0.mk (Kd.C_below HR.out B1.out)
    have L1 := Aside0.mk (Kd.R_lower O1.out HB.out.size)
    clear ho1 hb1 HB HS O1
    have hcv1 := fun n => Kd.C_string (P := Tryd.prog) (A := some ⟨w.heap.size, 0, none⟩) (c := l.length + 1) Tryd.underlying23 Tryd.underlying5 Tryd.underlying9 (Kd.C_drewN (take_C S1.out) n)
    have hcv2 := fun n => Kd.C_string (P := Tryd.prog) (A := A) (c := c) Tryd.underlying23 Tryd.underlying5 Tryd.underlying9 (Kd.C_drewN R1.out n)
    have q1 := last_cell S1.out
    have i0 : (0 : Int) ≤ (l.length : Int) := by omega
    have i1 : (l.length : Int) ≤ ((l.length + 1 : Nat) : Int) := by omega
    have i2 : (l.length : Int) < ((l.length + 1 : Nat) : Int) := by omega
    clear h2 hm q0 f0
    go_wp2
    go_quiet (fail)
    clear hcv1 hcv2 q1 i0 i1 i2
    go_wp2_with fail
    (with_reducible refine (tape_Write.calls A c l a r x _ (Kd.C_drewN R1.out _) HC.out H1.out).mono ?_)
    rintro e w2 ⟨v2, rfl, ho2, hb2⟩
    have O2 := Aside0.mk ho2
    have L2 := Aside0.mk (Kd.R_below (Kd.R_drewN L1.out _) hb2)
    have B2 := Aside0.mk (below_step (pw_below_drewN B1.out _) hb2)
    have z2 : w1.heap.size ≤ w2.heap.size := hb2.size
    have R2 := Aside0.mk (Kd.C_below HR.out B2.out)
    clear ho2 hb2
    go_wp2_with fail
    (with_reducible refine (vesperref12_Write.calls 300000 A c l a r x _ R2.out HC.out H2.out).mono ?_)
    rintro e w3 ⟨v3, rfl, ho3, hb3⟩
    have O3 := Aside0.mk ho3
    have M1 := Aside0.mk (Kd.R_below L2.out hb3)
    have M2 := Aside0.mk (Kd.R_below O2.out hb3)
    have B3 := Aside0.mk (below_step B2.out hb3)
    clear ho3 hb3
    have hW : Aside0 (Calls Tryd.prog 13 #[v1, v2, v3] w3 fun e w' => e = .returned (.bool true) ∧ Below w.heap.size w3 w') :=
      ⟨waves_calls w.heap.size v1 v2 v3 r w3 M1.out (Kd.R_lower M2.out (Nat.le_trans (Nat.le_of_lt z1) (Nat.le_refl _))) (Kd.R_lower O3.out (Nat.le_trans (Nat.le_of_lt z1) z2)) (apart_drew L1.out O2.out) (apart_old L2.out O3.out) (apart_old O2.out O3.out) B3.out.size (Nat.le_trans H3.out (by decide))⟩
    clear z1 z2 O3 M1 M2 L1 L2 O2
    go_wp2_with fail
    (with_reducible refine hW.out.mono ?_)
    rintro e w4 ⟨rfl, hb4⟩
    have B4 := Aside0.mk (B3.out.trans hb4)
    clear hb4
    go_wp2_with fail
    (with_reducible refine (vesperlaw12_awake.calls 30 true _ (awake_ok 30 (Nat.le_refl _)) (GOk.below HG.out B4.out)).mono ?_)
    rintro e w5 ⟨rfl, hb5⟩
    have B5 := Aside0.mk (below_step B4.out hb5)
    clear hb5
    go_wp2
    go_ret
    exact ⟨rfl, B5.out⟩
end Go.Proofs.YtdibgdiiamcmfaaDoor.WritesW
