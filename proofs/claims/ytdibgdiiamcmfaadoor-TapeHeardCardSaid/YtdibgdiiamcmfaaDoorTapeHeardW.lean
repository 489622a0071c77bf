/- The law vesperlaw12.TapeHeard, walked: it answers true. -/
import Derived.Test.YtdibgdiiamcmfaaDoorTapeHeardP
import Derived.Test.YtdibgdiiamcmfaaDoorTapeWaves
import Derived.Test.YtdibgdiiamcmfaaDoorTapeBackP
set_option linter.unusedVariables false
set_option linter.unusedSimpArgs false
namespace Go.Proofs.YtdibgdiiamcmfaaDoor.HeardW
open Go Go.RowKit
open Go.Proofs.YtdibgdiiamcmfaaDoorW.PrintWords Go.Proofs.YtdibgdiiamcmfaaDoor.PTape Go.Proofs.YtdibgdiiamcmfaaDoor.Waves Go.Proofs.YtdibgdiiamcmfaaDoor.HeardP
open Go.Proofs.YtdibgdiiamcmfaaDoor.Reader (GOk)

theorem apart_old {w1 w2 : World} {b : Nat} {u v : Value} {l l' : List S37} (hu : RW w1 b u l) (hv : RW w2 w1.heap.size v l') : Apart u v := by
  intro k hk e
  have h1 := Kd.R_lt hu k hk
  have h2 := Kd.R_base hv k e.symm
  omega

set_option maxRecDepth 100000 in
set_option maxHeartbeats 4000000 in
theorem heard_law (A : Option Addr) (c : Nat) (l : List S44) (w : World) (hr : Kd.C k44 w A l.length l) (hc : l.length ≤ c) (hG : GOk w) :
    Calls Tryd.prog 7 #[.slice A l.length c] w fun e w' => e = .returned (.bool true) ∧ Below w.heap.size w w' := by
  obtain ⟨⟨r, x⟩, h1, h2, h3⟩ := heard_same l
  have HR := Aside0.mk hr
  have HC := Aside0.mk hc
  have HG := Aside0.mk hG
  have H1 := Aside0.mk h1
  have H2 := Aside0.mk h2
  have H3 := Aside0.mk h3
  clear hr hc hG h1 h2 h3
  by_cases hbig : 2147483647 < l.length
  · go_enter Tryd.func7, Tryd.ntmps7
    go_wp2
    go_ret
    exact ⟨rfl, Below.refl _ _⟩
  · go_enter Tryd.func7, Tryd.ntmps7
    go_wp2_with fail
    (with_reducible refine (tape_Heard.calls 40000 A c l r x _ HR.out HC.out H1.out).mono ?_)
    rintro e w1 ⟨v1, rfl, ho1, hb1⟩
    have O1 := Aside0.mk ho1
    have B1 := Aside0.mk hb1
    clear ho1 hb1
    go_wp2_with fail
    (with_reducible refine (tape_Heard.calls 40000 A c l r x _ (Kd.C_below HR.out B1.out) HC.out H1.out).mono ?_)
    rintro e w2 ⟨v2, rfl, ho2, hb2⟩
    have O2 := Aside0.mk ho2
    have P1 := Aside0.mk (Kd.R_below O1.out hb2)
    have B2 := Aside0.mk (below_step B1.out hb2)
    have B12 := Aside0.mk hb2
    clear ho2 hb2
    go_wp2_with fail
    (with_reducible refine (vesperref12_Heard.calls 40000 A c l r x _ (Kd.C_below HR.out B2.out) HC.out H2.out).mono ?_)
    rintro e w3 ⟨v3, rfl, ho3, hb3⟩
    have O3 := Aside0.mk ho3
    have Q1 := Aside0.mk (Kd.R_below P1.out hb3)
    have Q2 := Aside0.mk (Kd.R_below O2.out hb3)
    have B3 := Aside0.mk (below_step B2.out hb3)
    clear ho3 hb3
    have s1 : w.heap.size ≤ w1.heap.size := B1.out.size
    have s2 : w1.heap.size ≤ w2.heap.size := B12.out.size
    have HW := Aside0.mk (waves_calls w.heap.size v1 v2 v3 r w3 Q1.out (Kd.R_lower Q2.out s1) (Kd.R_lower O3.out (Nat.le_trans s1 s2)) (apart_old O1.out O2.out) (apart_old P1.out O3.out) (apart_old O2.out O3.out) B3.out.size (Nat.le_trans H3.out (by decide)))
    clear s1 s2
    go_wp2_with fail
    (with_reducible refine HW.out.mono ?_)
    rintro e w4 ⟨rfl, hb4⟩
    have B4 := Aside0.mk (B3.out.trans hb4)
    clear hb4
    go_wp2_with fail
    (with_reducible refine (vesperlaw12_awake.calls 30 true _ (BackP.awake_ok 30 (Nat.le_refl _)) (GOk.below HG.out B4.out)).mono ?_)
    rintro e w5 ⟨rfl, hb5⟩
    have B5 := Aside0.mk (below_step B4.out hb5)
    clear hb5
    go_wp2
    go_ret
    exact ⟨rfl, B5.out⟩
end Go.Proofs.YtdibgdiiamcmfaaDoor.HeardW
