/- The law vesperlaw07.ScriptPrints, walked: it answers true. -/
import Derived.Test.YtdjffafcmomalaaDoorScrPrintsP
import Derived.Test.YtdjffafcmomalaaDoorScrM5
import Derived.Test.YtdjffafcmomalaaDoorPScrxA
set_option linter.unusedVariables false
set_option linter.unusedSimpArgs false
namespace Go.Proofs.YtdjffafcmomalaaDoor.PrintsW
open Go Go.RowKit
open Go.Proofs.YtdjffafcmomalaaDoorW.PrintWords Go.Proofs.YtdjffafcmomalaaDoor.PScr Go.Proofs.YtdjffafcmomalaaDoor.Scr Go.Proofs.YtdjffafcmomalaaDoor.Lent

theorem awake_ok (k : Nat) (h : 40 ≤ k) : vesperlaw07_awake.f k = some true :=
  at_rounds vesperlaw07_awake.mono h (by decide +kernel)

set_option maxRecDepth 100000 in
set_option maxHeartbeats 4000000 in
theorem prints_law (A : Option Addr) (c : Nat) (l : List S34) (w : World) (hr : Kd.C k34 w A l.length l) (hc : l.length ≤ c) (ho : l.all okS = true) (hG : GOk w) :
    Calls Tryd.prog 5 #[.slice A l.length c] w fun e w' => e = .returned (.bool true) ∧ Below w.heap.size w w' := by
  have HR := Aside0.mk hr
  have HC := Aside0.mk hc
  have HG := Aside0.mk hG
  clear hr hc hG
  by_cases hbig : 2147483647 < l.length
  · go_enter Tryd.func5, Tryd.ntmps5
    go_wp2
    go_ret
    exact ⟨rfl, Below.refl _ _⟩
  · obtain ⟨⟨r, x⟩, hpr⟩ : ∃ q, printR l = q := ⟨_, rfl⟩
    have h1 := print_f l ho
    have h2 := rprint_f 5000 l (Nat.le_refl _) ho
    rw [hpr] at h1 h2
    have H1 := Aside0.mk h1
    have H2 := Aside0.mk h2
    have HL := Aside0.mk (show l.length ≤ 100000000000 by omega)
    clear h1 h2 hpr ho
    go_enter Tryd.func5, Tryd.ntmps5
    go_wp2_with fail
    (with_reducible refine (Lent.lent_calls A c l _ HR.out HC.out HL.out).mono ?_)
    rintro e w1 ⟨g, hg, rfl, hx1, hb1⟩
    have X1 := Aside0.mk hx1
    have B1 := Aside0.mk hb1
    have G1 := Aside0.mk hg
    have C1 := Aside0.mk (lent_C hx1)
    clear hx1 hb1 hg
    go_wp2_with fail
    (with_reducible refine (script_Print.calls (some ⟨g, 0, none⟩) (l.length + 1) l r x _ C1.out (Nat.le_succ _) H1.out (GOk.below HG.out B1.out)).mono ?_)
    rintro e w2 ⟨rfl, hb2⟩
    have X2 : Aside0 (RW w2 w.heap.size (.slice (some ⟨g, 0, none⟩) (l.length + 1) (l.length + 1)) (l ++ [markS (-77)])) := ⟨Kd.R_below X1.out hb2⟩
    have B2 := Aside0.mk (below_step B1.out hb2)
    have R2 := Aside0.mk (Kd.C_below HR.out B2.out)
    clear hb2 X1 C1
    go_wp2_with fail
    (with_reducible refine (Lent.back_calls A c l g w.heap.size _ R2.out HC.out HL.out X2.out).mono ?_)
    rintro e w3 ⟨rfl, hg3⟩
    have B3 := Aside0.mk (B2.out.grown hg3 B2.out.size (fun k hk => by cases hk; exact G1.out))
    have R3 := Aside0.mk (Kd.C_below HR.out B3.out)
    clear hg3 X2
    go_wp2_with fail
    (with_reducible refine (vesperref07_Print.calls 5000 A c l r x _ R3.out HC.out H2.out (GOk.below HG.out B3.out)).mono ?_)
    rintro e w4 ⟨rfl, hb4⟩
    have B4 := Aside0.mk (below_step B3.out hb4)
    clear hb4
    go_wp2_with fail
    (with_reducible refine (vesperlaw07_awake.calls 40 true _ (awake_ok 40 (Nat.le_refl _)) (GOk.below HG.out B4.out)).mono ?_)
    rintro e w5 ⟨rfl, hb5⟩
    have B5 := Aside0.mk (below_step B4.out hb5)
    clear hb5
    go_wp2
    go_ret
    exact ⟨rfl, B5.out⟩
end Go.Proofs.YtdjffafcmomalaaDoor.PrintsW
