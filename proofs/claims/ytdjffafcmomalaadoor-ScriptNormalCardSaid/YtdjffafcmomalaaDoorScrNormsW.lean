/- The law vesperlaw07.ScriptNormal, walked: it answers true. -/
import Derived.Test.YtdjffafcmomalaaDoorScrNormsP
import Derived.Test.YtdjffafcmomalaaDoorScrOwnW
import Derived.Test.YtdjffafcmomalaaDoorPScrxA
set_option linter.unusedVariables false
set_option linter.unusedSimpArgs false
namespace Go.Proofs.YtdjffafcmomalaaDoor.NormsW
open Go Go.RowKit
open Go.Proofs.YtdjffafcmomalaaDoorW.PrintWords Go.Proofs.YtdjffafcmomalaaDoor.PScr Go.Proofs.YtdjffafcmomalaaDoor.Scr Go.Proofs.YtdjffafcmomalaaDoor.Lent Go.Proofs.YtdjffafcmomalaaDoor.Own

theorem awake_ok (k : Nat) (h : 40 ≤ k) : vesperlaw07_awake.f k = some true :=
  at_rounds vesperlaw07_awake.mono h (by decide +kernel)
theorem keepG {w w1 : World} {b g : Nat} {v : Value} {l : List S34} (h : RW w b v l) (hg : w.grownBy w1 (some g)) (hne : v.ownBlock ≠ some g) : RW w1 b v l :=
  Kd.R_grown2 h rfl hg (fun k hk => by cases hk; exact fun e => hne e.symm)

set_option maxRecDepth 100000 in
set_option maxHeartbeats 8000000 in
theorem norms_law (A : Option Addr) (c : Nat) (l : List S34) (w : World) (hr : Kd.C k34 w A l.length l) (hc : l.length ≤ c) (hG : GOk w) :
    Calls Tryd.prog 8 #[.slice A l.length c] w fun e w' => e = .returned (.bool true) ∧ Below w.heap.size w w' := by
  have HR := Aside0.mk hr
  have HC := Aside0.mk hc
  have HG := Aside0.mk hG
  clear hr hc hG
  by_cases hbig : 2147483647 < l.length
  · go_enter Tryd.func8, Tryd.ntmps8
    go_wp2
    go_ret
    exact ⟨rfl, Below.refl _ _⟩
  · obtain ⟨la, f, h1, h2, h3⟩ := normals l
    have H1 := Aside0.mk h1
    have H2 := Aside0.mk h2
    have H3 := Aside0.mk h3
    have HL := Aside0.mk (show l.length ≤ 100000000000 by omega)
    clear h1 h2 h3
    go_enter Tryd.func8, Tryd.ntmps8
    go_wp2_with fail
    (with_reducible refine (Lent.lent_calls A c l _ HR.out HC.out HL.out).mono ?_)
    rintro e w1 ⟨g, hg, rfl, hx1, hb1⟩
    have X1 := Aside0.mk hx1
    have B1 := Aside0.mk hb1
    have G1 := Aside0.mk hg
    have gl := Aside0.mk (Kd.R_lt hx1 g rfl)
    have C1 := Aside0.mk (lent_C hx1)
    clear hx1 hb1 hg
    go_wp2_with fail
    (with_reducible refine (script_Normal.calls 100000 (some ⟨g, 0, none⟩) (l.length + 1) l la f _ C1.out (Nat.le_succ _) H1.out).mono ?_)
    rintro e w2 ⟨va, rfl, ha, hB⟩
    have Xa := Aside0.mk (show RW w2 w1.heap.size va la from ha)
    have X2 : Aside0 (RW w2 w.heap.size (.slice (some ⟨g, 0, none⟩) (l.length + 1) (l.length + 1)) (l ++ [markS (-77)])) := ⟨Kd.R_below X1.out hB⟩
    have B2 := Aside0.mk (below_step B1.out hB)
    have R2 := Aside0.mk (Kd.C_below HR.out B2.out)
    have s1 := Aside0.mk (show w.heap.size ≤ w1.heap.size from B1.out.size)
    clear hB X1 C1 ha
    go_wp2_with fail
    (with_reducible refine (Lent.back_calls A c l g w.heap.size _ R2.out HC.out HL.out X2.out).mono ?_)
    rintro e w3 ⟨rfl, hg3⟩
    have B3 := Aside0.mk (B2.out.grown hg3 B2.out.size (fun k hk => by cases hk; exact G1.out))
    have Ya : Aside0 (RW w3 w.heap.size va la) := ⟨keepG (Kd.R_lower Xa.out s1.out) hg3 (fun e => by have := Kd.R_base Xa.out g e; have := gl.out; omega)⟩
    clear hg3 X2 R2 Xa
    go_wp2_with fail
    (with_reducible refine (script_Normal.calls 100000 A c l la f _ (Kd.C_below HR.out B3.out) HC.out H1.out).mono ?_)
    rintro e w4 ⟨vc, rfl, hc', hB⟩
    have Xc := Aside0.mk (show RW w4 w3.heap.size vc la from hc')
    have Xca := Aside0.mk (apart_later Ya.out Xc.out)
    have B4 := Aside0.mk (below_step B3.out hB)
    have Za : Aside0 (RW w4 w.heap.size va la) := ⟨Kd.R_below Ya.out hB⟩
    have Zc : Aside0 (RW w4 w.heap.size vc la) := ⟨Kd.R_lower Xc.out B3.out.size⟩
    clear hB hc' Ya Xc
    go_wp2_with fail
    (with_reducible refine (vesperref07_Normal.calls 100000 A c l la f _ (Kd.C_below HR.out B4.out) HC.out H2.out).mono ?_)
    rintro e w5 ⟨vu, rfl, hu, hB⟩
    have Wu := Aside0.mk (show RW w5 w4.heap.size vu la from hu)
    have B5 := Aside0.mk (below_step B4.out hB)
    have Wa : Aside0 (RW w5 w.heap.size va la) := ⟨Kd.R_below Za.out hB⟩
    have Wc : Aside0 (RW w5 w.heap.size vc la) := ⟨Kd.R_below Zc.out hB⟩
    clear hB hu Za Zc
    have FAM := Aside0.mk (((Fam.nil w.heap.size w5).cons Wc.out (fun u hu => by simp at hu)).cons Wa.out (fun u hu => by simp at hu; subst hu; exact Xca.out))
    clear Xca
    obtain ⟨Aa, ca, ea⟩ := Own.RW.sl Wa.out
    obtain ⟨Ac, cc, ec⟩ := Own.RW.sl Wc.out
    obtain ⟨Au, cu, eu⟩ := Own.RW.sl Wu.out
    subst ea ec eu
    clear Wa Wc
    go_wp2_with fail
    have FI : Aside0 (First w.heap.size w5.heap.size (w5.heap.size + 1) [.slice Aa la.length ca, .slice Ac la.length cc] [.slice Au la.length cu, .slice Au la.length cu] [la, la] w ((w5.alloc (.cells #[.slice Aa la.length ca, .slice Ac la.length cc] 23)).alloc (.cells #[.slice Au la.length cu, .slice Au la.length cu] 23))) := by
      have hb : Below w5.heap.size w5 ((w5.alloc (.cells #[.slice Aa la.length ca, .slice Ac la.length cc] 23)).alloc (.cells #[.slice Au la.length cu, .slice Au la.length cu] 23)) := below_alloc (below_alloc (Below.refl _ _) _) _
      refine ⟨⟨FAM.out.keep (fun _ _ _ _ hr => Own.RW.below hr hb), ⟨?_, below_step B5.out hb, Nat.le_trans B5.out.size hb.size⟩, ?_, ?_⟩⟩
      · rw [Below.block (below_alloc (Below.refl _ _) _) w5.heap.size (by simp)]
        exact heap_alloc_new w5 _
      · have := heap_alloc_new (w5.alloc (.cells #[.slice Aa la.length ca, .slice Ac la.length cc] 23)) (.cells #[.slice Au la.length cu, .slice Au la.length cu] 23)
        simpa using this
      · have Cu := Kd.C_below (Own.RW.c Wu.out) hb
        have lu := Own.RW.le Wu.out
        intro i u m hu hm
        match i, hu, hm with
        | 0, hu, hm => simp at hu hm; subst hu hm; exact ⟨_, _, rfl, Cu, lu⟩
        | 1, hu, hm => simp at hu hm; subst hu hm; exact ⟨_, _, rfl, Cu, lu⟩
        | i + 2, hu, hm => simp at hu
    (with_reducible refine (own_calls w.heap.size w5.heap.size (w5.heap.size + 1) _ _ _ w _ 2 rfl rfl (by decide) FI.out (by have := H3.out; intro m hm; simp at hm; subst hm; omega)).mono ?_)
    rintro e w6 ⟨rfl, hb6⟩
    have B6 := Aside0.mk hb6
    clear hb6 FI FAM
    go_wp2_with fail
    (with_reducible refine (vesperlaw07_awake.calls 40 true _ (awake_ok 40 (Nat.le_refl _)) (GOk.below HG.out B6.out)).mono ?_)
    rintro e w7 ⟨rfl, hb7⟩
    have B7 := Aside0.mk (below_step B6.out hb7)
    clear hb7
    go_wp2
    go_ret
    exact ⟨rfl, B7.out⟩
end Go.Proofs.YtdjffafcmomalaaDoor.NormsW
