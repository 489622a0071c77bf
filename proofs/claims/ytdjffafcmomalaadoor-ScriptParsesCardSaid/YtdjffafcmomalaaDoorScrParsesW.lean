/- The law vesperlaw07.ScriptParses, walked: it answers true. -/
import Derived.Test.YtdjffafcmomalaaDoorScrRefParse
import Derived.Test.YtdjffafcmomalaaDoorScrOwnW
import Derived.Test.YtdjffafcmomalaaDoorPScrxA
set_option linter.unusedVariables false
set_option linter.unusedSimpArgs false
namespace Go.Proofs.YtdjffafcmomalaaDoor.ParsesW
open Go Go.RowKit
open Go.Proofs.YtdjffafcmomalaaDoorW.PrintWords Go.Proofs.YtdjffafcmomalaaDoor.PScr Go.Proofs.YtdjffafcmomalaaDoor.Scr Go.Proofs.YtdjffafcmomalaaDoor.Lent Go.Proofs.YtdjffafcmomalaaDoor.Own

theorem awake_ok (k : Nat) (h : 40 ≤ k) : vesperlaw07_awake.f k = some true :=
  at_rounds vesperlaw07_awake.mono h (by decide +kernel)
theorem keepG {w w1 : World} {b g : Nat} {v : Value} {l : List S34} (h : RW w b v l) (hg : w.grownBy w1 (some g)) (hne : v.ownBlock ≠ some g) : RW w1 b v l :=
  Kd.R_grown2 h rfl hg (fun k hk => by cases hk; exact fun e => hne e.symm)

set_option maxRecDepth 100000 in
set_option maxHeartbeats 8000000 in
theorem parses_law (t : ByteArray) (w : World) (ht : t.size ≤ 281474976710656) (hG : GOk w) :
    Calls Tryd.prog 6 #[.string t] w fun e w' => e = .returned (.bool true) ∧ Below w.heap.size w w' := by
  have HG := Aside0.mk hG
  obtain ⟨⟨la, f, at_⟩, hp⟩ : ∃ q, parseR t.data.toList = q := ⟨_, rfl⟩
  have h3 : la.length ≤ 4096 := by
    by_cases c : f = 0
    · subst c; exact (parse_ok _ _ _ hp).2.2.1
    · rw [(parse_bad _ _ _ _ hp c).1]; simp
  have h1 : script_Parse.f t = some (la, f, at_) := by
    unfold script_Parse.f
    rw [if_pos ht, hp]
  have H1 := Aside0.mk h1
  have H2 := Aside0.mk hp
  have H3 := Aside0.mk h3
  clear h1 hp h3 hG
  go_enter Tryd.func6, Tryd.ntmps6
  go_wp2_with fail
  (with_reducible refine (script_Parse.calls t la f at_ _ H1.out HG.out).mono ?_)
  rintro e w2 ⟨va, rfl, ha, hB⟩
  have Xa := Aside0.mk (show RW w2 w.heap.size va la from ha)
  have B2 := Aside0.mk hB
  clear hB ha
  go_wp2_with fail
  (with_reducible refine (script_Parse.calls t la f at_ _ H1.out (GOk.below HG.out B2.out)).mono ?_)
  rintro e w3 ⟨vc, rfl, hc', hB⟩
  have Xc := Aside0.mk (show RW w3 w2.heap.size vc la from hc')
  have Xca := Aside0.mk (apart_later Xa.out Xc.out)
  have B3 := Aside0.mk (below_step B2.out hB)
  have Za : Aside0 (RW w3 w.heap.size va la) := ⟨Kd.R_below Xa.out hB⟩
  have Zc : Aside0 (RW w3 w.heap.size vc la) := ⟨Kd.R_lower Xc.out B2.out.size⟩
  clear hB hc' Xa Xc
  go_wp2_with fail
  (with_reducible refine (RefParse.rparse_calls t _ la f at_ H2.out (GOk.below HG.out B3.out)).mono ?_)
  rintro e w4 ⟨vu, rfl, hu, hB⟩
  have Wu := Aside0.mk (show RW w4 w3.heap.size vu la from hu)
  have B4 := Aside0.mk (below_step B3.out hB)
  have Wa : Aside0 (RW w4 w.heap.size va la) := ⟨Kd.R_below Za.out hB⟩
  have Wc : Aside0 (RW w4 w.heap.size vc la) := ⟨Kd.R_below Zc.out hB⟩
  clear hB hu Za Zc
  have FAM := Aside0.mk (((Fam.nil w.heap.size w4).cons Wc.out (fun u hu => by simp at hu)).cons Wa.out (fun u hu => by simp at hu; subst hu; exact Xca.out))
  clear Xca
  obtain ⟨Aa, ca, ea⟩ := Own.RW.sl Wa.out
  obtain ⟨Ac, cc, ec⟩ := Own.RW.sl Wc.out
  obtain ⟨Au, cu, eu⟩ := Own.RW.sl Wu.out
  subst ea ec eu
  clear Wa Wc
  go_wp2_with fail
  have FI : Aside0 (First w.heap.size w4.heap.size (w4.heap.size + 1) [.slice Aa la.length ca, .slice Ac la.length cc] [.slice Au la.length cu, .slice Au la.length cu] [la, la] w ((w4.alloc (.cells #[.slice Aa la.length ca, .slice Ac la.length cc] 23)).alloc (.cells #[.slice Au la.length cu, .slice Au la.length cu] 23))) := by
    have hb : Below w4.heap.size w4 ((w4.alloc (.cells #[.slice Aa la.length ca, .slice Ac la.length cc] 23)).alloc (.cells #[.slice Au la.length cu, .slice Au la.length cu] 23)) := below_alloc (below_alloc (Below.refl _ _) _) _
    refine ⟨⟨FAM.out.keep (fun _ _ _ _ hr => Own.RW.below hr hb), ⟨?_, below_step B4.out hb, Nat.le_trans B4.out.size hb.size⟩, ?_, ?_⟩⟩
    · rw [Below.block (below_alloc (Below.refl _ _) _) w4.heap.size (by simp)]
      exact heap_alloc_new w4 _
    · have := heap_alloc_new (w4.alloc (.cells #[.slice Aa la.length ca, .slice Ac la.length cc] 23)) (.cells #[.slice Au la.length cu, .slice Au la.length cu] 23)
      simpa using this
    · have Cu := Kd.C_below (Own.RW.c Wu.out) hb
      have lu := Own.RW.le Wu.out
      intro i u m hu hm
      match i, hu, hm with
      | 0, hu, hm => simp at hu hm; subst hu hm; exact ⟨_, _, rfl, Cu, lu⟩
      | 1, hu, hm => simp at hu hm; subst hu hm; exact ⟨_, _, rfl, Cu, lu⟩
      | i + 2, hu, hm => simp at hu
  (with_reducible refine (own_calls w.heap.size w4.heap.size (w4.heap.size + 1) _ _ _ w _ 2 rfl rfl (by decide) FI.out (by have := H3.out; intro m hm; simp at hm; subst hm; omega)).mono ?_)
  rintro e w6 ⟨rfl, hb6⟩
  have B6 := Aside0.mk hb6
  clear hb6 FI FAM
  go_wp2_with fail
  (with_reducible refine (vesperlaw07_awake.calls 40 true _ (awake_ok 40 (Nat.le_refl _)) (GOk.below HG.out B6.out)).mono ?_)
  rintro e w7 ⟨rfl, hb7⟩
  have B7 := Aside0.mk (below_step B6.out hb7)
  clear hb7
  go_wp2
  go_ret
  exact ⟨rfl, B7.out⟩
end Go.Proofs.YtdjffafcmomalaaDoor.ParsesW
